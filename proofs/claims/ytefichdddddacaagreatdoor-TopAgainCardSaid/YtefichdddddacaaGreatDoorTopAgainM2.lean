/- Lemmas for 'quietus/quietustop.TopAgain': Blocks of words: by the program;Blocks of words: by the documents own text;Numbers brought into bounds;Are two lists of numbers the same?;Are two lists of ... No condition. -/
import Derived.Test.YtefichdddddacaaGreatDoorTopAgainM1
import Derived.Test.YtefichdddddacaaGreatDoorTopAgainAe7
import Derived.Test.YtefichdddddacaaGreatDoorTopAgainT
import Derived.KernelRfl
import Derived.Lib.ItoaLen
import Derived.Lib.Join
namespace Go.Proofs.YtefichdddddacaaGreatDoor
open Go Go.Ae
set_option maxRecDepth 100000
section
variable {g h:AH} {L R:List SP}
def vZ (x:Int):Int:=if x=1 then 2 else if x=2 then 4 else if x=3 then 8 else if x=4 then 16 else 0
def zX (x:Int):Int:=if x<1 then 0 else if x≤2 then 1 else if x≤4 then 2 else if x≤8 then 3 else if x≤16 then 4 else 0
theorem Mr (x:Int):0≤vZ x∧vZ x≤16:=by unfold vZ;repeat' split<;>omega
theorem ZN (x:Int):0≤zX x∧zX x≤4:=by unfold zX;repeat' split<;>omega
structure nl (M:VM):Prop where
  k:∀c∈M.K,0≤c.2∧c.2<18446744073709551616
  l:∀x∈M.lv,∀c∈x.1,0≤c.2∧c.2<18446744073709551616
theorem VL {P:Int→Prop} {p x:Int}:∀{l:List Cl},(∀c∈l,P c.2)→zW p l=some x→P x:=by
 intro l
 induction l with
 |nil=>intro _ h;cases h
 |cons c l ih=>
  intro h e;unfold zW at e
  split at e
  ·cases e;exact h c (iK ..)
  ·exact ih (λd hd=>h d (iX _ hd)) e
theorem qGP {P:Int→Prop} {p x:Int}:∀{lv:List bz},(∀y∈lv,∀c∈y.1,P c.2)→Yp p lv=some x→P x:=by
 intro lv
 induction lv with
 |nil=>intro _ h;cases h
 |cons y r ih=>
  intro h e;unfold Yp at e
  split at e
  ·rename_i v hv;cases e;exact VL (h y (iK ..)) hv
  ·exact ih (λz hz=>h z (iX _ hz)) e
theorem nl.read {M:VM} {p:Int} (W:nl M):0≤(qe M p).1.1∧(qe M p).1.1<18446744073709551616:=by
 unfold qe
 split
 ·split
  ·rename_i x hx;exact qGP (P:=λx=>0≤x∧x<18446744073709551616) W.l hx
  ·split
   ·rename_i x hx;exact VL (P:=λx=>0≤x∧x<18446744073709551616) W.k hx
   ·show(0:Int)≤0∧(0:Int)<18446744073709551616;omega
 ·show(0:Int)≤0∧(0:Int)<18446744073709551616;omega
theorem nl.lY {M:VM} {p:Int} (W:nl M):nl (qe M p).2:=by
 unfold qe
 repeat' split
 all_goals exact⟨W.k,W.l⟩
def fL (cs:List Cl):Prop:=∀c∈cs,0≤c.2∧c.2<18446744073709551616
theorem fL.put {l:List Cl} {p v:Int} (h:fL l) (hv:0≤v∧v<18446744073709551616):fL (yP p v l):=by
 induction l with
 |nil=>intro c hc;simp[yP]at hc;subst hc;exact hv
 |cons a l ih=>
  unfold yP
  split
  ·intro c hc;rcases List.mem_cons.1 hc with rfl |hc
   ·exact hv
   ·exact h c (iX _ hc)
  ·intro c hc;rcases List.mem_cons.1 hc with rfl |hc
   ·exact h _ (iK ..)
   ·exact ih (λc hc=>h c (iX _ hc)) c hc
theorem fL.nQ:∀{cs l:List Cl},fL l→fL cs→fL (yF l cs):=by
 intro cs
 induction cs with
 |nil=>intro l h _;exact h
 |cons c cs ih=>intro l h hc;exact ih (h.put (hc c (iK ..))) λd hd=>hc d (iX _ hd)
theorem qYi {most:Nat} {aR:List bz} (hw:∀x∈aR,fL x.1):∀{cs:List Cl} {lv:List bz},fL cs→(∀x∈lv,fL x.1)→∀x∈(vq most aR lv cs).2,fL x.1:=by
 intro cs
 induction cs with
 |nil=>intro lv _ h;exact h
 |cons c cs ih=>
  intro lv hc h;rw[vP]
  split
  ·refine ih (λd hd=>hc d (iX _ hd)) ?_;cases lv with
   |nil=>exact h
   |cons y r=>
    unfold vL;dsimp only
    split
    ·exact h
    ·split
     ·exact h
     ·intro x hx;rcases List.mem_cons.1 hx with rfl |hx
      ·exact(show fL y.1 from h y (iK ..)).put (hc c (iK ..))
      ·exact h x (iX _ hx)
  ·exact hw
theorem nl.take {M:VM} {cs:List Cl} (W:nl M) (hc:fL cs):nl (zJ M cs).2:=by
 unfold zJ
 split
 ·exact⟨W.k,qYi W.l hc W.l⟩
 ·exact W
def xf (M:VM) (c b:Int):(Int×Int)×VM :=
 if 2147483648≤b then((0,2),M)else
 if(qe M b).1.2=0 then
  (if(zJ (qe M b).2 [(c,(qe M b).1.1),(b-1,c+8)]).1=0 then((b,0),(zJ (qe M b).2 [(c,(qe M b).1.1),(b-1,c+8)]).2)
   else((0,(zJ (qe M b).2 [(c,(qe M b).1.1),(b-1,c+8)]).1),(zJ (qe M b).2 [(c,(qe M b).1.1),(b-1,c+8)]).2))
 else((0,(qe M b).1.2),(qe M b).2)
def xe (M:VM) (c:Int):(Int×Int)×VM :=
 if(qe M 5).1.2=0 then
  (if(qe M 5).1.1<14∨2147483648≤(qe M 5).1.1∨(M.sz:Int)<(qe M 5).1.1+1+vZ c then((0,4),(qe M 5).2)
   else if(zJ (qe M 5).2 [(5,(qe M 5).1.1+1+vZ c),((qe M 5).1.1,c+8)]).1=0 then(((qe M 5).1.1+1,0),(zJ (qe M 5).2 [(5,(qe M 5).1.1+1+vZ c),((qe M 5).1.1,c+8)]).2)
   else((0,(zJ (qe M 5).2 [(5,(qe M 5).1.1+1+vZ c),((qe M 5).1.1,c+8)]).1),(zJ (qe M 5).2 [(5,(qe M 5).1.1+1+vZ c),((qe M 5).1.1,c+8)]).2))
 else((0,(qe M 5).1.2),(qe M 5).2)
def jO (M:VM) (n:Int):(Int×Int)×VM :=
 if zX n=0 then((0,3),M)else
 if(qe M (zX n)).1.2=0 then
  (if(qe M (zX n)).1.1=0 then xe (qe M (zX n)).2 (zX n)else xf (qe M (zX n)).2 (zX n) (qe M (zX n)).1.1)
 else((0,(qe M (zX n)).1.2),(qe M (zX n)).2)
def Xo (w:Int):Int×Bool:=if 1≤w∧w≤4 then(w,false)else if 9≤w∧w≤12 then(w-8,true)else(0,false)
def jm (M:VM) (b:Int):(Int×Bool×Int)×VM :=
 if b≤14∨M.sz≤b then((0,false,2),M)else
 if(qe M (b-1)).1.2=0 then
  (if(Xo (qe M (b-1)).1.1).1=0 then((0,false,2),(qe M (b-1)).2)else(((Xo (qe M (b-1)).1.1).1,(Xo (qe M (b-1)).1.1).2,0),(qe M (b-1)).2))
 else((0,false,(qe M (b-1)).1.2),(qe M (b-1)).2)
def vV (M:VM) (b:Int):Int×VM :=
 if(jm M b).1.2.2=0 then
  (if(jm M b).1.2.1=true then
   (if(zJ (jm M b).2 [(b-1,(jm M b).1.1)]).1=0 then(0,eL (zJ (jm M b).2 [(b-1,(jm M b).1.1)]).2 b)else zJ (jm M b).2 [(b-1,(jm M b).1.1)])
  else(2,(jm M b).2))
 else((jm M b).1.2.2,(jm M b).2)
def zY (M:VM) (b:Int):Int×VM :=
 if(jm M b).1.2.2=0 then
  (if(jm M b).1.2.1=true then(2,(jm M b).2)else
   if(qe (jm M b).2 (jm M b).1.1).1.2=0 then zJ (qe (jm M b).2 (jm M b).1.1).2 [(b,(qe (jm M b).2 (jm M b).1.1).1.1),((jm M b).1.1,b)]
   else((qe (jm M b).2 (jm M b).1.1).1.2,(qe (jm M b).2 (jm M b).1.1).2))
 else((jm M b).1.2.2,(jm M b).2)
theorem qYe {M:VM} {p:Int}:(qe M p).2.sz=M.sz:=by
 unfold qe
 repeat' split
 all_goals rfl
theorem qzt (w:Int):0≤(Xo w).1∧(Xo w).1≤4:=by
 unfold Xo
 repeat' split
 all_goals dsimp only
 all_goals omega
theorem Nq (M:VM) (b:Int):0≤(jm M b).1.1∧(jm M b).1.1≤4∧((jm M b).1.2.2=0→14<b∧b<M.sz):=by
 unfold jm
 split
 ·exact⟨Int.le_refl 0,by show(0:Int)≤4;omega,λh=>by cases h⟩
 ·split
  ·split
   ·exact⟨Int.le_refl 0,by show(0:Int)≤4;omega,λh=>by cases h⟩
   ·have:=qzt (qe M (b-1)).1.1;exact⟨this.1,this.2,λ_=>by omega⟩
  ·exact⟨Int.le_refl 0,by show(0:Int)≤4;omega,λ_=>by omega⟩
theorem XD {M:VM} {b:Int} (O:dp M):dp (jm M b).2:=by
 unfold jm
 split
 ·exact O
 ·split
  ·split<;>exact xN O
  ·exact xN O
theorem qk2 {M:VM} {b:Int} (O:nl M):nl (jm M b).2:=by
 unfold jm
 split
 ·exact O
 ·split
  ·split<;>exact O.lY
  ·exact O.lY
theorem qqe {M:VM} {b:Int} (O:dp M) (hf:∀x∈M.lv,x.2.length+1<100000):dp (eL M b):=by
 refine⟨O.lo,O.hi,qYf O.hP,O.ins,O.un,?_⟩;show∀x∈Ji M.lv b,x.2.length<100000;cases hl:M.lv with
 |nil=>intro x hx;cases hx
 |cons y r=>
  rw[hl]at hf;intro x hx;rcases List.mem_cons.1 hx with rfl |hx
  ·have:=hf y (iK ..);simpa using this
  ·have:=hf x (iX _ hx);omega
theorem J4 {n:Nat} (hn:1≤n) {x:Int}:aA n 6 [.int .i64 x] h λv h'=>v=.int .i64 (vZ x)∧h'=h:=by
 refine ay (S:=S6) rfl omQ λk hk=>?_;unfold S6;try simp only[iZ]
 repeat' (first |with_reducible refine qX ?_ |with_reducible refine qJ ?_ |(with_reducible refine qa ?_;try dsimp only) |(with_reducible refine jJ ?_;try dsimp only) |(with_reducible refine qU ?_;try dsimp only) |(with_reducible refine qd ?_;try dsimp only) |(with_reducible refine zF ?_;try dsimp only) |with_reducible refine qH ?_ |with_reducible refine qI ?_ |(with_reducible refine qW ?_;try dsimp only) |with_reducible refine qk ?_ |with_reducible refine jY ?_ |with_reducible refine jB ?_ |with_reducible refine qb omQ ?_ |with_reducible refine zD omQ ?_ |with_reducible refine yv omQ ?_ |with_reducible refine gV omQ ?_ |with_reducible refine zk ?_ |with_reducible refine zn ?_ |with_reducible refine xw (λhc=>?_) (λhc=>?_) |with_reducible refine kj (λhc=>?_) (λhc=>?_) |with_reducible refine QD (λhc=>?_) (λhc=>?_) |with_reducible refine yg (λhc=>?_) (λhc=>?_) |with_reducible refine gw (λhc=>?_) (λhc=>?_) |with_reducible refine vA (λhc=>?_) (λhc=>?_) |with_reducible refine wa (λhc=>?_) (λhc=>?_))
 ·refine qG ⟨?_,rfl⟩;unfold vZ;congr 1;repeat' split<;>omega
 ·refine qG ⟨?_,rfl⟩;unfold vZ;congr 1;repeat' split<;>omega
 ·refine qg4 omQ ?_;refine qG ⟨?_,rfl⟩;rcases(show x=1∨x=2∨x=3∨x=4 by omega)with rfl |rfl |rfl |rfl<;>rfl
theorem V8 {n:Nat} (hn:2≤n) {x:Int}:aA n 5 [.int .i64 x] h λv h'=>v=.int .i64 (zX x)∧h'=h:=by
 refine ay (S:=S5) rfl omQ λk hk=>?_;unfold S5;try simp only[iZ]
 repeat' (first |with_reducible refine qX ?_ |with_reducible refine qJ ?_ |(with_reducible refine qa ?_;try dsimp only) |(with_reducible refine jJ ?_;try dsimp only) |(with_reducible refine qU ?_;try dsimp only) |(with_reducible refine qd ?_;try dsimp only) |(with_reducible refine zF ?_;try dsimp only) |with_reducible refine qH ?_ |with_reducible refine qI ?_ |(with_reducible refine qW ?_;try dsimp only) |with_reducible refine qk ?_ |with_reducible refine jY ?_ |with_reducible refine jB ?_ |with_reducible refine qb omQ ?_ |with_reducible refine zD omQ ?_ |with_reducible refine yv omQ ?_ |with_reducible refine gV omQ ?_ |with_reducible refine zk ?_ |with_reducible refine zn ?_ |with_reducible refine xw (λhc=>?_) (λhc=>?_) |with_reducible refine kj (λhc=>?_) (λhc=>?_) |with_reducible refine QD (λhc=>?_) (λhc=>?_) |with_reducible refine yg (λhc=>?_) (λhc=>?_) |with_reducible refine gw (λhc=>?_) (λhc=>?_) |with_reducible refine vA (λhc=>?_) (λhc=>?_) |with_reducible refine wa (λhc=>?_) (λhc=>?_))
 ·refine qG ⟨?_,rfl⟩;unfold zX;congr 1;repeat' split<;>omega
 ·refine jL (λm s g=>∃i:Int,s=(.int .i64 i,.int .i64 x,())∧1≤i∧i≤5∧(m:Int)=5-i∧g=h∧(1<i→2<x)∧(2<i→4<x)∧(3<i→8<x)∧(4<i→16<x)) ?_ (m:=4) od ⟨1,rfl,by omega,by omega,by omega,rfl,by omega,by omega,by omega,by omega⟩;rintro m ih s g bG ⟨i,rfl,h1,h2,h3,rfl,h4,h5,h6,h7⟩;dsimp only
  repeat' (first |with_reducible refine qX ?_ |with_reducible refine qJ ?_ |(with_reducible refine qa ?_;try dsimp only) |(with_reducible refine jJ ?_;try dsimp only) |(with_reducible refine qU ?_;try dsimp only) |(with_reducible refine qd ?_;try dsimp only) |(with_reducible refine zF ?_;try dsimp only) |with_reducible refine qH ?_ |with_reducible refine qI ?_ |(with_reducible refine qW ?_;try dsimp only) |with_reducible refine qk ?_ |with_reducible refine jY ?_ |with_reducible refine jB ?_ |with_reducible refine qb omQ ?_ |with_reducible refine zD omQ ?_ |with_reducible refine yv omQ ?_ |with_reducible refine gV omQ ?_ |with_reducible refine zk ?_ |with_reducible refine zn ?_ |with_reducible refine xw (λhc=>?_) (λhc=>?_) |with_reducible refine kj (λhc=>?_) (λhc=>?_) |with_reducible refine QD (λhc=>?_) (λhc=>?_) |with_reducible refine yg (λhc=>?_) (λhc=>?_) |with_reducible refine gw (λhc=>?_) (λhc=>?_) |with_reducible refine vA (λhc=>?_) (λhc=>?_) |with_reducible refine wa (λhc=>?_) (λhc=>?_))
  ·refine qV (J4 omQ) ?_;rintro v g' ⟨rfl,rfl⟩
   repeat' (first |with_reducible refine qX ?_ |with_reducible refine qJ ?_ |(with_reducible refine qa ?_;try dsimp only) |(with_reducible refine jJ ?_;try dsimp only) |(with_reducible refine qU ?_;try dsimp only) |(with_reducible refine qd ?_;try dsimp only) |(with_reducible refine zF ?_;try dsimp only) |with_reducible refine qH ?_ |with_reducible refine qI ?_ |(with_reducible refine qW ?_;try dsimp only) |with_reducible refine qk ?_ |with_reducible refine jY ?_ |with_reducible refine jB ?_ |with_reducible refine qb omQ ?_ |with_reducible refine zD omQ ?_ |with_reducible refine yv omQ ?_ |with_reducible refine gV omQ ?_ |with_reducible refine zk ?_ |with_reducible refine zn ?_ |with_reducible refine xw (λhc=>?_) (λhc=>?_) |with_reducible refine kj (λhc=>?_) (λhc=>?_) |with_reducible refine QD (λhc=>?_) (λhc=>?_) |with_reducible refine yg (λhc=>?_) (λhc=>?_) |with_reducible refine gw (λhc=>?_) (λhc=>?_) |with_reducible refine vA (λhc=>?_) (λhc=>?_) |with_reducible refine wa (λhc=>?_) (λhc=>?_))
   ·refine qG ⟨?_,rfl⟩;unfold vZ at*;unfold zX;congr 1;repeat' split<;>omega
   ·refine bG (m-1) _ _ omQ ⟨i+1,rfl,by omega,by omega,by omega,rfl,?_,?_,?_,?_⟩<;>(unfold vZ at*;repeat' split at* <;>omega)
  ·refine qG ⟨?_,rfl⟩;unfold zX;congr 1;repeat' split<;>omega
theorem Yf {n:Nat} (hn:1≤n) {c:Int} (hc:0≤c∧c≤4):aA n 153 [.int .i64 c] h λv h'=>v=.int .i64 c∧h'=h:=by
 refine ay (S:=S153) rfl omQ λk hk=>?_;unfold S153;try simp only[iZ]
 refine qb omQ ?_;exact qG ⟨by congr 1;omega,rfl⟩
theorem qQt {n:Nat} (hn:1≤n) {w:Int}:aA n 184 [.int .u64 w] h λv h'=>v=.bM [.int .i64 (Xo w).1,.bool (Xo w).2]∧h'=h:=by
 refine ay (S:=S184) rfl omQ λk hk=>?_;unfold S184;try simp only[iZ]
 unfold Xo;by_cases h1:1≤w∧w≤4
 ·rw[iJ h1];refine zx omQ ?_;refine qW ?_;(try dsimp only);refine qa ?_;(try dsimp only);refine JK omQ ?_;refine qH (qX (xg omQ ?_))
  exact qG ⟨rfl,rfl⟩
 ·rw[iQ h1];by_cases h2:9≤w∧w≤12
  ·rw[iJ h2];refine zx omQ ?_;refine qW ?_;(try dsimp only);refine qa ?_;(try dsimp only);refine Xw omQ ?_;refine qH (qJ (zx omQ ?_));refine qW ?_;(try dsimp only);refine qa ?_;(try dsimp only);refine JK omQ ?_;refine qH (qX (gV omQ ?_));refine xg omQ ?_
   exact qG ⟨rfl,rfl⟩
  ·rw[iQ h2]
   repeat' (first |with_reducible refine qX ?_ |with_reducible refine qJ ?_ |(with_reducible refine qa ?_;try dsimp only) |(with_reducible refine jJ ?_;try dsimp only) |(with_reducible refine qU ?_;try dsimp only) |(with_reducible refine qd ?_;try dsimp only) |(with_reducible refine zF ?_;try dsimp only) |with_reducible refine qH ?_ |with_reducible refine qI ?_ |(with_reducible refine qW ?_;try dsimp only) |with_reducible refine qk ?_ |with_reducible refine jY ?_ |with_reducible refine jB ?_ |with_reducible refine qb omQ ?_ |with_reducible refine zD omQ ?_ |with_reducible refine yv omQ ?_ |with_reducible refine gV omQ ?_ |with_reducible refine zk ?_ |with_reducible refine zn ?_ |with_reducible refine qg omQ ?_ |with_reducible refine qj omQ ?_ |with_reducible refine jQ omQ ?_ |with_reducible refine qs omQ ?_ |with_reducible refine jF omQ ?_ |with_reducible refine jV omQ ?_ |with_reducible refine JK omQ ?_ |with_reducible refine Xw omQ ?_ |with_reducible refine vQ omQ ?_ |with_reducible refine yQ omQ ?_ |with_reducible refine zx omQ ?_ |with_reducible refine zK omQ ?_ |with_reducible refine xw (λhc=>?_) (λhc=>?_) |with_reducible refine kj (λhc=>?_) (λhc=>?_) |with_reducible refine QD (λhc=>?_) (λhc=>?_) |with_reducible refine yg (λhc=>?_) (λhc=>?_) |with_reducible refine gw (λhc=>?_) (λhc=>?_) |with_reducible refine vA (λhc=>?_) (λhc=>?_) |with_reducible refine wa (λhc=>?_) (λhc=>?_))
   all_goals exact qG ⟨rfl,rfl⟩
theorem Mi {n:Nat} (hn:10≤n) {v:Nat} {M:VM} {b:Int} (H:HS g h (ae v M::R)) (O:dp M) :
  aA n 151 [.ptr v 0,.int .i64 b] h λr h'=>r=.bM [.int .i64 (jm M b).1.1,.bool (jm M b).1.2.1,.int .i64 (jm M b).1.2.2]∧HS g h' (ae v (jm M b).2::R):=by
 refine ba (S:=S151) rfl omQ λk hk=>?_;unfold S151;try simp only[iZ]
 unfold jm;by_cases h1:b≤14
 ·rw[iJ (.inl h1)];refine JK omQ ?_;refine qW ?_;(try dsimp only);refine jJ ?_;(try dsimp only);refine qH (qX ?_)
  exact qG ⟨rfl,H⟩
 ·refine Xw omQ ?_;refine qW ?_;(try dsimp only);refine qd ?_;(try dsimp only)
  refine qV (Ug omQ H) ?_;rintro _ _ ⟨rfl,rfl⟩;by_cases h2:(M.sz:Int)≤b
  ·rw[iJ (.inr h2)];refine zx omQ ?_;refine qI (qX ?_);exact qG ⟨rfl,H⟩
  ·rw[iQ omQ];refine zK omQ ?_;refine qI (qJ ?_);have:=O.hi;refine zD omQ (qV (Qo omQ H O) ?_);rintro _ h3 ⟨rfl,H3⟩;simp only[show((1:Nat):Int)=1 from rfl]at H3 ⊢;refine qD rfl ?_;refine qD rfl ?_;by_cases h4:(qe M (b-1)).1.2=0
   ·rw[iJ h4];refine qs omQ ?_;refine qJ (qV (qQt omQ) ?_);rintro _ _ ⟨rfl,rfl⟩;refine qD rfl ?_;refine qD rfl ?_;by_cases h5:(Xo (qe M (b-1)).1.1).1=0
    ·rw[iJ h5];refine qg omQ ?_;refine qX ?_;exact qG ⟨rfl,H3⟩
    ·rw[iQ h5];refine qj omQ ?_;refine qJ ?_;exact qG ⟨rfl,H3⟩
   ·rw[iQ h4];refine jQ omQ ?_;refine qX ?_;exact qG ⟨rfl,H3⟩
theorem qWD {n:Nat} (hn:11≤n) {v:Nat} {M:VM} {b:Int} (H:HS g h (ae v M::R)) (O:dp M) :
  aA n 217 [.ptr v 0,.int .i64 b] h λr h'=>r=.int .i64 (vV M b).1∧HS g h' (ae v (vV M b).2::R):=by
 refine ba (S:=S217) rfl omQ λk hk=>?_;unfold S217;try simp only[iZ]
 refine qV (Mi omQ H O) ?_;rintro _ h1 ⟨rfl,H1⟩;have hb:=Nq M b;have hO:=XD (b:=b) O;have:=O.hi;unfold vV;refine qD rfl ?_;refine qD rfl ?_;refine qD rfl ?_;refine qW ?_;(try dsimp only)
 by_cases h2:(jm M b).1.2.2=0
 ·rw[iJ h2];refine qg omQ ?_;refine qW ?_;(try dsimp only);refine qa ?_;(try dsimp only)
  cases h3:(jm M b).1.2.1
  ·rw[iQ aN];refine jB (qH (qX (qW ?_)));(try dsimp only);refine qj omQ ?_;refine qJ (qW ?_);(try dsimp only);refine qj omQ ?_;refine qJ (qk ?_)
   exact qG ⟨rfl,H1⟩
  ·rw[iJ rfl];refine jY (qH (qJ (qW ?_)));(try dsimp only);refine qg omQ ?_;refine qX (zD omQ ?_);refine yM omQ ?_;refine qM rfl ?_
   simp only[show((1:Nat):Int)=1 from rfl];refine(qm (n:=1) (l:=[.int .i64 (b-1),.int .u64 (jm M b).1.1]) (sz:=2) H1 rfl rfl rfl rfl λv3 h3 H3=>?_);refine qV (Y4 (cs:=[(b-1,(jm M b).1.1)]) omQ (H3.aG e_1) hO (.own .here) aN) ?_;rintro _ h4 ⟨rfl,H4⟩;by_cases h5:(zJ (jm M b).2 [(b-1,(jm M b).1.1)]).1=0
   ·rw[iJ h5];refine qW ?_;(try dsimp only);refine qg omQ ?_;refine qX ?_
    refine qV (qYa omQ H4 (OP hO)) ?_;intro _ h6 H6;refine qk ?_;exact qG ⟨by rw[h5],H6.sub (.cons .here (.drop (.refl)))⟩
   ·rw[iQ h5];refine qW ?_;(try dsimp only);refine qj omQ ?_;refine qJ (qk ?_)
    exact qG ⟨rfl,H4.sub (.cons .here (.drop (.refl)))⟩
 ·rw[iQ h2];refine qj omQ ?_;refine qW ?_;(try dsimp only);refine qU ?_;(try dsimp only);refine qI (qJ (qW ?_));(try dsimp only);refine qj omQ ?_;refine qJ (qW ?_);(try dsimp only);refine qj omQ ?_;refine qJ (qk ?_)
  exact qG ⟨rfl,H1⟩
theorem qWI {n:Nat} (hn:11≤n) {v:Nat} {M:VM} {b:Int} (H:HS g h (ae v M::R)) (O:dp M) :
  aA n 124 [.ptr v 0,.int .i64 b] h λr h'=>r=.int .i64 (zY M b).1∧HS g h' (ae v (zY M b).2::R):=by
 refine ba (S:=S124) rfl omQ λk hk=>?_;unfold S124;try simp only[iZ]
 refine qV (Mi omQ H O) ?_;rintro _ h1 ⟨rfl,H1⟩;have hb:=Nq M b;have hO:=XD (b:=b) O;have:=O.hi;unfold zY;refine qD rfl ?_;refine qD rfl ?_;refine qD rfl ?_;refine qW ?_;(try dsimp only)
 by_cases h2:(jm M b).1.2.2=0
 ·rw[iJ h2];refine qg omQ ?_;refine qW ?_;(try dsimp only);refine qa ?_;(try dsimp only);refine qH ?_
  cases h3:(jm M b).1.2.1
  ·rw[iQ aN];refine qJ (qs omQ ?_);refine qJ (qV (Yf omQ omQ) ?_);rintro _ _ ⟨rfl,rfl⟩;refine qV (Qo omQ H1 hO) ?_;rintro _ h4 ⟨rfl,H4⟩;refine qD rfl ?_;refine qD rfl ?_;by_cases h5:(qe (jm M b).2 (jm M b).1.1).1.2=0
   ·rw[iJ h5];refine qs omQ ?_;refine qJ (qM rfl ?_);refine qV (Yf omQ omQ) ?_;rintro _ _ ⟨rfl,rfl⟩;refine yM omQ ?_;refine qM rfl (qm (n:=2) (l:=[.int .i64 b,.int .u64 (qe (jm M b).2 (jm M b).1.1).1.1,.int .i64 (jm M b).1.1,.int .u64 b]) (sz:=2) H4 rfl rfl rfl rfl λv5 h5 H5=>?_);refine qV (Y4 (cs:=[(b,(qe (jm M b).2 (jm M b).1.1).1.1),((jm M b).1.1,b)]) omQ (H5.aG e_1) (xN hO) (.own .here) aN) ?_;rintro _ h6 ⟨rfl,H6⟩;refine qk ?_;exact qG ⟨rfl,H6.sub (.cons .here (.drop (.refl)))⟩
   ·rw[iQ h5];refine jQ omQ ?_;refine qX (qk ?_);exact qG ⟨rfl,H4⟩
  ·rw[iJ rfl];refine qX (jQ omQ ?_);refine qX (qk ?_);exact qG ⟨rfl,H1⟩
 ·rw[iQ h2];refine qj omQ ?_;refine qW ?_;(try dsimp only);refine qU ?_;(try dsimp only);refine qI (qJ (jQ omQ ?_));refine qX (qk ?_)
  exact qG ⟨rfl,H1⟩
theorem qKL {n:Nat} (hn:10≤n) {v:Nat} {M:VM} {c b:Int} (H:HS g h (ae v M::R)) (O:dp M) (hc:1≤c∧c≤4) (hb:0≤b) :
  aA n 282 [.ptr v 0,.int .i64 c,.int .u64 b] h λr h'=>r=.bM [.int .i64 (xf M c b).1.1,.int .i64 (xf M c b).1.2]∧HS g h' (ae v (xf M c b).2::R):=by
 refine cL (S:=S282) rfl omQ λk hk=>?_;unfold S282;try simp only[iZ]
 unfold xf;by_cases h1:2147483648≤b
 ·rw[iJ h1];refine zx omQ ?_;refine qX ?_;exact qG ⟨rfl,H⟩
 ·rw[iQ h1];refine zK omQ ?_;refine qJ (xg omQ ?_);refine qV (Qo omQ H O) ?_;rintro _ h3 ⟨rfl,H3⟩;refine qD rfl ?_;refine qD rfl ?_;refine qW ?_;(try dsimp only)
  by_cases h4:(qe M b).1.2=0
  ·rw[iJ h4];refine qg omQ ?_;refine qX (qV (Yf omQ omQ) ?_);rintro _ _ ⟨rfl,rfl⟩;refine qM rfl (zD omQ (qb omQ (yM omQ (qM rfl ?_))));refine qm (n:=2) (l:=[.int .i64 c,.int .u64 (qe M b).1.1,.int .i64 (b-1),.int .u64 (c+8)]) (sz:=2) H3 rfl rfl rfl rfl λv5 h5 H5=>?_;refine qV (Y4 (cs:=[(c,(qe M b).1.1),(b-1,c+8)]) omQ (H5.aG e_1) (xN O) (.own .here) aN) ?_;rintro _ h6 ⟨rfl,H6⟩;by_cases h7:(zJ (qe M b).2 [(c,(qe M b).1.1),(b-1,c+8)]).1=0
   ·rw[iJ h7];refine qs omQ ?_;refine qJ (qk ?_);exact qG ⟨rfl,H6.sub (.cons .here (.drop (.refl)))⟩
   ·rw[iQ h7];refine jQ omQ ?_;refine qX (qk ?_);exact qG ⟨rfl,H6.sub (.cons .here (.drop (.refl)))⟩
  ·rw[iQ h4];refine qj omQ ?_;refine qJ (jQ omQ ?_);refine qX (qk ?_);exact qG ⟨rfl,H3⟩
theorem qKP {n:Nat} (hn:10≤n) {v:Nat} {M:VM} {c:Int} (H:HS g h (ae v M::R)) (O:dp M) (W:nl M) (hc:1≤c∧c≤4) :
  aA n 283 [.ptr v 0,.int .i64 c] h λr h'=>r=.bM [.int .i64 (xe M c).1.1,.int .i64 (xe M c).1.2]∧HS g h' (ae v (xe M c).2::R):=by
 refine ba (S:=S283) rfl omQ λk hk=>?_;unfold S283;try simp only[iZ]
 unfold xe;refine qV (Qo omQ H O) ?_;rintro _ h3 ⟨rfl,H3⟩;have hw:=W.read (p:=5);simp only[show((5:Nat):Int)=5 from rfl]at H3 ⊢;have hs:=Mr c;have hO:=O.hi;refine qD rfl ?_;refine qD rfl ?_;by_cases h4:(qe M 5).1.2=0
 ·rw[iJ h4];refine qs omQ ?_;refine qJ ?_;have bx:(qe M 5).2.sz=M.sz:=qYe;by_cases h5:(qe M 5).1.1<14∨2147483648≤(qe M 5).1.1∨(M.sz:Int)<(qe M 5).1.1+1+vZ c
  ·rw[iJ h5];by_cases h6:(qe M 5).1.1<14
   ·refine jF omQ ?_;refine qW ?_;(try dsimp only);refine jJ ?_;(try dsimp only);refine qH (qW ?_);(try dsimp only);refine jJ ?_;(try dsimp only);refine qH (qX ?_)
    exact qG ⟨rfl,H3⟩
   ·by_cases h7:2147483648≤(qe M 5).1.1
    ·refine jV omQ ?_;refine qW ?_;(try dsimp only);refine qd ?_;(try dsimp only);refine zx omQ ?_;refine qI (qW ?_);(try dsimp only);refine jJ ?_;(try dsimp only);refine qH (qX ?_)
     exact qG ⟨rfl,H3⟩
    ·refine jV omQ ?_;refine qW ?_;(try dsimp only);refine qd ?_;(try dsimp only);refine zK omQ ?_;refine qI (qW ?_);(try dsimp only);refine qd ?_;(try dsimp only);refine xg omQ ?_;refine qb omQ ?_
     refine qV (J4 omQ) ?_;rintro _ _ ⟨rfl,rfl⟩;refine qb omQ ?_;refine qV (Ug omQ H3) ?_;rintro _ _ ⟨rfl,rfl⟩;rw[bx];refine vQ omQ ?_;refine qI (qX ?_);exact qG ⟨rfl,H3⟩
  ·rw[iQ h5];refine jV omQ ?_;refine qW ?_;(try dsimp only);refine qd ?_;(try dsimp only);refine zK omQ ?_;refine qI (qW ?_);(try dsimp only);refine qd ?_;(try dsimp only);refine xg omQ ?_;refine qb omQ ?_
   refine qV (J4 omQ) ?_;rintro _ _ ⟨rfl,rfl⟩;refine qb omQ ?_;refine qV (Ug omQ H3) ?_;rintro _ _ ⟨rfl,rfl⟩;rw[bx];refine yQ omQ ?_;refine qI (qJ (xg omQ ?_));refine qb omQ ?_;refine qV (J4 omQ) ?_;rintro _ _ ⟨rfl,rfl⟩;refine qb omQ (yM omQ (qM rfl (qb omQ (yM omQ (qM rfl ?_)))));refine qm (n:=2) (l:=[.int .i64 5,.int .u64 ((qe M 5).1.1+1+vZ c),.int .i64 (qe M 5).1.1,.int .u64 (c+8)]) (sz:=2) H3 rfl rfl rfl rfl λv5 h5 H5=>?_;refine qV (Y4 (cs:=[(5,(qe M 5).1.1+1+vZ c),((qe M 5).1.1,c+8)]) omQ (H5.aG e_1) (xN O) (.own .here) aN) ?_;rintro _ h6 ⟨rfl,H6⟩;by_cases h7:(zJ (qe M 5).2 [(5,(qe M 5).1.1+1+vZ c),((qe M 5).1.1,c+8)]).1=0
   ·rw[iJ h7];refine qs omQ ?_;refine qJ (qb omQ ?_);exact qG ⟨rfl,H6.sub (.cons .here (.drop (.refl)))⟩
   ·rw[iQ h7];refine jQ omQ ?_;refine qX ?_;exact qG ⟨rfl,H6.sub (.cons .here (.drop (.refl)))⟩
 ·rw[iQ h4];refine jQ omQ ?_;refine qX ?_;exact qG ⟨rfl,H3⟩
theorem qX0 {n:Nat} (hn:11≤n) {v:Nat} {M:VM} {x:Int} (H:HS g h (ae v M::R)) (O:dp M) (W:nl M) :
  aA n 216 [.ptr v 0,.int .i64 x] h λr h'=>r=.bM [.int .i64 (jO M x).1.1,.int .i64 (jO M x).1.2]∧HS g h' (ae v (jO M x).2::R):=by
 refine ba (S:=S216) rfl omQ λk hk=>?_;unfold S216;try simp only[iZ]
 refine qV (V8 omQ) ?_;rintro _ _ ⟨rfl,rfl⟩;have hc:=ZN x;unfold jO;by_cases h1:zX x=0
 ·rw[iJ h1];refine qg omQ ?_;refine qX ?_;exact qG ⟨rfl,H⟩
 ·rw[iQ h1];refine qj omQ ?_;refine qJ (qV (Yf omQ hc) ?_);rintro _ _ ⟨rfl,rfl⟩;refine qV (Qo omQ H O) ?_;rintro _ h3 ⟨rfl,H3⟩;have hw:=W.read (p:=zX x);refine qD rfl ?_;refine qD rfl ?_;by_cases h4:(qe M (zX x)).1.2=0
  ·rw[iJ h4];by_cases h5:(qe M (zX x)).1.1=0
   ·rw[iJ h5];refine qs omQ ?_;refine qJ (qs omQ ?_);refine qJ (qV (qKP omQ H3 (xN O) W.lY omQ) ?_);rintro _ h6 ⟨rfl,H6⟩;refine qD rfl ?_;refine qD rfl ?_;exact qG ⟨rfl,H6⟩
   ·rw[iQ h5];refine qs omQ ?_;refine qJ (jQ omQ ?_);refine qX (qV (qKL omQ H3 (xN O) omQ hw.1) ?_);rintro _ h6 ⟨rfl,H6⟩;refine qD rfl ?_;refine qD rfl ?_;exact qG ⟨rfl,H6⟩
  ·rw[iQ h4];refine jQ omQ ?_;refine qX ?_;exact qG ⟨rfl,H3⟩
def K5 (n:Int):List Int:=(List.replicate (dt n) (0:Int)).set 5 14
theorem qKe {n:Nat} (hn:1≤n) {x:Int} (H:HS g h R):aA n 20 [.int .i64 x] h λv h'=>∃e,HS g h' (qB e 1 (dt x) v ((K5 x).map (.int .u64))::R):=by
 refine ay (S:=S20) rfl omQ λk hk=>?_;unfold S20;try simp only[iZ]
 have hb:=MU x;refine zk (zn ?_);rw[show max ((32:Nat):Int) (min x ((256:Nat):Int))=((dt x:Nat):Int) by unfold dt;omega];refine J5 H omQ λv h2 H2=>?_;refine X5 (i:=5) H2 omQ ⟨rfl,rfl⟩ λh3 H3=>?_;unfold K5;rw[List.map_set,List.map_replicate];exact qG ⟨_,H3⟩
end
section
variable {g h:AH} {L R:List SP}
end
section
theorem Pv {l:List ES} {a b:List AV} {K:AV→Go.Ae.R} {Q:AV→AH→Prop} {neg:Bool} {p:Prop} [Decidable p] (e:xY l a b=some (decide p)) (h1:p→wp (K (.bool (!neg))) Q) (h2:¬p→wp (K (.bool neg)) Q):wp (GF l neg (.agg a) (.agg b) K) Q:=by
 unfold GF;simp only[e,ob];by_cases h:p
 ·have:=h1 h;simpa[h]using this
 ·have:=h2 h;simpa[h]using this
end
section
variable {g h:AH} {L R:List SP}
def rR (M M':VM):Prop:=M'.sz=M.sz∧M'.K=M.K∧M'.most=M.most∧(M'.aK=M.aK∨M'.lv=M.lv∧1≤M'.aK∧M'.aK<M.sz∧zW M'.aK M.K=none)
theorem rR.refl (M:VM):rR M M:=⟨rfl,rfl,rfl,.inl rfl⟩
theorem Gd {M:VM} {p:Int} (h:(qe M p).1.2=0):(qe M p).2=M:=by
 unfold qe at h ⊢
 split
 ·rename_i h1;rw[iJ h1]at h
  split
  ·rfl
  ·rename_i h2;rw[h2]at h;dsimp only at h ⊢
   split
   ·rfl
   ·rename_i h3;rw[h3]at h;cases h
 ·rfl
theorem Ke (M:VM) (p:Int):rR M (qe M p).2:=by
 unfold qe
 split
 ·rename_i h1
  split
  ·exact .refl M
  ·split
   ·exact .refl M
   ·rename_i h3;exact⟨rfl,rfl,rfl,.inr ⟨rfl,h1.1,h1.2,h3⟩⟩
 ·exact .refl M
theorem qkt (M:VM) (b:Int):rR M (jm M b).2∧((jm M b).1.2.2=0→(jm M b).2=M):=by
 unfold jm
 split
 ·exact⟨.refl M,λ_=>rfl⟩
 ·split
  ·rename_i h1
   split
   ·exact⟨Ke M _,λ_=>Gd h1⟩
   ·exact⟨Ke M _,λ_=>Gd h1⟩
  ·rename_i h1;exact⟨Ke M _,λh=>absurd h h1⟩
theorem rS {most:Nat} {lv:List bz} {p v:Int}:bD (vL most lv p v).2=bD lv:=by
 cases lv with
 |nil=>rfl
 |cons x r=>obtain⟨c,hc⟩:=GE (most:=most) (x:=x) (r:=r) (p:=p) (v:=v);rw[hc,kf,kf]
theorem qGp {most:Nat} {aR:List bz}:∀{cs:List Cl} {lv:List bz},bD lv=bD aR→bD (vq most aR lv cs).2=bD aR:=by
 intro cs
 induction cs with
 |nil=>intro lv h;exact h
 |cons c cs ih=>
  intro lv h;rw[vP]
  split
  ·exact ih (rS.trans h)
  ·rfl
theorem gS {M:VM} {cs:List Cl}:bD (zJ M cs).2.lv=bD M.lv:=by
 unfold zJ
 split
 ·exact qGp rfl
 ·rfl
theorem xO {M:VM} {p:Int}:bD (qe M p).2.lv=bD M.lv:=by
 unfold qe
 repeat' split
 all_goals rfl
theorem kg {M:VM} {b:Int}:bD (jm M b).2.lv=bD M.lv:=by
 unfold jm
 repeat' split
 all_goals first |rfl |exact xO
theorem qVO {lv:List bz} {b:Int}:bD (Ji lv b)≤bD lv+1:=by
 cases lv with
 |nil=>simp[Ji]
 |cons x r=>show bD ((x.1,x.2++[b])::r)≤_;rw[kf,kf,List.length_append];simp;omega
theorem Pw:∀{lv:List bz} {x:bz},x∈lv→x.2.length≤bD lv:=by
 intro l
 induction l with
 |nil=>intro x hx;cases hx
 |cons y r ih=>
  intro x hx;rw[kf];rcases List.mem_cons.1 hx with rfl |hx
  ·omega
  ·have:=ih hx;omega
structure jg (M:VM):Prop where
  ok:dp M
  wd:nl M
theorem jg.read {M:VM} {p:Int} (G:jg M):jg (qe M p).2:=⟨xN G.ok,G.wd.lY⟩
theorem jg.take {M:VM} {cs:List Cl} (G:jg M) (h:fL cs):jg (zJ M cs).2:=⟨OP G.ok,G.wd.take h⟩
theorem jg.ask {M:VM} {b:Int} (G:jg M):jg (jm M b).2:=⟨XD G.ok,qk2 G.wd⟩
theorem fL.two {a b:Cl} (ha:0≤a.2∧a.2<18446744073709551616) (hb:0≤b.2∧b.2<18446744073709551616):fL [a,b]:=by
 intro c hc;rcases List.mem_cons.1 hc with rfl |hc
 ·exact ha
 ·rw[List.mem_singleton]at hc;subst hc;exact hb
theorem fL.Ce {a:Cl} (ha:0≤a.2∧a.2<18446744073709551616):fL [a]:=by intro c hc;rw[List.mem_singleton]at hc;subst hc;exact ha
theorem jg.eL {M:VM} {b:Int} (G:jg M) (hf:bD M.lv<90000):jg (eL M b):=by
 refine⟨qqe G.ok λx hx=>by have:=Pw hx;omega,G.wd.k,?_⟩;show∀x∈Ji M.lv b,∀c∈x.1,0≤c.2∧c.2<18446744073709551616;have:=G.wd.l;cases hl:M.lv with
 |nil=>intro x hx;cases hx
 |cons y r=>
  rw[hl]at this;intro x hx;rcases List.mem_cons.1 hx with rfl |hx
  ·exact this y (iK ..)
  ·exact this x (iX _ hx)
theorem jg.free {M:VM} {b:Int} (G:jg M) (hf:bD M.lv<90000):jg (vV M b).2∧bD (vV M b).2.lv≤bD M.lv+1:=by
 have hb:=Nq M b;have hc:fL [(b-1,(jm M b).1.1)]:=.Ce ⟨hb.1,by dsimp only;omega⟩;unfold vV
 repeat' split
 ·refine⟨(G.ask.take hc).eL (by rw[gS,kg];exact hf),?_⟩;have:=qVO (lv:=(zJ (jm M b).2 [(b-1,(jm M b).1.1)]).2.lv) (b:=b);rw[gS,kg]at this;exact this
 ·exact⟨G.ask.take hc,by rw[gS,kg];omega⟩
 ·exact⟨G.ask,by rw[kg];omega⟩
 ·exact⟨G.ask,by rw[kg];omega⟩
theorem jg.lg {M:VM} {b:Int} (G:jg M):jg (zY M b).2∧bD (zY M b).2.lv=bD M.lv:=by
 have hb:=Nq M b;have hO:=G.ok.hi;unfold zY
 split
 ·rename_i h1;have tx:=hb.2.2 h1
  split
  ·exact⟨G.ask,kg⟩
  ·split
   ·refine⟨(G.ask.read).take (.two G.ask.wd.read ⟨by dsimp only;omega,by dsimp only;omega⟩),by rw[gS,xO,kg]⟩
   ·exact⟨G.ask.read,by rw[xO,kg]⟩
 ·exact⟨G.ask,kg⟩
theorem jg.again {M:VM} {c b:Int} (G:jg M) (hc:0≤c∧c≤4):jg (xf M c b).2∧bD (xf M c b).2.lv=bD M.lv:=by
 have ht:fL [(c,(qe M b).1.1),(b-1,c+8)]:=.two G.wd.read ⟨by dsimp only;omega,by dsimp only;omega⟩;unfold xf
 repeat' split
 ·exact⟨G,rfl⟩
 ·exact⟨G.read.take ht,by rw[gS,xO]⟩
 ·exact⟨G.read.take ht,by rw[gS,xO]⟩
 ·exact⟨G.read,xO⟩
theorem jg.grown {M:VM} {c:Int} (G:jg M) (hc:0≤c∧c≤4):jg (xe M c).2∧bD (xe M c).2.lv=bD M.lv:=by
 have hs:=Mr c;have hw:=G.wd.read (p:=5);unfold xe
 split
 ·split
  ·exact⟨G.read,xO⟩
  ·rename_i h1;have ht:fL [(5,(qe M 5).1.1+1+vZ c),((qe M 5).1.1,c+8)]:=.two ⟨by dsimp only;omega,by dsimp only;omega⟩ ⟨by dsimp only;omega,by dsimp only;omega⟩
   split
   ·exact⟨G.read.take ht,by rw[gS,xO]⟩
   ·exact⟨G.read.take ht,by rw[gS,xO]⟩
 ·exact⟨G.read,xO⟩
theorem jg.alloc {M:VM} {x:Int} (G:jg M):jg (jO M x).2∧bD (jO M x).2.lv=bD M.lv:=by
 have hc:=ZN x;unfold jO
 repeat' split
 ·exact⟨G,rfl⟩
 ·exact⟨(G.read.grown hc).1,by rw[(G.read.grown hc).2,xO]⟩
 ·exact⟨(G.read.again hc).1,by rw[(G.read.again hc).2,xO]⟩
 ·exact⟨G.read,xO⟩
theorem jg.pw {M:VM} (G:jg M):jg (yc M).2∧bD (yc M).2.lv=bD M.lv:=by
 have e:(km M.lv).2=M.lv∨(km M.lv).2=([],[])::M.lv:=by unfold km;split<;>simp
 refine⟨⟨⟨G.ok.lo,G.ok.hi,qjp G.ok.hP,G.ok.ins,G.ok.un,?_⟩,G.wd.k,?_⟩,?_⟩
 ·show∀x∈(km M.lv).2,_;rcases e with e |e
  ·rw[e];exact G.ok.fr
  ·rw[e];intro x hx;rcases List.mem_cons.1 hx with rfl |hx
   ·simp
   ·exact G.ok.fr x hx
 ·show∀x∈(km M.lv).2,_;rcases e with e |e
  ·rw[e];exact G.wd.l
  ·rw[e];intro x hx;rcases List.mem_cons.1 hx with rfl |hx
   ·intro c hc;cases hc
   ·exact G.wd.l x hx
 ·show bD (km M.lv).2=_;rcases e with e |e
  ·rw[e]
  ·rw[e,kf];simp
theorem jg.dq {M:VM} (G:jg M):jg (xB M).2∧bD (xB M).2.lv≤bD M.lv:=by
 have e:(ki M.lv).2=M.lv∨(ki M.lv).2=M.lv.tail:=by unfold ki;split<;>simp
 have hs:∀x∈(ki M.lv).2,x∈M.lv:=by
  rcases e with e |e
  ·rw[e];exact λx hx=>hx
  ·rw[e];exact λx hx=>List.mem_of_mem_tail hx
 refine⟨⟨⟨G.ok.lo,G.ok.hi,qqc G.ok.hP,G.ok.ins,G.ok.un,λx hx=>G.ok.fr x (hs x hx)⟩,G.wd.k,λx hx=>G.wd.l x (hs x hx)⟩,?_⟩;show bD (ki M.lv).2≤_;rcases e with e |e
 ·rw[e];exact Nat.le_refl _
 ·rw[e];cases M.lv with
  |nil=>exact Nat.le_refl _
  |cons x r=>rw[kf];show bD r≤_;omega
theorem jg.sV {M:VM} (G:jg M) (hf:bD M.lv<90000):jg (vJ M).2∧bD (vJ M).2.lv=bD M.lv:=by
 have hd:=qjd G.ok.hP;have pz:=λx (hx:x∈(Qh M.lv).2)=>Pw hx;obtain⟨sz,K,most,lv,aK⟩:=M;rcases lv with _ |⟨x,_ |⟨y,r⟩⟩
 ·exact⟨G,rfl⟩
 ·exact⟨G,rfl⟩
 ·have e:=qWU (x:=x) (y:=y) (r:=r);refine⟨⟨⟨G.ok.lo,G.ok.hi,hd,G.ok.ins,G.ok.un,λz hz=>?_⟩,G.wd.k,λz hz=>?_⟩,e⟩
  ·have:=pz z hz;rw[e]at this;have hf:bD (x::y::r)<90000:=hf;omega
  ·have hl:=G.wd.l;have hx:fL x.1:=hl x aN;have hy:fL y.1:=hl y aN;have hz:z∈(yF y.1 x.1,y.2++x.2)::r:=hz;rcases List.mem_cons.1 hz with rfl |hz
   ·exact hy.nQ hx
   ·exact hl z (by simp[hz])
end
section
variable {g h:AH} {L R:List SP}
abbrev iF:Type:=Int×Int
def nR (x:iF):List UInt8:=if x.1=1 then Lib.decDigits x.2.toNat else if x.1=2 then(if x.2=1 then[121,101,115]else[110,111])else[110,111,110,101]
def Qy (x:iF):AV:=if x.1=1 then .iface 31 (.int .u64 x.2)else if x.1=2 then .iface 4 (.bool (decide (x.2=1)))else .iface 350 (.agg [])
def Cf (x:iF):Prop:=0≤x.2∧x.2<18446744073709551616
def Cg (l:List iF):List UInt8:=Lib.join (l.map nR) [32]
theorem XL (x:iF):One (Qy x):=by unfold Qy;(repeat' split)<;>exact⟨rfl,rfl⟩
theorem Ul (l:List iF):qn (l.map Qy)=true:=by unfold qn;rw[List.all_eq_true];intro v hv;obtain⟨x,_,rfl⟩:=List.mem_map.1 hv;exact(XL x).2
theorem V2 {s:List UInt8} {k1 k2:IntKind} {lo hi:Nat} {K:AV→Go.Ae.R} {Q:AV→AH→Prop} (h1:lo≤hi) (h2:hi≤s.length) (w:wp (K (.str ((s.drop lo).take (hi-lo)))) Q):wp (gJ (.str s) (some (.int k1 (lo:Int))) (some (.int k2 (hi:Int))) K) Q:=by unfold gJ;simp only[y0 h2,y0 h1,ob,wc];rw[gY (by rw[List.length_drop];omega)];exact w
theorem qzR {n:Nat} (hn:1≤n) {i:Nat} (hi:i<100):aA n 239 [.int .i64 (i:Int)] h λr h'=>r=.str (Lib.decDigits i)∧h'=h:=by
 (refine qy (g:=W239) rfl omQ λk hk=>?_;show wp (S239 (callT tab qx k) _ _) _;unfold S239;try simp only[iI,iZ])
 by_cases h1:i<10
 ·refine jF omQ (qX ?_);refine qb omQ ?_;rw[show(i:Int)+((1:Nat):Int)=((i+1:Nat):Int) by omega];refine V2 omQ (by show i+1≤36;omega) (qG ⟨?_,rfl⟩);rw[← Lib.digits36_piece h1]
  congr 2
 ·refine jV omQ (qJ ?_);refine Nv omQ (Nv omQ (qb omQ ?_));rw[show(i:Int)*((2:Nat):Int)+((2:Nat):Int)=((i*2+2:Nat):Int) by omega,show(i:Int)*((2:Nat):Int)=((i*2:Nat):Int) by omega];refine V2 omQ (by show i*2+2≤200;omega) (qG ⟨?_,rfl⟩);rw[← Lib.smalls_piece h1 hi]
  congr 2
theorem Ch {n:Nat} (hn:1≤n) {u:Nat} (h1:1≤u) (h2:u<18446744073709551616):aA n 240 [.int .u64 (u:Int)] h λr h'=>r=.int .i64 (Lib.nDigits u:Int)∧h'=h:=by refine qy (g:=W240) rfl omQ λk hk=>?_;show wp (B6 _ [.int .u64 (.ofNat u)] h) _;unfold B6;dsimp only;rw[iY h1,iY (show u+1≤18446744073709551616 by omega)];exact⟨_,_,rfl,rfl,rfl⟩
theorem qql:∀(bs:List UInt8),Aj (bs.map λc=>.int .u8 (.ofNat c.toNat))=some bs:=by
 intro bs
 induction bs with
 |nil=>rfl
 |cons b bs ih=>rw[List.map_cons];unfold Aj;rw[ih,iY (show b.toNat+1≤256 from b.toNat_lt)];simp
theorem Ci {n:Nat} (hn:1≤n) {b u nd:Nat} {bs:List UInt8} {ys:List AV} (H:HS g h (qA b ((bs.map λc=>.int .u8 (.ofNat c.toNat))++ys)::R)) (hb:bs.length=nd) (h1:u<10 ^ nd) (h2:u<18446744073709551616) (h3:nd≤100) (_:qn ys=true) :
  aA n 241 [.slice b 0 nd 24 false,.int .u64 (u:Int)] h λ_ h'=>HS g h' (qA b (rf nd u++ys)::R):=by
 refine qy (g:=W241) rfl omQ λk hk=>?_;show wp (B7 _ [.slice b 0 nd 24 false,.int .u64 (.ofNat u)] h) _;obtain⟨D,⟨hD,e,A⟩,dS,kk⟩:=H.act;obtain⟨c,c1,c2,c3⟩:=A.bp;unfold B7;simp only[c1,c2];rw[List.take_append_of_le_length (by simp;omega),List.take_of_length_le (by simp;omega),qql];simp only[];rw[show Nat.beq bs.length nd=true from by rw[hb];exact Nat.beq_refl _,iY (show u+1≤10 ^ nd by omega),iY (show u+1≤18446744073709551616 by omega),iY h3];simp only[Bool.and_self,cond_true];rw[List.drop_append_of_le_length (by simp;omega),List.drop_of_length_le (by simp;omega),List.nil_append];refine⟨_,_,rfl,kk _ (qA b (rf nd u++ys)) D ⟨by simp,λa ha hn=>AH.bn h _ λe=>hn ((hD a).2 e.symm)⟩ ⟨hD,e,by simpa using A.lt,CT.ofList _,AH.aQ ..,CT.aI _,CT.bt _⟩ λa ha=>⟨.inl ha,by simpa using(dS a ha).2⟩⟩
theorem qZP:∀(xs:List (List UInt8)),Gp (xs.map .str)=some xs:=by
 intro xs
 induction xs with
 |nil=>rfl
 |cons x xs ih=>rw[List.map_cons];unfold Gp;rw[ih];rfl
theorem qvL {n:Nat} (hn:1≤n) {b m:Nat} {e:TypeId} {xs:List (List UInt8)} {sep:List UInt8} (H:HS g h (Cell b (xs.map .str) e false::R)) (hm:xs.length=m) (h1:m≤1000000) (h2:(Lib.join xs sep).length≤1000000) :
  aA n 137 [.slice b 0 m m false,.str sep] h λr h'=>r=.str (Lib.join xs sep)∧h'=h:=by
 refine qy (g:=W137) rfl omQ λk hk=>?_;show wp (Zk _ [.slice b 0 m m false,.str sep] h) _;obtain⟨D,hD,A⟩:=H.p .here;obtain⟨c,c1,c2,c3⟩:=A.bp;unfold Zk;simp only[c1,c2,List.drop_zero];rw[List.take_of_length_le (by simp;omega),qZP];simp only[];rw[show Nat.beq xs.length m=true from by rw[hm];exact Nat.beq_refl _,iY (Nat.le_refl m),iY h1,iY h2];exact⟨_,_,rfl,rfl,rfl⟩
theorem qV4 (nd u:Nat):wD (rf nd u)=some ((List.range nd).map λt=>Lib.dg u (nd-1-t)):=by
 unfold rf;have key:∀l:List Nat,wD (l.map λt=>AV.int .u8 (.ofNat (Lib.dg u (nd-1-t)).toNat))=some (l.map λt=>Lib.dg u (nd-1-t)):=by
  intro l
  induction l with
  |nil=>rfl
  |cons a l ih=>rw[List.map_cons];unfold wD;rw[ih];simp
 exact key _
theorem qKI {n:Nat} (hn:2≤n) {u:Nat} (h2:u<18446744073709551616) (H:HS g h R):aA n 193 [.int .u64 (u:Int),.int .i64 10] h λr h'=>r=.str (Lib.decDigits u)∧HS g h' R:=by
 refine ba (S:=S193) rfl omQ λk hk=>?_;unfold S193;try simp only[iZ]
 refine qg rfl (qX ?_);by_cases h1:u<100
 ·refine jF omQ (qX ?_);refine xg omQ ?_;refine qV (qzR omQ h1) ?_;rintro _ _ ⟨rfl,rfl⟩;exact qG ⟨rfl,H⟩
 ·refine jV omQ (qJ ?_);refine qO H rfl λb h3 H3=>?_;have hnd:=Lib.nDigits_le20 u h2;have Ew:=Lib.nDigits_pos u;have au:=Lib.lt_pow_nDigits u;have rT:=Lib.decDigits_eq u;refine qV (Ch omQ omQ h2) ?_;generalize Lib.nDigits u=nd at*;have H4:HS g h3 (qA b (((List.replicate nd (0:UInt8)).map λc=>.int .u8 (.ofNat c.toNat))++List.replicate (24-nd) (.int .u8 (.ofNat 0)))::R):=by
   have e:(List.replicate nd (0:UInt8)).map (λc=>AV.int .u8 (.ofNat c.toNat))++List.replicate (24-nd) (AV.int .u8 (.ofNat 0))=List.replicate 24 (AV.int .u8 (.ofNat 0)):=by rw[List.map_replicate];show List.replicate nd (AV.int .u8 (.ofNat 0))++_=_;rw[List.replicate_append_replicate,show nd+(24-nd)=24 by omega]
   rw[e];exact H3
  rintro _ _ ⟨rfl,rfl⟩;have lQ:∀(K:AV→Go.Ae.R) (Q:AV→AH→Prop),wp (K (.slice b 0 nd 24 false)) Q→wp (gT 24 1 (.ptr b 0) none (some (.int .i64 (nd:Int))) K) Q:=by intro K Q w;unfold gT;simp only[y0 (show nd≤24 by omega),ob,show yO none nd 0=some 0 from rfl];exact w
  refine lQ _ _ ?_;refine qV (Ci omQ H4 aN au h2 omQ (by unfold qn;rw[List.all_eq_true];intro y hy;rw[List.eq_of_mem_replicate hy];rfl)) ?_;intro _ h5 H5;refine lQ _ _ ?_;obtain⟨e,A⟩:=H5.obj .here;unfold Xd;dsimp only;rw[Yz A (by simp[Qu]),List.drop_zero,List.take_append_of_le_length (by rw[Qu];exact Nat.le_refl _),List.take_of_length_le (by rw[Qu];exact Nat.le_refl _)];simp only[ob,qV4];exact qG ⟨by rw[rT],H5.drop⟩
theorem qJ6 {n:Nat} (hn:3≤n) {u:Int} (h0:0≤u) (h2:u<18446744073709551616) (H:HS g h R):aA n 169 [.int .u64 u,.int .i64 10] h λr h'=>r=.str (Lib.decDigits u.toNat)∧HS g h' R:=by
 refine ba (S:=S169) rfl omQ λk hk=>?_;unfold S169;try simp only
 obtain⟨m,rfl⟩:∃m:Nat,u=m:=⟨u.toNat,by omega⟩;refine qV (qKI omQ (u:=m) omQ H) ?_;rintro _ h3 ⟨rfl,H3⟩;exact qG ⟨rfl,H3⟩
theorem Py {t:TypeId} {z x:AV} {K:AV→Go.Ae.R} {Q:AV→AH→Prop} (w:wp (K (.bM [x,.bool true])) Q):wp (xh t z (.iface t x) K) Q:=by show wp (bif Nat.beq t t then _ else _) Q;rw[Nat.beq_refl];exact w
theorem NS {t u:TypeId} {z x:AV} {K:AV→Go.Ae.R} {Q:AV→AH→Prop} (h:Nat.beq u t=false) (w:wp (K (.bM [z,.bool false])) Q):wp (xh t z (.iface u x) K) Q:=by show wp (bif Nat.beq u t then _ else _) Q;rw[h];exact w
theorem qx7 {n:Nat} (hn:4≤n) {x:iF} (hx:Cf x) (H:HS g h R):aA n 136 [Qy x] h λr h'=>r=.str (nR x)∧HS g h' R:=by
 (refine qy (g:=W136) rfl omQ λk hk=>?_;show wp (S136 (callT tab qx k) _ _) _;unfold S136;try simp only[iI,uU,iZ])
 unfold Qy nR;by_cases h1:x.1=1
 ·rw[iJ h1,iJ h1];refine Py (qD rfl (qD rfl (qX ?_)));refine qV (qJ6 omQ hx.1 hx.2 H) ?_;rintro _ h3 ⟨rfl,H3⟩;exact qG ⟨rfl,H3⟩
 ·rw[iQ h1,iQ h1];by_cases h2:x.1=2
  ·rw[iJ h2,iJ h2];refine NS rfl ?_;refine qD rfl (qD rfl (qJ ?_));refine Py (qD rfl (qD rfl (qX ?_)));by_cases h3:x.2=1
   ·rw[iG h3,iJ h3];exact qX (qG ⟨rfl,H⟩)
   ·rw[iV h3,iQ h3];exact qJ (qG ⟨rfl,H⟩)
  ·rw[iQ h2,iQ h2];refine NS rfl ?_;refine qD rfl (qD rfl (qJ ?_));refine NS rfl ?_;exact qD rfl (qD rfl (qJ (qG ⟨rfl,H⟩)))
theorem qz6 (x:iF) (hx:Cf x):(nR x).length≤20:=by
 unfold nR;have h1:=hx.1;have h2:=hx.2
 split
 ·rw[Lib.decDigits_length];exact Lib.nDigits_le20 _ omQ
 ·split
  ·split<;>decide
  ·decide
theorem qY0 {m:Nat}:∀(xs:List (List UInt8)),(∀x∈xs,x.length≤m)→(Lib.join xs [32]).length≤xs.length*(m+1):=by
 intro xs hx;cases xs with
 |nil=>simp[Lib.join_nil]
 |cons x r=>
  rw[Lib.join_cons,List.length_append];have h1:=hx x (iK ..);have h2:∀r:List (List UInt8),(∀x∈r,x.length≤m)→(Lib.joinTail [32] r).length≤r.length*(m+1):=by
   intro r
   induction r with
   |nil=>intro _;simp[Lib.joinTail]
   |cons y r ih=>intro h;have a:=h y (iK ..);have b:=ih λz hz=>h z (iX _ hz);unfold Lib.joinTail at*;simp only[List.map_cons,List.flatten_cons,List.length_append,List.length_cons,List.length_nil,Nat.add_mul];omega
  have h3:=h2 r λz hz=>hx z (iX _ hz);rw[List.length_cons,Nat.add_mul];omega
theorem qzf {l:List iF} (hl:l.length≤1000) (hi:∀x∈l,Cf x):(Cg l).length≤1000000:=by unfold Cg;have:=qY0 (m:=20) (l.map nR) (λy hy=>by obtain⟨x,hx,rfl⟩:=List.mem_map.1 hy;exact qz6 x (hi x hx));rw[List.length_map]at this;omega
theorem qWu {e:TypeId} {z:AV} {n:Nat} {k1 k2:IntKind} {K2:AV→AH→Go.Ae.R} {Q:AV→AH→Prop} (H:HS g h L) (h2:n≤1073741824)
  (w:∀b h',HS g h' (Cell b (List.replicate n z) e false::L)→wp (K2 (.slice b 0 n n false) h') Q):wp (Qv h e [z] (.int k1 (n:Int)) (.int k2 (n:Int)) K2) Q:=by
 refine LR (Nat.le_refl n) h2 λb h' hb A F=>w b h' (H.add (D':=λa=>a=b) F.none ⟨λa=>Iff.rfl,by rw[Oi]at A;exact A⟩ ?_);rintro a rfl;exact⟨hb,A.lt⟩
def bw (o:Nat) (l:List iF):SP:=.ex λsv=>.all [qA o [sv],qB 20 1 l.length sv (l.map Qy)]
theorem bw.E {o:Nat} {l:List iF} (H:HS g h (bw o l::R)):∃sv,HS g h (qA o [sv]::qB 20 1 l.length sv (l.map Qy)::R):=by obtain⟨sv,H⟩:=H.dU;exact⟨sv,H.b9⟩
theorem bw.I {o:Nat} {l:List iF} {sv:AV} (H:HS g h (qA o [sv]::qB 20 1 l.length sv (l.map Qy)::R)):HS g h (bw o l::R):=HS.ei sv H.allI
theorem qk8 {n:Nat} (hn:5≤n) {o:Nat} {l:List iF} (H:HS g h (bw o l::R)) (hl:l.length≤1000) (hi:∀x∈l,Cf x) :
  aA n 108 [.ptr o 0] h λr h'=>r=.str (Cg l)∧HS g h' (bw o l::R):=by
 (refine qy (g:=W108) rfl omQ λk hk=>?_;show wp (S108 (callT tab qx k) _ _) _;unfold S108;try simp only[iI,iZ])
 obtain⟨sv,H⟩:=bw.E H;refine qK (qQ (qZ ‹_› .here rfl ?_));refine qo ‹_› e_1 ?_;refine qWu (n:=l.length) H omQ λb h2 H2=>?_;refine qK (qQ (qZ ‹_› e_1 rfl ?_));refine qo ‹_› e_2 ?_
 refine jL (λm s h'=>∃i:Nat,s=(.int .i64 (i:Int),.int .i64 (l.length:Int),sv,.slice b 0 l.length l.length false,())∧i≤l.length∧m=l.length-i∧
  HS g h' (Cell b (((l.take i).map λx=>.str (nR x))++List.replicate (l.length-i) (.str [])) 9 false::qA o [sv]::qB 20 1 l.length sv (l.map Qy)::R))
  ?_ (m:=l.length) (by show _<1000000000;omega) ⟨0,rfl,by omega,by omega,H2⟩
 clear H H2;rintro m ih s h3 bG ⟨i,rfl,h1,rfl,H⟩;dsimp only;by_cases au:i<l.length
 ·refine jF omQ (qX ?_);refine jd (H.sl e_2) (x:=Qy l[i]) (by rw[List.getElem?_map,iW au];rfl) ?_;refine qV (qx7 omQ (hi _ (List.getElem_mem au)) H) ?_;rintro _ h4 ⟨rfl,H4⟩;refine XS (k:=.i64) au ?_;refine L0 H4 rfl (by simp;omega) rfl λh5 H5=>?_;refine qb omQ (bG (l.length-(i+1)) _ _ omQ ⟨i+1,rfl,by omega,rfl,?_⟩);have e:kT (((l.take i).map λx=>AV.str (nR x))++List.replicate (l.length-i) (.str [])) (0+i*1) (AV.str (nR l[i])).cells=((l.take (i+1)).map λx=>AV.str (nR x))++List.replicate (l.length-(i+1)) (.str []):=by
   rw[Nat.zero_add,Nat.mul_one];show kT _ i [AV.str (nR l[i])]=_;rw[Y6 (by simp;omega),List.take_add_one,iW au,List.map_append,show l.length-i=(l.length-(i+1))+1 by omega,List.replicate_succ,List.set_append_right _ _ (by simp;omega)];have hz:i-((l.take i).map λx=>AV.str (nR x)).length=0:=by simp;omega
   rw[hz,List.set_cons_zero,List.append_assoc];rfl
  rw[e]at H5;exact H5
 ·obtain rfl:i=l.length:=by omega
  refine jV omQ (qJ ?_);rw[Nat.sub_self,List.take_length,List.replicate_zero,List.append_nil]at H;have H2:HS g h3 (Cell b ((l.map nR).map .str) 9 false::qA o [sv]::qB 20 1 l.length sv (l.map Qy)::R):=by rw[List.map_map];exact H
  refine qV (qvL omQ H2 aN omQ (qzf hl hi)) ?_;rintro _ _ ⟨rfl,rfl⟩;exact qk (qG ⟨rfl,bw.I H.drop⟩)
end
section
structure e9 where
  op:Int
  pc:Int
  ap:List Int
  told:Nat
structure IM where
  ap:List Int
  out:List iF
  pc:Int
  bf:List e9
structure SM where
  e:Int
  nx:Int
  bp:Bool
  s:IM
  v:VM
def cU (s:IM) (i v:Int):IM:={ s with ap:=s.ap.set i.toNat v }
def z7 (b off:Int):Int×Int:=if 2147483648≤b∨2147483648≤b+off∨b+off<6 then(0,2)else(b+off,0)
def Xu (p:Prop) [Decidable p]:Int:=if p then 1 else 0
def jU (s:IM) (V:VM) (x:qT):Int×IM×VM :=
 if x.1=8 then
  (if(z7 (qE s.ap x.2.2.1) x.2.2.2.1).2=0 then
   (if(qe V (z7 (qE s.ap x.2.2.1) x.2.2.2.1).1).1.2=0 then(0,cU s x.2.1 (qe V (z7 (qE s.ap x.2.2.1) x.2.2.2.1).1).1.1,(qe V (z7 (qE s.ap x.2.2.1) x.2.2.2.1).1).2)
    else((qe V (z7 (qE s.ap x.2.2.1) x.2.2.2.1).1).1.2,s,(qe V (z7 (qE s.ap x.2.2.1) x.2.2.2.1).1).2))
  else(2,s,V))
 else if x.1=9 then
  (if(z7 (qE s.ap x.2.1) x.2.2.2.1).2=0 then((zJ V [((z7 (qE s.ap x.2.1) x.2.2.2.1).1,qE s.ap x.2.2.1)]).1,s,(zJ V [((z7 (qE s.ap x.2.1) x.2.2.2.1).1,qE s.ap x.2.2.1)]).2)
  else(2,s,V))
 else if x.1=10 then
  (if 2147483648≤qE s.ap x.2.2.1 then(3,s,V)
  else if(jO V (qE s.ap x.2.2.1)).1.2=0 then(0,cU s x.2.1 (jO V (qE s.ap x.2.2.1)).1.1,(jO V (qE s.ap x.2.2.1)).2)
  else((jO V (qE s.ap x.2.2.1)).1.2,s,(jO V (qE s.ap x.2.2.1)).2))
 else
  (if 2147483648≤qE s.ap x.2.1 then(2,s,V)else((vV V (qE s.ap x.2.1)).1,s,(vV V (qE s.ap x.2.1)).2))
def zS (op at_ nx:Int) (s:IM) (V:VM):SM :=
 if(yc V).1=0 then⟨0,nx,false,{ s with bf:=⟨op,at_,s.ap,s.out.length⟩::s.bf },(yc V).2⟩else⟨(yc V).1,nx,false,s,(yc V).2⟩
def QA (s:IM) (p:e9):IM:={ s with ap:=p.ap,out:=s.out.take p.told }
def yf (mt:List Int):List e9→IM→VM→SM
 |[],s,V=>⟨0,s.pc,true,{ s with bf:=[] },V⟩
 |p::o,s,V=>
  if(xB V).1=0 then
   (if p.op=17 then zS 18 (qE mt p.pc) (qE mt p.pc+1) { QA s p with bf:=o } (xB V).2
   else yf mt o s (xB V).2)
  else⟨(xB V).1,s.pc+1,false,{ s with bf:=o },(xB V).2⟩
def Cj (o:List e9):e9:=(o.head?).getD ⟨0,0,[0,0,0,0,0,0,0,0],0⟩
def kQ (mt:List Int) (s:IM) (V:VM) (op:Int):SM :=
 if op=14∨op=17 then zS op s.pc (s.pc+1) s V
 else if op=15∨op=19 then⟨(vJ V).1,s.pc+1,false,{ s with bf:=s.bf.tail },(vJ V).2⟩
 else if op=18 then⟨(vJ V).1,qE mt s.pc+1,false,{ s with bf:=s.bf.tail },(vJ V).2⟩
 else if op=16 then⟨(xB V).1,qE mt s.pc+1,false,{ QA s (Cj s.bf)with bf:=s.bf.tail },(xB V).2⟩
 else yf mt s.bf s V
def bK (mt:List Int) (s:IM) (V:VM) (x:qT):SM :=
 if x.1=1 then⟨0,s.pc+1,false,cU s x.2.1 x.2.2.2.2,V⟩
 else if x.1=2 then⟨0,s.pc+1,false,cU s x.2.1 (qE s.ap x.2.2.1),V⟩
 else if x.1=3 then⟨0,s.pc+1,false,cU s x.2.1 (zv .u64 (qE s.ap x.2.2.1+qE s.ap x.2.2.2.1)),V⟩
 else if x.1=4 then⟨0,s.pc+1,false,cU s x.2.1 (zv .u64 (qE s.ap x.2.2.1-qE s.ap x.2.2.2.1)),V⟩
 else if x.1=5 then⟨0,s.pc+1,false,cU s x.2.1 (zv .u64 (qE s.ap x.2.2.1*qE s.ap x.2.2.2.1)),V⟩
 else if x.1=6 then⟨0,s.pc+1,false,cU s x.2.1 (Xu (qE s.ap x.2.2.1<qE s.ap x.2.2.2.1)),V⟩
 else if x.1=7 then⟨0,s.pc+1,false,cU s x.2.1 (Xu (qE s.ap x.2.2.1=qE s.ap x.2.2.2.1)),V⟩
 else if x.1=12 then⟨0,x.2.2.2.1,false,s,V⟩
 else if x.1=13 then⟨0,if qE s.ap x.2.1=0 then x.2.2.2.1 else s.pc+1,false,s,V⟩
 else if x.1=21 then(if 16≤s.out.length then⟨5,s.pc+1,false,s,V⟩else⟨0,s.pc+1,false,{ s with out:=s.out++[(1,qE s.ap x.2.1)] },V⟩)
 else if x.1=22 then⟨13,s.pc+1,false,s,V⟩
 else if x.1=8∨x.1=9∨x.1=10∨x.1=11 then⟨(jU s V x).1,s.pc+1,false,(jU s V x).2.1,(jU s V x).2.2⟩
 else kQ mt s V x.1
structure RM where
  kind:Int
  err:Int
  left:Nat
  s:IM
  v:VM
def jM (l:List qT) (mt:List Int):Nat→IM→VM→RM
 | 0,s,V=>if s.pc=l.length then⟨2,0,0,s,V⟩else⟨4,6,0,s,V⟩
 |n+1,s,V=>
  if s.pc=l.length then⟨2,0,n+1,s,V⟩
  else if(bK mt s V (qR l s.pc)).e=0 then
   (if(bK mt s V (qR l s.pc)).bp=true then⟨3,0,n,{ (bK mt s V (qR l s.pc)).s with pc:=(bK mt s V (qR l s.pc)).nx },(bK mt s V (qR l s.pc)).v⟩
   else jM l mt n { (bK mt s V (qR l s.pc)).s with pc:=(bK mt s V (qR l s.pc)).nx } (bK mt s V (qR l s.pc)).v)
  else if(bK mt s V (qR l s.pc)).e=11 then⟨1,0,n+1,(bK mt s V (qR l s.pc)).s,(bK mt s V (qR l s.pc)).v⟩
  else⟨4,(bK mt s V (qR l s.pc)).e,n+1,(bK mt s V (qR l s.pc)).s,(bK mt s V (qR l s.pc)).v⟩
theorem gu {l:List qT} {mt:List Int} {s:IM} {V:VM}:jM l mt 0 s V=if s.pc=l.length then⟨2,0,0,s,V⟩else⟨4,6,0,s,V⟩:=rfl
theorem vR {l:List qT} {mt:List Int} {n:Nat} {s:IM} {V:VM}:jM l mt (n+1) s V=if s.pc=l.length then⟨2,0,n+1,s,V⟩
  else if(bK mt s V (qR l s.pc)).e=0 then
   (if(bK mt s V (qR l s.pc)).bp=true then⟨3,0,n,{ (bK mt s V (qR l s.pc)).s with pc:=(bK mt s V (qR l s.pc)).nx },(bK mt s V (qR l s.pc)).v⟩
   else jM l mt n { (bK mt s V (qR l s.pc)).s with pc:=(bK mt s V (qR l s.pc)).nx } (bK mt s V (qR l s.pc)).v)
  else if(bK mt s V (qR l s.pc)).e=11 then⟨1,0,n+1,(bK mt s V (qR l s.pc)).s,(bK mt s V (qR l s.pc)).v⟩
  else⟨4,(bK mt s V (qR l s.pc)).e,n+1,(bK mt s V (qR l s.pc)).s,(bK mt s V (qR l s.pc)).v⟩:=rfl
theorem U1 {l:List qT} {mt:List Int} {s:IM} {V:VM} (h0:s.pc=l.length):∀n,jM l mt n s V=⟨2,0,n,s,V⟩:=by
 intro n;cases n with
 |zero=>rw[gu,iJ h0]
 |succ n=>rw[vR,iJ h0]
def qL (l:List qT):Nat→List Int
 | 0=>[]
 |i+1=>jq (qL l i) i (qR l i).1
theorem y6 {l:List qT} {i:Nat} (h:i<l.length):qR l (i:Int)=l[i]:=by unfold qR;rw[Int.toNat_natCast,iW h];rfl
theorem jN {l:List qT} {i:Nat}:qL l (i+1)=jq (qL l i) i (qR l i).1:=rfl
theorem qY5 {l:List qT}:∀(d i:Nat) {st':List Int},i+d=l.length→lf l (l.drop i) i (qL l i)=.inr st'→(∀j,i≤j→j<l.length→zh l (qL l j) (qR l j)=0)∧qL l l.length=st':=by
 intro d
 induction d with
 |zero=>
  intro i st' hi h;obtain rfl:i=l.length:=by omega
  rw[List.drop_length]at h;cases h;exact⟨λj h1 h2=>by omega,rfl⟩
 |succ d ih=>
  intro i st' hi h;have au:i<l.length:=by omega
  rw[Uk au]at h
  split at h
  ·rename_i hw;obtain⟨a,b⟩:=ih (i+1) (st':=st') omQ (by rw[jN,y6 au];exact h);refine⟨λj h1 h2=>?_,b⟩;by_cases hj:j=i
   ·subst hj;rw[y6 au];exact hw
   ·exact a j omQ h2
  ·cases h
theorem qKa {l:List qT}:∀(d i:Nat),i+d=l.length→∀k,i+k<l.length→(vI (l.drop i) i (qL l i))[k]? =some (jk (qL l (i+k))):=by
 intro d
 induction d with
 |zero=>intro i hi k hk;omega
 |succ d ih=>
  intro i hi k hk;have au:i<l.length:=by omega
  rw[Vr au];cases k with
  |zero=>rfl
  |succ k=>rw[List.getElem?_cons_succ];have:=ih (i+1) omQ k omQ;rw[jN,y6 au]at this;rw[show i+(k+1)=i+1+k by omega];exact this
structure Fit (l:List qT):Prop where
  pos:0<l.length
  le:l.length≤40
  ok:∀j,j<l.length→zh l (qL l j) (qR l j)=0
  nil:qL l l.length=[]
  rh:∀j,j<l.length→(vI l 0 [])[j]? =some (jk (qL l j))
  jump:∀j,j<l.length→¬Q6 l (vI l 0 []) j (qR l j)
theorem qKC {l:List qT} {a:List Int}:∀(d i:Nat),i+d=l.length→(Jh l a (l.drop i) i).2=0→∀j,i≤j→j<l.length→¬Q6 l a j (qR l j):=by
 intro d
 induction d with
 |zero=>intro i hi _ j h1 h2;omega
 |succ d ih=>
  intro i hi h j h1 h2;have au:i<l.length:=by omega
  rw[UY au]at h
  split at h
  ·cases h
  ·rename_i hn;by_cases hj:j=i
   ·subst hj;rw[y6 au];exact hn
   ·exact ih (i+1) omQ h j omQ h2
theorem Jn {l:List qT} (h:(zf l).2=0):Fit l:=by
 have hg:=UN h;obtain⟨a,b⟩:=qY5 (l:=l) l.length 0 (st':=[]) omQ hg;unfold zf at h
 split at h
 ·cases h
 ·rename_i h0;rw[hg]at h;dsimp only at h;rw[iJ rfl]at h
  exact⟨by omega,by omega,λj hj=>a j (Nat.zero_le _) hj,b,λj hj=>by
   have:=qKa (l:=l) l.length 0 omQ j omQ;rw[Nat.zero_add]at this
   exact this,λj hj=>qKC l.length 0 omQ h j (Nat.zero_le _) hj⟩
def Ck (i:Nat) (st:List Int):Prop:=cd i st∧st.Pairwise (· < ·)
theorem KV {l:List qT}:∀i,Ck i (qL l i):=by
 intro i
 induction i with
 |zero=>exact⟨cd.nil,List.Pairwise.nil⟩
 |succ i ih=>
  refine⟨ih.1.behind,?_⟩;rw[jN];have hd:(qL l i).dropLast.Pairwise (· < ·):=ih.2.sublist (List.dropLast_sublist _);have hp:∀st:List Int,cd i st→st.Pairwise (· < ·)→(st++[(i:Int)]).Pairwise (· < ·):=by intro st h1 h2;rw[List.pairwise_append];refine⟨h2,List.pairwise_singleton ..,λa ha b hb=>?_⟩;rw[List.mem_singleton]at hb;subst hb;exact(h1 a ha).2
  unfold jq
  repeat' split
  ·exact hp _ ih.1.dropLast hd
  ·exact hp _ ih.1 ih.2
  ·exact hd
  ·exact ih.2
theorem MG {l:List qT}:∀(i k p:Nat),(qL l i)[k]? =some (p:Int)→qL l (p+1)=(qL l i).take (k+1):=by
 intro i
 induction i with
 |zero=>intro k p h;simp[qL]at h
 |succ i ih=>
  intro k p h;have key:∀st:List Int,(∀k p:Nat,st[k]? =some (p:Int)→qL l (p+1)=st.take (k+1))→qL l (i+1)=st++[(i:Int)]→qL l (p+1)=(qL l (i+1)).take (k+1):=by
   intro st cC he;rw[he]at h ⊢;by_cases hk:k<st.length
   ·rw[List.getElem?_append_left hk]at h;rw[cC k p h,List.take_append_of_le_length omQ]
   ·have iq:k=st.length:=by
     have:=(List.getElem?_eq_some_iff.1 h).1;simp at this;omega
    subst iq;rw[List.getElem?_append_right (Nat.le_refl _),Nat.sub_self]at h;simp at h;have:p=i:=by omega
    subst this;rw[he,List.take_of_length_le aN]
  have sW:∀k p:Nat,(qL l i).dropLast[k]? =some (p:Int)→qL l (p+1)=(qL l i).dropLast.take (k+1):=by
   intro k p h;have hk:=(List.getElem?_eq_some_iff.1 h).1;have iq:k+1≤(qL l i).length-1:=by have:=hk;simp at this;omega
   have h2:(qL l i)[k]? =some (p:Int):=by
    rw[List.getElem?_dropLast]at h
    split at h
    ·exact h
    ·cases h
   rw[ih k p h2,List.dropLast_eq_take,List.take_take,Nat.min_eq_left iq]
  by_cases hb:xG (qR l i).1=true∨(qR l i).1=18
  ·by_cases he:0<jt (qR l i).1
   ·exact key _ sW (by rw[jN];unfold jq;rw[iJ hb,iJ he])
   ·exact key _ ih (by rw[jN];unfold jq;rw[iJ hb,iQ he])
  ·by_cases he:0<jt (qR l i).1
   ·have e:qL l (i+1)=(qL l i).dropLast:=by rw[jN];unfold jq;rw[iQ hb,iJ he]
    rw[e]at h ⊢;exact sW k p h
   ·have e:qL l (i+1)=qL l i:=by rw[jN];unfold jq;rw[iQ hb,iQ he]
    rw[e]at h ⊢;exact ih k p h
theorem vm {l:List qT} {i:Nat} (h:qL l i≠[]):∃p:Nat,jk (qL l i)=p∧p<i∧(qL l i)[(qL l i).length-1]? =some (p:Int)∧qL l (p+1)=qL l i:=by
 have hb:=(KV (l:=l) i).1.dI h;obtain⟨p,hp⟩:∃p:Nat,jk (qL l i)=p:=⟨(jk (qL l i)).toNat,by omega⟩;have hl:0<(qL l i).length:=List.length_pos_iff.2 h;have hk:(qL l i)[(qL l i).length-1]? =some (p:Int):=by rw[← hp];unfold jk;rw[← List.getLast?_eq_getElem?,List.getLast?_eq_some_getLast h];rfl
 refine⟨p,hp,by omega,hk,?_⟩;rw[MG i _ p hk,List.take_of_length_le omQ]
theorem qW9 {l:List qT} {i j:Nat} (h:jk (qL l i)=jk (qL l j)):qL l i=qL l j:=by
 by_cases hi:qL l i=[]
 ·by_cases hj:qL l j=[]
  ·rw[hi,hj]
  ·obtain⟨p,h1,_⟩:=vm hj;rw[hi,Ux,h1]at h;omega
 ·obtain⟨p,h1,_,_,h2⟩:=vm hi;by_cases hj:qL l j=[]
  ·rw[hj,Ux,h1]at h;omega
  ·obtain⟨q,h3,_,_,h4⟩:=vm hj;have:p=q:=by omega
   subst this;rw[← h2,← h4]
def lZ (l:List qT) (A:List Int):Nat→List Int
 | 0=>List.replicate l.length (-1)
 |i+1=>if 0<jt (qR l i).1 then(lZ l A i).set (qE A i).toNat i else lZ l A i
def hU (l:List qT) (A:List Int):Nat→List Int
 | 0=>lZ l A l.length
 |i+1=>if(qR l i).1=16 then(hU l A i).set i (qE (hU l A i) (qE A i))else hU l A i
def qP (l:List qT):List Int:=hU l (vI l 0 []) l.length
theorem Pz {l:List qT} {A:List Int} {i:Nat}:lZ l A (i+1)=if 0<jt (qR l i).1 then(lZ l A i).set (qE A i).toNat i else lZ l A i:=rfl
theorem Hf {l:List qT} {A:List Int} {i:Nat}:hU l A (i+1)=if(qR l i).1=16 then(hU l A i).set i (qE (hU l A i) (qE A i))else hU l A i:=rfl
theorem ND {l:List qT} {A:List Int}:∀i,(lZ l A i).length=l.length:=by
 intro i
 induction i with
 |zero=>simp[lZ]
 |succ i ih=>rw[Pz];split<;>simp[ih]
theorem Nz {l:List qT} {A:List Int}:∀i,(hU l A i).length=l.length:=by
 intro i
 induction i with
 |zero=>exact ND _
 |succ i ih=>rw[Hf];split<;>simp[ih]
theorem qVM (l:List qT):(qP l).length=l.length:=Nz _
theorem wJ {l:List qT} (F:Fit l) {j:Nat} (h:j<l.length):qE (vI l 0 []) (j:Int)=jk (qL l j):=by unfold qE;rw[Int.toNat_natCast,F.rh j h];rfl
theorem PA {l:List qT} {p:Nat}:∀(d i:Nat),p<i→(p:Int)∉qL l i→(p:Int)∉qL l (i+d):=by
 intro d
 induction d with
 |zero=>intro i _ h;exact h
 |succ d ih=>
  intro i hp h;have h2:=ih i hp h;rw[show i+(d+1)=i+d+1 by omega,jN];have hd:(p:Int)∉(qL l (i+d)).dropLast:=λhm=>h2 ((List.dropLast_sublist _).subset hm);unfold jq
  repeat' split
  all_goals first |exact hd |exact h2 |skip
  ·intro hm;rcases List.mem_append.1 hm with hm |hm
   ·exact hd hm
   ·rw[List.mem_singleton]at hm;omega
  ·intro hm;rcases List.mem_append.1 hm with hm |hm
   ·exact h2 hm
   ·rw[List.mem_singleton]at hm;omega
theorem KY {st:List Int} {p:Int} (h:st.Pairwise (· < ·)) (hn:st≠[]) (hp:jk st=p):p∉st.dropLast:=by
 have e:st=st.dropLast++[p]:=by have:=List.dropLast_concat_getLast hn;rw[show st.getLast hn=p by rw[← hp];unfold jk;rw[List.getLast?_eq_some_getLast hn];rfl]at this;exact this.symm
 rw[e,List.pairwise_append]at h;intro hm;have:=h.2.2 p hm p (List.mem_singleton_self _);omega
theorem qqR {l:List qT} {p j:Nat} (he:0<jt (qR l j).1) (hn:qL l j≠[]) (hp:jk (qL l j)=p):(p:Int)∉qL l (j+1):=by
 have h1:=KY (KV (l:=l) j).2 hn hp;have h2:=(KV (l:=l) j).1.dI hn;rw[jN];unfold jq;rw[iJ he]
 split
 ·intro hm;rcases List.mem_append.1 hm with hm |hm
  ·exact h1 hm
  ·rw[List.mem_singleton]at hm;omega
 ·exact h1
theorem vH {l:List qT} {st:List Int} {x:qT} (h:zh l st x=0):Jx x=true∧(0<jt x.1→dh l st=jt x.1)∧(x.1=16→dh l st=14)∧(xG x.1=true→st.length<5):=by
 have h0:=xM h;unfold zh at h;rw[iQ (by rw[h0.1];simp)]at h
 split at h
 ·cases h
 ·rename_i h2
  split at h
  ·cases h
  ·rename_i h3;refine⟨h0.1,λhe=>?_,λhe=>?_,h0.2.2⟩
   ·exact Classical.not_not.1 λhh=>h2 ⟨he,hh⟩
   ·exact Classical.not_not.1 λhh=>h3 ⟨he,hh⟩
theorem Z0 {l:List qT} {i:Nat} {p:Nat} (hn:qL l i≠[]) (hp:jk (qL l i)=p):dh l (qL l i)=(qR l p).1:=by unfold dh;rw[iQ hn,hp]
theorem PB {l:List qT} (F:Fit l) {p:Nat} (hp:p<l.length) (ho:(qR l p).1=14∨(qR l p).1=17∨(qR l p).1=18) :
  ∃e:Nat,p<e∧e<l.length∧jt (qR l e).1=(qR l p).1∧qL l e≠[]∧jk (qL l e)=p∧
   ∀j,j<l.length→0<jt (qR l j).1→jk (qL l j)=p→j=e:=by
 have dA:(p:Int)∈qL l (p+1):=by rw[jN];unfold jq;rw[iJ (by unfold xG;rcases ho with h |h |h<;>rw[h]<;>decide)];exact List.mem_append_right _ (List.mem_singleton_self _)
 have key:∀d i,p<i→i+d=l.length→(p:Int)∈qL l i→∃e,i≤e∧e<l.length∧(p:Int)∈qL l e∧(p:Int)∉qL l (e+1):=by
  intro d
  induction d with
  |zero=>
   intro i _ hi hm;obtain rfl:i=l.length:=by omega
   rw[F.nil]at hm;cases hm
  |succ d ih=>
   intro i Fl hi hm;by_cases h:(p:Int)∈qL l (i+1)
   ·obtain⟨e,h1,h2⟩:=ih (i+1) omQ omQ h;exact⟨e,by omega,h2⟩
   ·exact⟨i,Nat.le_refl _,by omega,hm,h⟩
 obtain⟨e,h1,h2,h3,h4⟩:=key (l.length-(p+1)) (p+1) omQ omQ dA;have cS:qL l e≠[]:=λh=>by rw[h]at h3;cases h3
 have lh:0<jt (qR l e).1:=by
  apply Classical.not_not.1;intro hn;apply h4;rw[jN];unfold jq;rw[iQ hn]
  split
  ·exact List.mem_append_left _ h3
  ·exact h3
 have Cm:jk (qL l e)=p:=by
  apply Classical.not_not.1;intro hn;apply h4;have hd:(p:Int)∈(qL l e).dropLast:=by
   have hd:=List.dropLast_concat_getLast cS;rw[← hd]at h3;rcases List.mem_append.1 h3 with h |h
   ·exact h
   ·rw[List.mem_singleton]at h;exfalso;apply hn;unfold jk;rw[List.getLast?_eq_some_getLast cS,h];rfl
  rw[jN];unfold jq;rw[iJ lh]
  split
  ·exact List.mem_append_left _ hd
  ·exact hd
 have hw:=(vH (F.ok e h2)).2.1 lh;rw[Z0 cS Cm]at hw;refine⟨e,by omega,h2,hw.symm,cS,Cm,λj hj sX PC=>?_⟩;have An:qL l j≠[]:=(xM (F.ok j hj)).2.1 (.inl sX);have hpj:p<j:=by have:=(KV (l:=l) j).1.dI An;omega
 rcases Nat.lt_trichotomy j e with h |h |h
 ·exfalso;have:=PA (l:=l) (e-(j+1)) (j+1) omQ (qqR sX An PC);rw[show j+1+(e-(j+1))=e by omega]at this;exact this h3
 ·exact h
 ·exfalso;have h5:=PA (l:=l) (j-(e+1)) (e+1) omQ h4;rw[show e+1+(j-(e+1))=j by omega]at h5;apply h5;rw[← PC];unfold jk;rw[List.getLast?_eq_some_getLast An];exact List.getLast_mem An
theorem PD {l:List qT} (F:Fit l) {p e:Nat} (hp:p<l.length) (he:e<l.length) (hee:0<jt (qR l e).1) (hi:jk (qL l e)=p)
  (hu:∀j,j<l.length→0<jt (qR l j).1→jk (qL l j)=p→j=e):∀i,e<i→i≤l.length→(lZ l (vI l 0 []) i)[p]? =some (e:Int):=by
 intro i
 induction i with
 |zero=>intro h;omega
 |succ i ih=>
  intro h1 h2;rw[Pz];by_cases DP:i=e
  ·subst DP;rw[iJ hee,wJ F he,hi,Int.toNat_natCast,List.getElem?_set_self (by rw[ND];exact hp)]
  ·split
   ·rename_i hx;rw[wJ F omQ,List.getElem?_set_ne]
    ·exact ih omQ omQ
    ·intro hh;have An:qL l i≠[]:=(xM (F.ok i omQ)).2.1 (.inl hx);have:=(KV (l:=l) i).1.dI An;exact DP (hu i omQ hx omQ)
   ·exact ih omQ omQ
theorem PE {l:List qT} (_:Fit l) {p:Nat} (hp:(qR l p).1≠16):∀i,(hU l (vI l 0 []) i)[p]? =(lZ l (vI l 0 []) l.length)[p]?:=by
 intro i
 induction i with
 |zero=>rfl
 |succ i ih=>
  rw[Hf]
  split
  ·rename_i hx;rw[List.getElem?_set_ne,ih];rintro rfl;exact hp hx
  ·exact ih
theorem qW5 {l:List qT} (F:Fit l) {u:Nat} (hu:u<l.length) (ho:(qR l u).1=16):∀i,u<i→(hU l (vI l 0 []) i)[u]? =some (qE (hU l (vI l 0 []) u) (jk (qL l u))):=by
 intro i
 induction i with
 |zero=>intro h;omega
 |succ i ih=>
  intro h;rw[Hf];by_cases hi:i=u
  ·subst hi;rw[iJ ho,List.getElem?_set_self (by rw[Nz];exact hu),wJ F hu]
  ·split
   ·rw[List.getElem?_set_ne hi];exact ih omQ
   ·exact ih omQ
theorem Jo {l:List qT} (F:Fit l) {p:Nat} (hp:p<l.length) (ho:(qR l p).1=14∨(qR l p).1=17∨(qR l p).1=18) :
  ∃e:Nat,qE (qP l) (p:Int)=e∧p<e∧e<l.length∧jt (qR l e).1=(qR l p).1∧qL l e=qL l (p+1):=by
 obtain⟨e,h1,h2,h3,h4,h5,h6⟩:=PB F hp ho;refine⟨e,?_,h1,h2,h3,?_⟩
 ·unfold qE qP;rw[Int.toNat_natCast,PE F (by rcases ho with h |h |h<;>rw[h]<;>decide),PD F hp h2 (by rw[h3];rcases ho with h |h |h<;>rw[h]<;>decide) h5 h6 l.length h2 (Nat.le_refl _)];rfl
 ·obtain⟨q,g1,_,_,g2⟩:=vm h4;have:q=p:=by omega
  subst this;exact g2.symm
theorem UE {l:List qT} (F:Fit l) {u:Nat} (hu:u<l.length) (ho:(qR l u).1=16) :
  ∃e:Nat,qE (qP l) (u:Int)=e∧e<l.length∧(qR l e).1=15∧qL l e=qL l u∧qL l u≠[]:=by
 have hn:qL l u≠[]:=(xM (F.ok u hu)).2.1 (.inr ho);obtain⟨q,g1,g2,_,g3⟩:=vm hn;have hw:=(vH (F.ok u hu)).2.2.1 ho;rw[Z0 hn g1]at hw;obtain⟨e,h1,h2,h3,h4,h5,h6⟩:=PB F (p:=q) omQ (.inl hw);have e0:qE (hU l (vI l 0 []) u) (q:Int)=e:=by unfold qE;rw[Int.toNat_natCast,PE F (by rw[hw];decide),PD F omQ h2 (by rw[h3,hw];decide) h5 h6 l.length h2 (Nat.le_refl _)];rfl
 refine⟨e,?_,h2,?_,?_,hn⟩
 ·unfold qP;rw[qE,Int.toNat_natCast,qW5 F hu ho l.length hu,g1,e0];rfl
 ·rw[hw]at h3;unfold jt at h3
  repeat' split at h3
  all_goals first |assumption |omega
 ·obtain⟨q2,k1,_,_,k2⟩:=vm h4;have:q2=q:=by omega
  subst this;rw[← k2,g3]
end
section
structure Jy (M M':VM):Prop where
  sz:M'.sz=M.sz
  K:M'.K=M.K
  most:M'.most=M.most
  len:M'.lv.length=M.lv.length
def JD (M M':VM):Prop:=M'.lv=M.lv∧1≤M'.aK∧M'.aK<M.sz∧zW M'.aK M.K=none
theorem Jy.refl (M:VM):Jy M M:=⟨rfl,rfl,rfl,rfl⟩
theorem Jy.trans {M N Q:VM} (a:Jy M N) (b:Jy N Q):Jy M Q:=⟨b.sz.trans a.sz,b.K.trans a.K,b.most.trans a.most,b.len.trans a.len⟩
theorem xK (M:VM) (p:Int):Jy M (qe M p).2:=by
 unfold qe
 repeat' split
 all_goals exact⟨rfl,rfl,rfl,rfl⟩
theorem kB {M:VM} {p:Int} (h:(qe M p).1.2=11):JD M (qe M p).2:=by
 unfold qe at h ⊢
 split
 ·rename_i h1;rw[iJ h1]at h
  split
  ·rename_i h2;rw[h2]at h;cases h
  ·rename_i h2;rw[h2]at h;dsimp only at h ⊢
   split
   ·rename_i h3;rw[h3]at h;cases h
   ·rename_i h3;exact⟨rfl,h1.1,h1.2,h3⟩
 ·rename_i h1;rw[iQ h1]at h;cases h
theorem qvA {most:Nat} {lv:List bz} {p v:Int}:(vL most lv p v).1=0∨(vL most lv p v).1=2∨(vL most lv p v).1=5:=by
 unfold vL
 repeat' split
 all_goals simp
theorem qV6 {most:Nat} {aR:List bz}:∀{cs:List Cl} {lv:List bz},(vq most aR lv cs).1=0∨(vq most aR lv cs).1=2∨(vq most aR lv cs).1=5:=by
 intro cs
 induction cs with
 |nil=>intro lv;exact .inl rfl
 |cons c cs ih=>
  intro lv;rw[vP]
  split
  ·exact ih
  ·exact qvA
theorem qWa {M:VM} {cs:List Cl}:(zJ M cs).1=0∨(zJ M cs).1=2∨(zJ M cs).1=5:=by
 unfold zJ
 split
 ·exact qV6
 ·exact .inr (.inl rfl)
theorem Yt {M:VM} {cs:List Cl} (h:(zJ M cs).1=11):False:=by have:=qWa (M:=M) (cs:=cs);omega
theorem vU {M:VM} {cs:List Cl} (O:dp M):Jy M (zJ M cs).2:=by
 unfold zJ
 split
 ·exact⟨rfl,rfl,rfl,(O9 O.hP O.hP rfl).2⟩
 ·exact .refl M
theorem Od (M:VM) (b:Int):Jy M (jm M b).2:=by
 unfold jm
 repeat' split
 all_goals first |exact .refl M |exact xK M _
theorem Zb {M:VM} {b:Int} (h:(jm M b).1.2.2=11):JD M (jm M b).2:=by
 unfold jm at h ⊢
 split
 ·rename_i h1;rw[iJ h1]at h;cases h
 ·rename_i h1;rw[iQ h1]at h
  split
  ·rename_i h2;rw[iJ h2]at h
   split
   ·rename_i h3;rw[iJ h3]at h;cases h
   ·rename_i h3;rw[iQ h3]at h;cases h
  ·rename_i h2;rw[iQ h2]at h;exact kB h
theorem nS {lv:List bz} {b:Int}:(Ji lv b).length=lv.length:=by cases lv<;>rfl
theorem qKu {M:VM} {b:Int} (O:dp M):Jy M (vV M b).2:=by
 have ha:=Od M b;unfold vV
 repeat' split
 ·have ht:=ha.trans (vU (cs:=[(b-1,(jm M b).1.1)]) (XD (b:=b) O));exact⟨ht.sz,ht.K,ht.most,nS.trans ht.len⟩
 ·exact ha.trans (vU (XD O))
 ·exact ha
 ·exact ha
theorem qKN {M:VM} {b:Int} (h:(vV M b).1=11):JD M (vV M b).2:=by
 unfold vV at h ⊢
 split
 ·rename_i h1;rw[iJ h1]at h
  split
  ·rename_i h2;rw[iJ h2]at h
   split
   ·rename_i h3;rw[iJ h3]at h;cases h
   ·rename_i h3;rw[iQ h3]at h;exact(Yt h).elim
  ·rename_i h2;rw[iQ h2]at h;cases h
 ·rename_i h1;rw[iQ h1]at h;exact Zb h
theorem qQ1 {M:VM} {c b:Int} (O:dp M):Jy M (xf M c b).2:=by
 unfold xf
 repeat' split
 ·exact .refl M
 ·exact(xK M _).trans (vU (xN O))
 ·exact(xK M _).trans (vU (xN O))
 ·exact xK M _
theorem qJa {M:VM} {c b:Int} (h:(xf M c b).1.2=11):JD M (xf M c b).2:=by
 unfold xf at h ⊢
 split
 ·rename_i h1;rw[iJ h1]at h;cases h
 ·rename_i h1;rw[iQ h1]at h
  split
  ·rename_i h2;rw[iJ h2]at h
   split
   ·rename_i h3;rw[iJ h3]at h;cases h
   ·rename_i h3;rw[iQ h3]at h;exact(Yt h).elim
  ·rename_i h2;rw[iQ h2]at h;exact kB h
theorem qQc {M:VM} {c:Int} (O:dp M):Jy M (xe M c).2:=by
 unfold xe
 repeat' split
 ·exact xK M _
 ·exact(xK M _).trans (vU (xN O))
 ·exact(xK M _).trans (vU (xN O))
 ·exact xK M _
theorem qJM {M:VM} {c:Int} (h:(xe M c).1.2=11):JD M (xe M c).2:=by
 unfold xe at h ⊢
 split
 ·rename_i h1;rw[iJ h1]at h
  split
  ·rename_i h2;rw[iJ h2]at h;cases h
  ·rename_i h2;rw[iQ h2]at h
   split
   ·rename_i h3;rw[iJ h3]at h;cases h
   ·rename_i h3;rw[iQ h3]at h;exact(Yt h).elim
 ·rename_i h1;rw[iQ h1]at h;exact kB h
theorem Uc {M:VM} {x:Int} (O:dp M):Jy M (jO M x).2:=by
 unfold jO
 repeat' split
 ·exact .refl M
 ·exact(xK M _).trans (qQc (xN O))
 ·exact(xK M _).trans (qQ1 (xN O))
 ·exact xK M _
theorem qQr {M:VM} {x:Int} (h:(jO M x).1.2=11):JD M (jO M x).2:=by
 unfold jO at h ⊢
 split
 ·rename_i h1;rw[iJ h1]at h;cases h
 ·rename_i h1;rw[iQ h1]at h
  split
  ·rename_i h2;rw[iJ h2]at h;have e:=Gd h2
   split
   ·rename_i h3;rw[iJ h3,e]at h;rw[e];exact qJM h
   ·rename_i h3;rw[iQ h3,e]at h;rw[e];exact qJa h
  ·rename_i h2;rw[iQ h2]at h;exact kB h
theorem PF {M:VM} {x:Int} (W:nl M) (h:(jO M x).1.2=0):0≤(jO M x).1.1∧(jO M x).1.1≤2147483648:=by
 have hs:=Mr (zX x);unfold jO at h ⊢
 split
 ·rename_i h1;rw[iJ h1]at h;cases h
 ·rename_i h1;rw[iQ h1]at h
  split
  ·rename_i h2;rw[iJ h2]at h;have hr:=W.read (p:=zX x)
   split
   ·rename_i h3;rw[iJ h3]at h;have DR:=(W.lY (p:=zX x)).read (p:=5);unfold xe at h ⊢
    split
    ·rename_i h4;rw[iJ h4]at h
     split
     ·rename_i h5;rw[iJ h5]at h;cases h
     ·rename_i h5
      split
      ·dsimp only;omega
      ·show(0:Int)≤0∧(0:Int)≤2147483648;omega
    ·show(0:Int)≤0∧(0:Int)≤2147483648;omega
   ·rename_i h3;rw[iQ h3]at h;unfold xf at h ⊢
    split
    ·rename_i h4;rw[iJ h4]at h;cases h
    ·split
     ·split
      ·dsimp only;omega
      ·show(0:Int)≤0∧(0:Int)≤2147483648;omega
     ·show(0:Int)≤0∧(0:Int)≤2147483648;omega
  ·show(0:Int)≤0∧(0:Int)≤2147483648;omega
structure Jz (r:List Int):Prop where
  len:r.length=8
  bd:∀z∈r,0≤z∧z<18446744073709551616
theorem Jz.at {r:List Int} (h:Jz r) (i:Int):0≤qE r i∧qE r i<18446744073709551616:=by
 unfold qE;cases hi:r[i.toNat]? with
 |none=>show(0:Int)≤0∧(0:Int)<18446744073709551616;omega
 |some z=>exact h.bd z (List.mem_of_getElem? hi)
theorem Jz.set {r:List Int} {i v:Int} (h:Jz r) (hv:0≤v∧v<18446744073709551616):Jz (r.set i.toNat v) :=
 ⟨by rw[List.length_set];exact h.len,λz hz=>by
  rcases List.mem_or_eq_of_mem_set hz with hz |rfl
  ·exact h.bd z hz
  ·exact hv⟩
structure rU (l:List qT) (p:e9):Prop where
  ap:Jz p.ap
  pc:∃k:Nat,p.pc=k∧k<l.length
  op:(p.op=14∨p.op=17∨p.op=18)∧(qR l p.pc).1=p.op
def cN:Nat→List e9→Prop
 |_,[]=>True
 |n,p::r=>p.told≤n∧cN p.told r
theorem cN.mono:∀{o:List e9} {n n':Nat},n≤n'→cN n o→cN n' o:=by
 intro o;cases o with
 |nil=>intro _ _ _ _;trivial
 |cons p r=>intro n n' h h2;exact⟨Nat.le_trans h2.1 h,h2.2⟩
structure GB (s:IM):Prop where
  ap:Jz s.ap
  out:s.out.length≤16
  its:∀x∈s.out,Cf x
structure GI (l:List qT) (s:IM) (V:VM):Prop where
  gb:GB s
  pc:∃k:Nat,s.pc=k∧k≤l.length
  lA:∀p∈s.bf,rU l p
  told:cN s.out.length s.bf
  Cn:s.bf.map (·.pc)=(qL l s.pc.toNat).reverse
  lv:V.lv.length=s.bf.length+1
  aC:jg V
theorem DT (z:Int):0≤zv .u64 z∧zv .u64 z<18446744073709551616:=by
  cases z with
  | ofNat a => show (0 : Int) ≤ Int.ofNat (a % 18446744073709551616) ∧ Int.ofNat (a % 18446744073709551616) < 18446744073709551616
               rw[iZ];omega
  | negSucc a => show (0 : Int) ≤ Int.ofNat (18446744073709551615 - a % 18446744073709551616) ∧ Int.ofNat (18446744073709551615 - a % 18446744073709551616) < 18446744073709551616
                 rw[iZ];omega
theorem PG (p:Prop) [Decidable p]:0≤Xu p∧Xu p<18446744073709551616:=by unfold Xu;split<;>omega
theorem GB.cU {s:IM} {i v:Int} (h:GB s) (hv:0≤v∧v<18446744073709551616):GB (cU s i v):=⟨h.ap.set hv,h.out,h.its⟩
structure YR (l:List qT) (s:IM) (V:VM) (r:SM):Prop where
  gb:GB r.s
  aC:jg r.v
  fr:bD r.v.lv≤bD V.lv+1
  sz:r.v.sz=V.sz
  K:r.v.K=V.K
  most:r.v.most=V.most
  next:r.e=0→r.bp=false→GI l { r.s with pc:=r.nx } r.v
  aK:r.e=11→r.s=s∧JD V r.v
  bl:r.bp=true→r.e=0
theorem qJL {l:List qT} {i:Nat} (h1:xG (qR l i).1=false) (h2:(qR l i).1≠18) (h3:jt (qR l i).1=0):qL l (i+1)=qL l i:=by rw[jN];unfold jq;rw[iQ (by rw[h1];simp[h2]),iQ omQ]
theorem GI.plain {l:List qT} {s s':IM} {V V':VM} {i:Nat} (G:GI l s V) (hi:s.pc=i) (au:i<l.length) (h1:xG (qR l i).1=false) (h2:(qR l i).1≠18) (h3:jt (qR l i).1=0)
  (gb:GB s') (ho:s'.bf=s.bf) (hl:s.out.length≤s'.out.length) (hv:V'.lv.length=V.lv.length) (hg:jg V'):GI l { s' with pc:=s.pc+1 } V':=by
 refine⟨⟨gb.ap,gb.out,gb.its⟩,⟨i+1,by show s.pc+1=_;omega,by omega⟩,by show∀p∈s'.bf,_;rw[ho];exact G.lA,by show cN s'.out.length s'.bf;rw[ho];exact G.told.mono hl,?_,by show V'.lv.length=s'.bf.length+1;rw[ho,hv];exact G.lv,hg⟩;show s'.bf.map _=(qL l (s.pc+1).toNat).reverse;rw[ho,hi,show((i:Int)+1).toNat=i+1 by omega,qJL h1 h2 h3,G.Cn,hi,Int.toNat_natCast]
theorem VJ {l:List qT} {s:IM} {V:VM} {op:Int} {p:Nat} {st:List Int} (gb:GB s) (hp:p<l.length) (ho:(op=14∨op=17∨op=18)∧(qR l (p:Int)).1=op) (lA:∀p∈s.bf,rU l p) (told:cN s.out.length s.bf)
  (cC:s.bf.map (·.pc)=st.reverse) (Du:qL l (p+1)=st++[(p:Int)]) (lv:V.lv.length=s.bf.length+1) (hd:s.bf.length<5) (G:jg V) :
  (zS op p ((p:Int)+1) s V).e=0∧(zS op p ((p:Int)+1) s V).bp=false∧(zS op p ((p:Int)+1) s V).nx=(p:Int)+1∧GI l { (zS op p ((p:Int)+1) s V).s with pc:=(p:Int)+1 } (zS op p ((p:Int)+1) s V).v∧
   (zS op p ((p:Int)+1) s V).v=(yc V).2:=by
 have h0:(yc V).1=0∧(yc V).2.lv=([],[])::V.lv:=by unfold yc km;rw[iQ omQ];exact⟨rfl,rfl⟩
 unfold zS;rw[iJ h0.1];refine⟨rfl,rfl,rfl,⟨⟨gb.ap,gb.out,gb.its⟩,⟨p+1,rfl,by omega⟩,?_,⟨Nat.le_refl _,told⟩,?_,?_,G.pw.1⟩,rfl⟩
 ·intro q hq;rcases List.mem_cons.1 hq with rfl |hq
  ·exact⟨gb.ap,⟨p,rfl,hp⟩,ho⟩
  ·exact lA q hq
 ·show(p:Int)::s.bf.map _=(qL l ((p:Int)+1).toNat).reverse;rw[cC,show((p:Int)+1).toNat=p+1 by omega,Du,List.reverse_append];rfl
 ·show(yc V).2.lv.length=_;rw[h0.2,List.length_cons,lv];rfl
theorem Vt {V:VM} (h:2≤V.lv.length):(xB V).1=0∧(xB V).2.lv=V.lv.tail:=by unfold xB ki;rw[iQ omQ];exact⟨rfl,rfl⟩
theorem VS {V:VM} (h:2≤V.lv.length):(vJ V).1=0∧(vJ V).2.lv.length+1=V.lv.length:=by
 unfold vJ
 match hl:V.lv,h with
 |[],h=>simp at h
 |[x],h=>simp at h
 |x::y::r,_=>exact⟨rfl,by simp[Qh]⟩
theorem cN.tail {n:Nat} {p:e9} {o:List e9} (h:cN n (p::o)):cN n o:=h.2.mono h.1
theorem YR.plain {l:List qT} {s s':IM} {V V':VM} {i:Nat} {e:Int} (G:GI l s V) (hi:s.pc=i) (au:i<l.length) (h1:xG (qR l i).1=false) (h2:(qR l i).1≠18) (h3:jt (qR l i).1=0)
  (gb:GB s') (ho:s'.bf=s.bf) (hl:s.out.length≤s'.out.length) (hk:Jy V V') (hg:jg V') (hf:bD V'.lv≤bD V.lv+1) (hn:e=11→s'=s∧JD V V'):YR l s V ⟨e,s.pc+1,false,s',V'⟩ :=
 ⟨gb,hg,hf,hk.sz,hk.K,hk.most,λ_ _=>G.plain hi au h1 h2 h3 gb ho hl hk.len hg,hn,λh=>(by cases h)⟩
theorem qQf {l:List qT} (F:Fit l) {i:Nat} (au:i<l.length) (ho:(qR l i).1=12∨(qR l i).1=13):∃c:Nat,(qR l i).2.2.2.1=c∧c≤l.length∧qL l c=qL l i:=by
 have hm:=(vH (F.ok i au)).1;have hj:=F.jump i au;generalize qR l i=x at*;have hc:0≤x.2.2.2.1∧x.2.2.2.1≤40:=by
  unfold Jx jc kh at hm;simp only[Bool.and_eq_true,decide_eq_true_eq]at hm;have:=hm.1.2;rcases ho with h |h
  ·rw[iQ omQ,iQ omQ,iQ omQ,iQ omQ,iJ h]at this;exact this
  ·rw[iQ omQ,iQ omQ,iQ omQ,iQ omQ,iQ omQ,iJ h]at this;exact this
 obtain⟨c,rB⟩:∃c:Nat,x.2.2.2.1=c:=⟨x.2.2.2.1.toNat,by omega⟩;refine⟨c,rB,?_⟩;unfold Q6 at hj;rw[rB]at hj;have hle:c≤l.length:=by
  rcases Nat.lt_or_ge l.length c with h |h
  ·exact absurd ⟨ho,.inl omQ⟩ hj
  ·exact h
 refine⟨hle,?_⟩;by_cases he:c=l.length
 ·subst he;rw[F.nil];have:qE (vI l 0 []) (i:Int)= -1:=Classical.not_not.1 λh=>hj ⟨ho,.inr (.inl ⟨rfl,h⟩)⟩;rw[wJ F au]at this
  exact(Classical.not_not.1 λh=>by
   have:=(KV (l:=l) i).1.dI (λh'=>h h'.symm)
   omega:[]=qL l i)
 ·have:qE (vI l 0 []) (c:Int)=qE (vI l 0 []) (i:Int):=Classical.not_not.1 λh=>hj ⟨ho,.inr (.inr ⟨by omega,h⟩)⟩;rw[wJ F au,wJ F omQ]at this;exact qW9 this
theorem UG {l:List qT} (F:Fit l):∀i,i≤l.length→(qL l i).length≤5:=by
 intro i
 induction i with
 |zero=>intro _;simp[qL]
 |succ i ih=>
  intro h;have h1:=ih omQ;have hw:=vH (F.ok i omQ);rw[jN];unfold jq
  repeat' split
  ·rename_i hb he;have cS:qL l i≠[]:=(xM (F.ok i omQ)).2.1 (.inl he);have:=List.length_pos_iff.2 cS;simp;omega
  ·rename_i hb he;rcases hb with hb |hb
   ·have:=hw.2.2.2 hb;simp;omega
   ·exact absurd (by rw[hb];decide) he
  ·simp;omega
  ·exact h1
theorem JP {o:List e9} {p:e9} {st:List Int} (h:(p::o).map (·.pc)=st.reverse):st=st.dropLast++[p.pc]∧o.map (·.pc)=st.dropLast.reverse:=by
 have e:st=o.reverse.map (·.pc)++[p.pc]:=by have:=congrArg List.reverse h;rw[List.reverse_reverse]at this;rw[← this,List.map_cons,List.reverse_cons,List.map_reverse]
 have e2:st.dropLast=o.reverse.map (·.pc):=by rw[e,List.dropLast_concat]
 refine⟨by rw[e2];exact e,?_⟩;rw[e2,List.map_reverse,List.reverse_reverse]
def pA (l:List qT) (st:List Int):Prop:=∀k p:Nat,st[k]? =some (p:Int)→qL l (p+1)=st.take (k+1)
theorem pA.dropLast {l:List qT} {st:List Int} (h:pA l st):pA l st.dropLast:=by
 intro k p hk;have h1:=(List.getElem?_eq_some_iff.1 hk).1;have h2:k+1≤st.length-1:=by have:=h1;simp at this;omega
 rw[List.getElem?_dropLast]at hk
 split at hk
 ·rw[h k p hk,List.dropLast_eq_take,List.take_take,Nat.min_eq_left h2]
 ·cases hk
theorem GB.back {l:List qT} {s:IM} {p:e9} (g:GB s) (h:rU l p):GB (QA s p):=⟨h.ap,by
 show(s.out.take p.told).length≤16;have:=g.out
 simp;omega,λx hx=>g.its x (List.mem_of_mem_take hx)⟩
theorem qzM {l:List qT} {st:List Int} (hp:pA l st) {o:List e9} {p:e9} {q:Nat} (h:(p::o).map (·.pc)=st.reverse) (hq:p.pc=q):qL l (q+1)=st:=by
 have e:=(JP h).1;have hl:st.length=st.dropLast.length+1:=by have:=congrArg List.length e;simpa using this
 have:=hp st.dropLast.length q (by rw[e,hq];simp);rw[this,List.take_of_length_le omQ]
theorem qQ5 {l:List qT} (F:Fit l) {s0:IM} {V0:VM}:∀(o:List e9) (s:IM) (V:VM) (st:List Int),pA l st→o.map (·.pc)=st.reverse→GB s→(∀p∈o,rU l p)→cN s.out.length o→V.lv.length=o.length+1→jg V→
  bD V.lv≤bD V0.lv→V.sz=V0.sz→V.K=V0.K→V.most=V0.most→YR l s0 V0 (yf (qP l) o s V):=by
 intro o
 induction o with
 |nil=>intro s V st hp hm gb _ _ rV G hf h1 h2 h3;exact⟨⟨gb.ap,gb.out,gb.its⟩,G,by show bD V.lv≤_;omega,h1,h2,h3,λ_ h=>(by cases h),λh=>(by cases h),λ_=>rfl⟩
 |cons p o ih=>
  intro s V st hp hm gb lA told rV G hf h1 h2 h3;have hd:=Vt (V:=V) (by rw[rV];simp);have Co:=G.dq;have Cp:(xB V).2.lv.length=o.length+1:=by rw[hd.2,List.length_tail,rV];simp
  have uu:=JP hm;unfold yf;rw[iJ hd.1]
  split
  ·rename_i lI;have P:=lA p (iK ..);obtain⟨q,hq,Hg⟩:=P.pc;have PH:(qR l (q:Int)).1=17:=by rw[← hq,P.op.2,lI]
   obtain⟨e,e1,e2,e3,e4,e5⟩:=Jo F Hg (.inr (.inl PH));have cC:=qzM hp hm hq;have Ao:(qR l (e:Int)).1=18:=by
    rw[PH]at e4;unfold jt at e4
    repeat' split at e4
    all_goals first |assumption |omega
   have Hh:qL l (e+1)=st.dropLast++[(e:Int)]:=by rw[jN,e5,cC];unfold jq;rw[iJ (.inr Ao),iJ (by rw[Ao];decide)]
   have h5:=UG F e omQ;rw[e5,cC]at h5;have hl5:st.length=st.dropLast.length+1:=by have:=congrArg List.length uu.1;simpa using this
   have fD:o.length=st.dropLast.length:=by have:=congrArg List.length uu.2;simpa using this
   have sY:GB { QA s p with bf:=o }:=⟨(gb.back P).ap,(gb.back P).out,(gb.back P).its⟩;have Cq:cN (s.out.take p.told).length o:=by rw[List.length_take,Nat.min_eq_left told.1];exact told.2
   have key:=VJ (l:=l) (s:={ QA s p with bf:=o }) (V:=(xB V).2) (op:=18) (p:=e) (st:=st.dropLast) sY e3 ⟨.inr (.inr rfl),Ao⟩ (λr hr=>lA r (iX _ hr)) Cq uu.2 Hh Cp (by show o.length<5;omega) Co.1;rw[hq,e1];obtain⟨k1,k2,k3,k4,k5⟩:=key;have Hi:=Co.1.pw;refine⟨k4.gb |> λg=>⟨g.ap,g.out,g.its⟩,k4.aC,?_,?_,?_,?_,λ_ _=>?_,λh=>(by rw[k1]at h;cases h),λh=>(by rw[k2]at h;cases h)⟩
   ·rw[k5,Hi.2];have:=Co.2;omega
   ·rw[k5];exact h1
   ·rw[k5];exact h2
   ·rw[k5];exact h3
   ·rw[k3];exact k4
  ·exact ih s (xB V).2 st.dropLast hp.dropLast uu.2 gb (λr hr=>lA r (iX _ hr)) told.tail Cp Co.1 (by have:=Co.2;omega) h1 h2 h3
theorem qJf {l:List qT} {s:IM} {V:VM} {x:qT} (G:GI l s V) (hf:bD V.lv<10000) :
  GB (jU s V x).2.1∧(jU s V x).2.1.bf=s.bf∧(jU s V x).2.1.out=s.out∧(jU s V x).2.1.pc=s.pc∧Jy V (jU s V x).2.2∧jg (jU s V x).2.2∧bD (jU s V x).2.2.lv≤bD V.lv+1∧
   ((jU s V x).1=11→(jU s V x).2.1=s∧JD V (jU s V x).2.2):=by
 have gb:=G.gb;have aC:=G.aC;have hr:=λi=>gb.ap.at i;have same:∀e:Int,e≠11→GB s∧s.bf=s.bf∧s.out=s.out∧s.pc=s.pc∧Jy V V∧jg V∧bD V.lv≤bD V.lv+1∧(e=11→s=s∧JD V V) :=
  λe he=>⟨gb,rfl,rfl,rfl,.refl V,aC,by omega,λh=>absurd h he⟩
 unfold jU
 split
 ·split
  ·split
   ·refine⟨gb.cU ?_,rfl,rfl,rfl,xK V _,aC.read,by rw[xO];omega,λh=>by cases h⟩;exact aC.wd.read
   ·exact⟨gb,rfl,rfl,rfl,xK V _,aC.read,by rw[xO];omega,λh=>⟨rfl,kB h⟩⟩
  ·exact same 2 omQ
 ·split
  ·split
   ·exact⟨gb,rfl,rfl,rfl,vU aC.ok,aC.take (fL.Ce (hr _)),by rw[gS];omega,λh=>(Yt h).elim⟩
   ·exact same 2 omQ
  ·split
   ·split
    ·exact same 3 omQ
    ·split
     ·rename_i h0;have hb:=PF (x:=qE s.ap x.2.2.1) aC.wd h0;exact⟨gb.cU omQ,rfl,rfl,rfl,Uc aC.ok,(aC.alloc).1,by rw[(aC.alloc).2];omega,λh=>by cases h⟩
     ·exact⟨gb,rfl,rfl,rfl,Uc aC.ok,(aC.alloc).1,by rw[(aC.alloc).2];omega,λh=>⟨rfl,qQr h⟩⟩
   ·split
    ·exact same 2 omQ
    ·exact⟨gb,rfl,rfl,rfl,qKu aC.ok,(aC.free omQ).1,(aC.free omQ).2,λh=>⟨rfl,qKN h⟩⟩
theorem KL {l:List qT} {s:IM} {V:VM} (G:GI l s V):s.bf.length=(qL l s.pc.toNat).length:=by have:=congrArg List.length G.Cn;simpa using this
theorem XP {l:List qT} (F:Fit l) {s:IM} {V:VM} (G:GI l s V) {i:Nat} (hi:s.pc=i) (au:i<l.length) (hf:bD V.lv<10000) (hN:0≤(qR l i).2.2.2.2∧(qR l i).2.2.2.2<18446744073709551616) (_:(qR l i).1≠23) :
  YR l s V (bK (qP l) s V (qR l i)):=by
 have hw:=vH (F.ok i au);have DU:=xM (F.ok i au);have lI:1≤(qR l i).1∧(qR l i).1≤23:=by have:=hw.1;unfold Jx at this;simp only[Bool.and_eq_true,decide_eq_true_eq]at this;exact this.1.1.1.1
 have u0:xG (qR l i).1=decide ((qR l i).1=14∨(qR l i).1=17):=rfl;have lh:jt (qR l i).1=if(qR l i).1=15 then 14 else if(qR l i).1=18 then 17 else if(qR l i).1=19 then 18 else 0:=rfl
 have Hj:=λh=>qQf F au h;have eM:=G.Cn;rw[hi,Int.toNat_natCast]at eM;have fD:=KL G;rw[hi,Int.toNat_natCast]at fD;have hr:=λi=>G.gb.ap.at i;have hmb:=λh=>Jo F au h;have hmu:=λh=>UE F au h;have nT:qL l (i+1)=jq (qL l i) i (qR l i).1:=jN;have plain:(qR l i).1≠14→(qR l i).1≠17→(qR l i).1≠15→(qR l i).1≠18→(qR l i).1≠19→xG (qR l i).1=false∧(qR l i).1≠18∧jt (qR l i).1=0:=by intro a b c d e;refine⟨by rw[u0];exact iV omQ,d,?_⟩;rw[lh,iQ c,iQ d,iQ e]
 have keep:∀{s':IM} {V':VM} {e:Int},(qR l i).1≠14→(qR l i).1≠17→(qR l i).1≠15→(qR l i).1≠18→(qR l i).1≠19→GB s'→s'.bf=s.bf→s.out.length≤s'.out.length→Jy V V'→jg V'→bD V'.lv≤bD V.lv+1→
   (e=11→s'=s∧JD V V')→YR l s V ⟨e,s.pc+1,false,s',V'⟩:=λa b c d e gb ho hl hk hg hf hn=>
  YR.plain G hi au (plain a b c d e).1 (plain a b c d e).2.1 (plain a b c d e).2.2 gb ho hl hk hg hf hn
 generalize hxe:qR l i=x at*;obtain⟨fj,fF,mJ,fa⟩:=s;dsimp only at hi eM fD hr keep ⊢;unfold bK;have rh:∀v:Int,x.1≠14→x.1≠17→x.1≠15→x.1≠18→x.1≠19→0≤v∧v<18446744073709551616→YR l ⟨fj,fF,mJ,fa⟩ V ⟨0,mJ+1,false,cU ⟨fj,fF,mJ,fa⟩ x.2.1 v,V⟩ :=
  λv a b c d e hv=>keep a b c d e (G.gb.cU hv) rfl (Nat.le_refl _) (.refl V) G.aC omQ λh=>by cases h
 have jump:∀n:Int,(x.1=12∨x.1=13)→(n=x.2.2.2.1∨n=mJ+1)→YR l ⟨fj,fF,mJ,fa⟩ V ⟨0,n,false,⟨fj,fF,mJ,fa⟩,V⟩:=by
  intro n ho hn;rcases hn with rfl |rfl
  ·obtain⟨c,c1,c2,c3⟩:=Hj ho;refine⟨G.gb,G.aC,Nat.le_succ _,rfl,rfl,rfl,λ_ _=>⟨⟨G.gb.ap,G.gb.out,G.gb.its⟩,⟨c,c1,c2⟩,G.lA,G.told,?_,G.lv,G.aC⟩,λh=>(by cases h),λh=>(by cases h)⟩;show fa.map _=(qL l x.2.2.2.1.toNat).reverse;rw[c1,Int.toNat_natCast,c3];exact eM
  ·exact keep omQ omQ omQ omQ omQ G.gb rfl (Nat.le_refl _) (.refl V) G.aC omQ λh=>by cases h
 by_cases c1:x.1=1
 ·rw[iJ c1];exact rh _ omQ omQ omQ omQ omQ hN
 rw[iQ c1];by_cases c2:x.1=2
 ·rw[iJ c2];exact rh _ omQ omQ omQ omQ omQ (hr _)
 rw[iQ c2];by_cases c3:x.1=3
 ·rw[iJ c3];exact rh _ omQ omQ omQ omQ omQ (DT _)
 rw[iQ c3];by_cases c4:x.1=4
 ·rw[iJ c4];exact rh _ omQ omQ omQ omQ omQ (DT _)
 rw[iQ c4];by_cases c5:x.1=5
 ·rw[iJ c5];exact rh _ omQ omQ omQ omQ omQ (DT _)
 rw[iQ c5];by_cases c6:x.1=6
 ·rw[iJ c6];exact rh _ omQ omQ omQ omQ omQ (PG _)
 rw[iQ c6];by_cases c7:x.1=7
 ·rw[iJ c7];exact rh _ omQ omQ omQ omQ omQ (PG _)
 rw[iQ c7];by_cases mh:x.1=12
 ·rw[iJ mh];exact jump _ (.inl mh) (.inl rfl)
 rw[iQ mh];by_cases mi:x.1=13
 ·rw[iJ mi];by_cases cz:qE fj x.2.1=0
  ·rw[iJ cz];exact jump _ (.inr mi) (.inl rfl)
  ·rw[iQ cz];exact jump _ (.inr mi) (.inr rfl)
 rw[iQ mi];by_cases nU:x.1=21
 ·rw[iJ nU];have hk:∀e:Int,e≠11→YR l ⟨fj,fF,mJ,fa⟩ V ⟨e,mJ+1,false,⟨fj,fF,mJ,fa⟩,V⟩:=λe he=>
   keep omQ omQ omQ omQ omQ G.gb rfl (Nat.le_refl _) (.refl V) G.aC (Nat.le_succ _) λh=>absurd h he
  by_cases hlen:16≤fF.length
  ·rw[iJ hlen];exact hk 5 omQ
  ·rw[iQ hlen];refine keep omQ omQ omQ omQ omQ ⟨G.gb.ap,?_,?_⟩ rfl ?_ (.refl V) G.aC (Nat.le_succ _) λh=>by cases h
   ·show(fF++[_]).length≤16;simp;omega
   ·intro y hy;rcases List.mem_append.1 hy with hy |hy
    ·exact G.gb.its y hy
    ·rw[List.mem_singleton]at hy;subst hy;exact hr _
   ·show fF.length≤(fF++[_]).length;simp
 rw[iQ nU];by_cases pB:x.1=22
 ·rw[iJ pB];exact keep omQ omQ omQ omQ omQ G.gb rfl (Nat.le_refl _) (.refl V) G.aC (Nat.le_succ _) λh=>by cases h
 rw[iQ pB];by_cases c8:x.1=8∨x.1=9∨x.1=10∨x.1=11
 ·rw[iJ c8];obtain⟨t1,t2,t3,t4,t5,t6,t7,t8⟩:=qJf (x:=x) G hf;exact keep omQ omQ omQ omQ omQ t1 t2 (by rw[t3];exact Nat.le_refl _) t5 t6 t7 t8
 rw[iQ c8];unfold kQ;by_cases h:x.1=14∨x.1=17
 ·rw[iJ h];dsimp only;subst hi;have hb:xG x.1=true:=by rw[u0];exact iG h
  have he:¬0<jt x.1:=by rw[lh,iQ omQ,iQ omQ,iQ omQ];omega
  have key:=VJ (l:=l) (s:=⟨fj,fF,(i:Int),fa⟩) (V:=V) (op:=x.1) (p:=i) (st:=qL l i) G.gb au ⟨by omega,by rw[hxe]⟩ G.lA G.told eM (by rw[nT];unfold jq;rw[iJ (.inl hb),iQ he]) G.lv (by show fa.length<5;rw[fD];exact hw.2.2.2 hb) G.aC;obtain⟨k1,k2,k3,k4,k5⟩:=key;have Hi:=G.aC.pw;refine⟨k4.gb |> λg=>⟨g.ap,g.out,g.its⟩,k4.aC,?_,?_,?_,?_,λ_ _=>?_,λh=>(by rw[k1]at h;cases h),λh=>(by rw[k2]at h;cases h)⟩
  ·rw[k5,Hi.2];omega
  ·rw[k5];rfl
  ·rw[k5];rfl
  ·rw[k5];rfl
  ·rw[k3];exact k4
 rw[iQ h];clear h;by_cases h:x.1=15∨x.1=19
 ·rw[iJ h];have he:0<jt x.1:=by rw[lh];rcases h with h |h<;>rw[h]<;>decide
  have cS:=DU.2.1 (.inl he)
  match fa,fD,eM,G with
  |[],fD,_,_=>exact absurd (iA fD.symm) cS
  |p::o,fD,eM,G=>
   have hk:=VS (V:=V) (by rw[G.lv];simp);have pC:=G.aC.sV omQ;have rV:=G.lv
   refine⟨⟨G.gb.ap,G.gb.out,G.gb.its⟩,pC.1,by rw[pC.2];omega,rfl,rfl,rfl,λ_ _=>⟨⟨G.gb.ap,G.gb.out,G.gb.its⟩,⟨i+1,by show mJ+1=_;omega,by omega⟩,λq hq=>G.lA q (iX _ hq),G.told.tail,?_,?_,pC.1⟩,λh0=>(by
    dsimp only at h0;rw[hk.1]at h0;cases h0),λh=>(by cases h)⟩
   ·show o.map _=(qL l (mJ+1).toNat).reverse;rw[hi,show((i:Int)+1).toNat=i+1 by omega,nT];unfold jq;rw[iQ (by rw[u0];simp;omega),iJ he];exact(JP eM).2
   ·show(vJ V).2.lv.length=o.length+1;have:=hk.2;simp at rV;omega
 rw[iQ h];clear h;by_cases h:x.1=18
 ·rw[iJ h];have he:0<jt x.1:=by rw[lh];rw[h];decide
  have cS:=DU.2.1 (.inl he);obtain⟨e,e1,e2,e3,e4,e5⟩:=hmb (.inr (.inr h));have Ao:(qR l (e:Int)).1=19:=by
   rw[h]at e4;unfold jt at e4
   repeat' split at e4
   all_goals first |assumption |omega
  match fa,fD,eM,G with
  |[],fD,_,_=>exact absurd (iA fD.symm) cS
  |p::o,fD,eM,G=>
   have hk:=VS (V:=V) (by rw[G.lv];simp);have pC:=G.aC.sV omQ;have rV:=G.lv
   refine⟨⟨G.gb.ap,G.gb.out,G.gb.its⟩,pC.1,by rw[pC.2];omega,rfl,rfl,rfl,λ_ _=>⟨⟨G.gb.ap,G.gb.out,G.gb.its⟩,⟨e+1,by show qE (qP l) mJ+1=_;rw[hi,e1];omega,by omega⟩,λq hq=>G.lA q (iX _ hq),G.told.tail,?_,?_,pC.1⟩,λh0=>(by
    dsimp only at h0;rw[hk.1]at h0;cases h0),λh=>(by cases h)⟩
   ·show o.map _=(qL l (qE (qP l) mJ+1).toNat).reverse;rw[hi,e1,show((e:Int)+1).toNat=e+1 by omega,jN,e5,nT];unfold jq;rw[iQ (by rw[Ao];decide),iJ (by rw[Ao];decide),iJ (.inr h),iJ he,List.dropLast_concat];exact(JP eM).2
   ·show(vJ V).2.lv.length=o.length+1;have:=hk.2;simp at rV;omega
 rw[iQ h];clear h;by_cases h:x.1=16
 ·rw[iJ h];obtain⟨e,e1,e2,e3,e4,cS⟩:=hmu h
  match fa,fD,eM,G with
  |[],fD,_,_=>exact absurd (iA fD.symm) cS
  |p::o,fD,eM,G=>
   have hk:=Vt (V:=V) (by rw[G.lv];simp);have pC:=G.aC.dq;have rV:=G.lv;have P:=G.lA p (iK ..);have told:=G.told;have sY:=G.gb.back P
   refine⟨⟨sY.ap,sY.out,sY.its⟩,pC.1,by have:=pC.2;dsimp only;omega,rfl,rfl,rfl,λ_ _=>⟨⟨sY.ap,sY.out,sY.its⟩,⟨e+1,by show qE (qP l) mJ+1=_;rw[hi,e1];omega,by omega⟩,λq hq=>G.lA q (iX _ hq),?_,?_,?_,pC.1⟩,λh0=>(by
    dsimp only at h0;rw[hk.1]at h0;cases h0),λh=>(by cases h)⟩
   ·show cN (fF.take p.told).length o;rw[List.length_take,Nat.min_eq_left told.1];exact told.2
   ·show o.map _=(qL l (qE (qP l) mJ+1).toNat).reverse;rw[hi,e1,show((e:Int)+1).toNat=e+1 by omega,jN,e4];unfold jq;rw[iQ (by rw[e3];decide),iJ (by rw[e3];decide)];exact(JP eM).2
   ·show(xB V).2.lv.length=o.length+1;rw[hk.2,List.length_tail,rV];simp
 ·rw[iQ h];exact qQ5 F fa _ V (qL l i) (MG i) eM G.gb G.lA G.told G.lv G.aC (Nat.le_refl _) rfl rfl rfl
end
section
variable {g h:AH} {L R:List SP}
theorem KM {b off n sz a:Nat} {k:IntKind} {K:AV→Go.Ae.R} {Q:AV→AH→Prop} (ha:a<n) (w:wp (K (.ptr b (off+a*sz))) Q):wp (kU (.ptr b off) (.int k (a:Int)) n sz K) Q:=by unfold kU;show wp (bif Nat.ble (a+1) n then _ else none) Q;rw[iY (show a+1≤n from ha)];exact w
theorem Hk {z:Int} (h0:0≤z):∃a:Nat,z.tmod ((8:Nat):Int)=a∧a<8∧(z<8→z=a):=by refine⟨(z%8).toNat,?_,by omega,λh=>by omega⟩;rw[Int.tmod_eq_emod_of_nonneg h0];omega
def PJ (r:List Int):List AV:=[.int .u64 (qE r 0),.int .u64 (qE r 1),.int .u64 (qE r 2),.int .u64 (qE r 3),.int .u64 (qE r 4),.int .u64 (qE r 5),.int .u64 (qE r 6),.int .u64 (qE r 7)]
def yD (p:e9):List AV:=[.int .i64 p.op,.int .i64 p.pc,.int .u64 (qE p.ap 0),.int .u64 (qE p.ap 1),.int .u64 (qE p.ap 2),.int .u64 (qE p.ap 3),.int .u64 (qE p.ap 4),.int .u64 (qE p.ap 5),.int .u64 (qE p.ap 6),.int .u64 (qE p.ap 7),.int .i64 (p.told:Int)]
def vt (c mv ov:AV) (v o:Nat) (bad err fin left nx pc:Int) (r:List Int):List AV :=
 [c,.ptr v 0,mv,.int .i64 bad,.int .i64 err,.int .i64 fin,.int .u64 (qE r 0),.int .u64 (qE r 1),.int .u64 (qE r 2),.int .u64 (qE r 3),.int .u64 (qE r 4),.int .u64 (qE r 5),.int .u64 (qE r 6),.int .u64 (qE r 7),
  .ptr o 0,.int .i64 pc,.int .i64 nx,.int .i64 left,ov]
section
variable {c mv ov:AV} {v o:Nat} {bad err fin left nx pc:Int} {r:List Int}
theorem YW {a:Nat} (ha:a<8):(vt c mv ov v o bad err fin left nx pc r)[6+a*1]? =some (.int .u64 (qE r (a:Int))):=by
 rcases(show a=0∨a=1∨a=2∨a=3∨a=4∨a=5∨a=6∨a=7 by omega)with rfl |rfl |rfl |rfl |rfl |rfl |rfl |rfl<;>rfl
theorem qK5 {i k:Nat} {z:Int} (hi:i<r.length):qE (r.set i z) (k:Int)=if i=k then z else qE r (k:Int):=by
 unfold qE;rw[Int.toNat_natCast,List.getElem?_set]
 split
 ·rename_i h;subst h;simp
 ·rfl
theorem qvi {a:Nat} {z:Int} (hr:r.length=8) (ha:a<8):(vt c mv ov v o bad err fin left nx pc r).set (6+a*1) (.int .u64 z)=vt c mv ov v o bad err fin left nx pc (r.set a z):=by have hs:=λk:Nat=>qK5 (r:=r) (i:=a) (k:=k) (z:=z) omQ;have e0:=hs 0;have e1:=hs 1;have e2:=hs 2;have e3:=hs 3;have e4:=hs 4;have e5:=hs 5;have e6:=hs 6;have e7:=hs 7;simp only[show((0:Nat):Int)=0 from rfl,show((1:Nat):Int)=1 from rfl,show((2:Nat):Int)=2 from rfl,show((3:Nat):Int)=3 from rfl,show((4:Nat):Int)=4 from rfl,show((5:Nat):Int)=5 from rfl,show((6:Nat):Int)=6 from rfl,show((7:Nat):Int)=7 from rfl]at e0 e1 e2 e3 e4 e5 e6 e7;unfold vt;rw[e0,e1,e2,e3,e4,e5,e6,e7];rcases(show a=0∨a=1∨a=2∨a=3∨a=4∨a=5∨a=6∨a=7 by omega)with rfl |rfl |rfl |rfl |rfl |rfl |rfl |rfl<;>rfl
end
def aH (x v:Nat) (l:List qT) (bad:Int) (mt:List Int) (s:IM) (err fin left nx:Int):SP:=.ex λc=>.ex λmv=>.ex λov=>.ex λo=>.all
 [qA x (vt c mv ov v o bad err fin left nx s.pc s.ap),qB 56 5 l.length c (l.flatMap zM),qB 3 1 mt.length mv (mt.map (.int .i64)),bw o s.out,qB 289 11 s.bf.length ov (s.bf.reverse.flatMap yD)]
section
variable {x v:Nat} {l:List qT} {bad:Int} {mt:List Int} {s:IM} {err fin left nx:Int}
theorem aH.E (H:HS g h (aH x v l bad mt s err fin left nx::R)):∃c mv ov o,HS g h (qA x (vt c mv ov v o bad err fin left nx s.pc s.ap)::qB 56 5 l.length c (l.flatMap zM)::qB 3 1 mt.length mv (mt.map (.int .i64))::bw o s.out::
  qB 289 11 s.bf.length ov (s.bf.reverse.flatMap yD)::R):=by
 obtain⟨c,H⟩:=H.dU;obtain⟨mv,H⟩:=H.dU;obtain⟨ov,H⟩:=H.dU;obtain⟨o,H⟩:=H.dU;exact⟨c,mv,ov,o,H.b9⟩
theorem aH.I {c mv ov:AV} {o:Nat} (H:HS g h (qA x (vt c mv ov v o bad err fin left nx s.pc s.ap)::qB 56 5 l.length c (l.flatMap zM)::qB 3 1 mt.length mv (mt.map (.int .i64))::bw o s.out::
  qB 289 11 s.bf.length ov (s.bf.reverse.flatMap yD)::R)):HS g h (aH x v l bad mt s err fin left nx::R) :=
 HS.ei c (HS.ei mv (HS.ei ov (HS.ei o H.allI)))
theorem qvU {n o:Nat} (hn:1≤n) {l:List iF} (H:HS g h (bw o l::R)):aA n 286 [.ptr o 0] h λr h'=>r=.int .i64 (l.length:Int)∧h'=h:=by
 refine ay (S:=S286) rfl omQ λk hk=>?_;unfold S286;try simp only
 obtain⟨sv,H⟩:=bw.E H;refine qK (qQ (qZ ‹_› .here rfl ?_));refine qo ‹_› e_1 ?_;exact qG ⟨rfl,rfl⟩
theorem qxt {n o:Nat} (hn:1≤n) {l:List iF} {x:iF} (H:HS g h (bw o l::R)) (hl:l.length≤16) :
  aA n 199 [.ptr o 0,Qy x] h λr h'=>r=.bool (decide (l.length<16))∧HS g h' (bw o (if l.length<16 then l++[x]else l)::R):=by
 refine ba (S:=S199) rfl omQ λk hk=>?_;unfold S199;try simp only[iZ]
 obtain⟨sv,H⟩:=bw.E H;by_cases h1:l.length<16
 ·rw[iJ h1,iG h1];refine qK (qQ (qZ ‹_› .here rfl ?_));refine qo ‹_› e_1 ?_;refine zK omQ ?_;refine qJ (qK (qQ (qZ ‹_› .here rfl ?_)))
  refine qm (n:=1) (l:=[Qy x]) (sz:=1) H rfl rfl (by
   have e:=(XL x).1
   simp only[yV,e,yr];rfl) (yn (XL x)) λv2 h2 H2=>?_
  refine ja (H2.aG e_2) (H2.sl .here) omQ omQ (yn (XL x)) λv3 h3 H3=>?_;have o3:=H3.one .here;refine qK (qQ (qw H3 (b:=o) e_2 o3 aN λh4 H4=>?_));refine qG ⟨rfl,bw.I (sv:=v3) ?_⟩;rw[List.length_append,List.map_append];exact H4.sub (.cons .here (.cons .here (.drop .refl)))
 ·rw[iQ h1,iV h1];refine qK (qQ (qZ ‹_› .here rfl ?_));refine qo ‹_› e_1 ?_;refine zx omQ ?_;refine qX ?_;exact qG ⟨rfl,bw.I H⟩
theorem qzu {n o:Nat} (hn:2≤n) {l:List iF} {u:Int} (H:HS g h (bw o l::R)) (hl:l.length≤16) :
  aA n 179 [.ptr o 0,.int .u64 u] h λr h'=>r=.bool (decide (l.length<16))∧HS g h' (bw o (if l.length<16 then l++[(1,u)]else l)::R):=by
 refine ba (S:=S179) rfl omQ λk hk=>?_;unfold S179;try simp only
 refine qV (qxt (x:=(1,u)) omQ H hl) ?_;rintro _ h2 ⟨rfl,H2⟩;exact qG ⟨rfl,H2⟩
theorem MF {n m:Nat} (hn:1≤n) {e:TypeId} {v:AV} {xs:List AV} (H:HS g h L) (s:aZ L (qB e 1 m v xs) R) (ha:qn xs=true) (hm:m≤1000000) :
  aA n 168 [v] h λr h'=>HS g h' (qB 20 1 m r xs::L):=by
 refine ay (S:=S168) rfl omQ λk hk=>?_;unfold S168;try simp only
 refine QY H s (λh1 h2=>?_) ?_
 ·subst h1 h2;have hx:xs=[]:=iA (by simpa using H.cT s);subst hx;exact qX (qG H.ak)
 ·refine qJ (qm (n:=0) (l:=[]) (sz:=1) H rfl rfl rfl rfl λv2 h2 H2=>?_);refine ja H2 (H2.sl (.there s)) omQ omQ ha λv3 h3 H3=>?_;rw[Nat.zero_add,List.nil_append]at H3;exact qG H3
theorem qWi {n o:Nat} (hn:2≤n) {l:List iF} (H:HS g h (bw o l::R)) (hl:l.length≤16) :
  aA n 135 [.ptr o 0] h λr h'=>∃p,r=.ptr p 0∧HS g h' (bw p l::bw o l::R):=by
 refine ay (S:=S135) rfl omQ λk hk=>?_;unfold S135;try simp only
 obtain⟨sv,H⟩:=bw.E H;refine qK (qQ (qZ ‹_› .here rfl ?_));refine qV (MF omQ H e_1 (Ul l) omQ) ?_;intro cv h2 H2;have oc:=H2.one .here;refine qM (l:=[cv]) (by simp only[yV,oc.1];rfl) ?_;refine qO H2 (yn oc) λp h3 H3=>qG ⟨p,rfl,?_⟩;have H4:=bw.I (o:=p) (l:=l) (sv:=cv) (R:=qA o [sv]::qB 20 1 l.length sv (l.map Qy)::R) H3;exact HS.bZ e_1 (bw.I (o:=o) (l:=l) (sv:=sv) (R:=bw p l::R) (H4.sub (.cons e_1 (.cons e_1 (.cons .here .refl)))))
theorem qxn {n o m:Nat} (hn:2≤n) {l:List iF} (H:HS g h (bw o l::R)) (hl:l.length≤16) (hm:m≤l.length) :
  aA n 288 [.ptr o 0,.int .i64 (m:Int)] h λ_ h'=>HS g h' (bw o (l.take m)::R):=by
 refine ba (S:=S288) rfl omQ λk hk=>?_;unfold S288;try simp only[iZ]
 obtain⟨sv,H⟩:=bw.E H;refine qK (qQ (qZ ‹_› .here rfl ?_));refine qK (qQ (qZ ‹_› .here rfl ?_));refine qo ‹_› e_1 ?_;refine zk (zn ?_);rw[show max ((0:Nat):Int) (min (m:Int) (l.length:Int))=(m:Int) by omega];refine Kk (H.aG e_1) omQ hm λv2 H2=>?_;rw[Nat.mul_one,← List.map_take]at H2;refine qV (MF omQ H2 .here (Ul _) omQ) ?_;intro cv h3 H3;have oc:=H3.one .here;refine qK (qQ (qw H3 (b:=o) e_2 oc aN λh4 H4=>?_));refine qG (bw.I (sv:=cv) ?_);rw[show(l.take m).length=m by simp;omega];exact H4.sub (.cons .here (.cons .here (.drop .refl)))
theorem MS {n:Nat} (hn:1≤n) {p:Prop} [Decidable p]:aA n 178 [.bool (decide p)] h λr h'=>r=.int .u64 (Xu p)∧h'=h:=by
 refine ay (S:=S178) rfl omQ λk hk=>?_;unfold S178;try simp only[iZ]
 unfold Xu;by_cases hp:p
 ·rw[iG hp,iJ hp];exact qX (qG ⟨rfl,rfl⟩)
 ·rw[iV hp,iQ hp];exact qJ (qG ⟨rfl,rfl⟩)
theorem OF {n:Nat} (hn:1≤n) {e:Int} (H:HS g h (aH x v l bad mt s err fin left nx::R)) :
  aA n 149 [.ptr x 0,.int .i64 e] h λ_ h'=>HS g h' (aH x v l bad mt s e 4 left nx::R):=by
 refine ba (S:=S149) rfl omQ λk hk=>?_;unfold S149;try simp only[iZ]
 obtain⟨c,mv,ov,o,H⟩:=aH.E H;unfold vt at H;refine qK (qQ (qw H (b:=x) .here ⟨rfl,rfl⟩ aN λh1 H1=>?_));refine qK (qQ (qw H1 (b:=x) .here ⟨rfl,rfl⟩ aN λh2 H2=>?_));exact qG (aH.I H2)
theorem qxl {n:Nat} (hn:1≤n) (H:HS g h (aH x v l bad mt s err fin left nx::R)):aA n 123 [.ptr x 0] h λr h'=>r=.int .i64 err∧h'=h:=by
 refine ay (S:=S123) rfl omQ λk hk=>?_;unfold S123;try simp only
 obtain⟨c,mv,ov,o,H⟩:=aH.E H;unfold vt at H;refine qK (qQ (qZ ‹_› .here rfl ?_));exact qG ⟨rfl,rfl⟩
theorem qVp {n:Nat} (hn:3≤n) (H:HS g h (aH x v l bad mt s err fin left nx::R)) (hl:s.out.length≤16) :
  aA n 107 [.ptr x 0] h λr h'=>∃p,r=.ptr p 0∧HS g h' (bw p s.out::aH x v l bad mt s err fin left nx::R):=by
 refine ay (S:=S107) rfl omQ λk hk=>?_;unfold S107;try simp only
 obtain⟨c,mv,ov,o,H⟩:=aH.E H;unfold vt at H;refine qK (qQ (qZ ‹_› .here rfl ?_));refine qV (qWi omQ (H.aG (P:=bw o s.out) e_3) hl) ?_;rintro _ h2 ⟨p,rfl,H2⟩;refine qG ⟨p,rfl,?_⟩;exact HS.bZ e_1 (aH.I (c:=c) (mv:=mv) (ov:=ov) (o:=o) (R:=bw p s.out::R) (H2.sub (.cons e_2 (.cons e_2 (.cons e_2 (.cons e_1 (.cons e_1 .refl)))))))
theorem MJ {n:Nat} (hn:1≤n) {b off:Int} (hb:0≤b∧b<18446744073709551616) (ho:0≤off∧off≤100):aA n 214 [.int .u64 b,.int .i64 off] h λr h'=>r=.bM [.int .i64 (z7 b off).1,.int .i64 (z7 b off).2]∧h'=h:=by
 refine ba (S:=S214) rfl omQ λk hk=>?_;unfold S214;try simp only[iZ]
 unfold z7;by_cases h1:2147483648≤b
 ·rw[iJ (.inl h1)];refine zx omQ ?_;refine qW ?_;(try dsimp only);refine jJ ?_;(try dsimp only);refine qH (qW ?_);(try dsimp only);refine jJ ?_;(try dsimp only);refine qH (qX ?_)
  exact qG ⟨rfl,rfl⟩
 ·refine zK omQ ?_;refine qW ?_;(try dsimp only);refine qd ?_;(try dsimp only);refine xg omQ ?_;refine qb omQ ?_
  by_cases h2:2147483648≤b+off
  ·rw[iJ (.inr (.inl h2))];refine zx omQ ?_;refine qI (qW ?_);(try dsimp only);refine jJ ?_;(try dsimp only);refine qH (qX ?_)
   exact qG ⟨rfl,rfl⟩
  ·refine zK omQ ?_;refine qI (qW ?_);(try dsimp only);refine qd ?_;(try dsimp only);refine xg omQ ?_;refine qb omQ ?_
   by_cases h3:b+off<6
   ·rw[iJ (.inr (.inr h3))];refine jF omQ ?_;refine qI (qX ?_);exact qG ⟨rfl,rfl⟩
   ·rw[iQ omQ];refine jV omQ ?_;refine qI (qJ (xg omQ ?_));refine qb omQ ?_;exact qG ⟨rfl,rfl⟩
theorem qG9 {most:Nat} {lv:List bz} {p z:Int} (h:¬(vL most lv p z).1=0):(vL most lv p z).2=lv:=by
 cases lv with
 |nil=>rfl
 |cons y r=>
  unfold vL at h ⊢;dsimp only at h ⊢
  split
  ·rfl
  ·rename_i h1;rw[iQ h1]at h
   split
   ·rfl
   ·rename_i h2;rw[iQ h2]at h;exact absurd rfl h
theorem qVP {n:Nat} (hn:6≤n) {v:Nat} {M:VM} {p z:Int} (H:HS g h (ae v M::R)) (O:dp M) :
  aA n 215 [.ptr v 0,.int .i64 p,.int .u64 z] h λr h'=>r=.int .i64 (zJ M [(p,z)]).1∧HS g h' (ae v (zJ M [(p,z)]).2::R):=by
 refine cL (S:=S215) rfl omQ λk hk=>?_;unfold S215;try simp only[iZ]
 refine qV (OQ omQ H) ?_;rintro _ _ ⟨rfl,rfl⟩;by_cases hp:1≤p∧p<M.sz
 ·rw[iG hp];obtain⟨fv,ov,q,e,H⟩:=ae.E H;refine jY (qJ (qK (qQ (qZ ‹_› .here rfl ?_))));refine qV (Pq omQ (H.aG (P:=bR q M.most M.lv) e_3) O.hP) ?_;rintro _ h2 ⟨rfl,H2⟩;have e2:zJ M [(p,z)]=((vL M.most M.lv p z).1,{ M with lv:=(vL M.most M.lv p z).2 }):=by
   unfold zJ;rw[iJ (by intro c hc;rw[List.mem_singleton]at hc;subst hc;exact hp),vP]
   split
   ·rename_i h0;rw[h0];rfl
   ·rename_i h0;have hx:=qG9 h0;rw[hx]
  rw[e2];exact qG ⟨rfl,ae.I (M:={ M with lv:=(vL M.most M.lv p z).2 }) (fv:=fv) (ov:=ov) (q:=q) (e:=e) (H2.sub (.cons e_1 (.cons e_1 (.cons e_1 (.refl)))))⟩
 ·rw[iV hp];have e2:zJ M [(p,z)]=(2,M):=by
   unfold zJ;rw[iQ (λhh=>hp (hh (p,z) (List.mem_singleton_self _)))]
  rw[e2];refine jB (qX ?_);exact qG ⟨rfl,H⟩
end
end
section
variable {g h:AH} {L R:List SP}
section
variable {x v:Nat} {l:List qT} {bad:Int} {mt:List Int} {s:IM} {err fin left nx:Int}
theorem qYH (o:List e9):(o.reverse.flatMap yD).length=o.length*11:=by rw[Ye (sz:=11) _ (λ_=>rfl),List.length_reverse]
theorem qjh (p:e9):qn (yD p)=true:=rfl
theorem Vu (p:e9) (o:List e9):(p::o).reverse.flatMap yD=o.reverse.flatMap yD++yD p:=by rw[List.reverse_cons,List.flatMap_append];simp
theorem XG {n:Nat} (hn:1≤n) {p:e9} {o:List e9} (ho:s.bf=p::o) (dn:o.length≤100) (H:HS g h (aH x v l bad mt s err fin left nx::R)) :
  aA n 219 [.ptr x 0] h λr h'=>r=.agg (yD p)∧HS g h' (aH x v l bad mt { s with bf:=o } err fin left nx::R):=by
 refine ay (S:=S219) rfl omQ λk hk=>?_;unfold S219;try simp only[iZ]
 obtain⟨c,mv,ov,q,H⟩:=aH.E H;rw[ho,Vu,List.length_cons]at H;have fD:=qYH o;generalize hA:o.reverse.flatMap yD=A at*;unfold vt at H;refine qO H rfl λb0 h1 H1=>?_;clear H;refine qK (qQ (qZ ‹_› e_1 rfl ?_));refine qK (qQ (qZ ‹_› e_1 rfl ?_));refine qo ‹_› e_5 ?_;refine zD omQ ?_;rw[show((o.length+1:Nat):Int)-((1:Nat):Int)=(o.length:Int) by omega]
 refine zd (l:=yD p) (H1.sl e_5) (i:=o.length) omQ omQ (by
  rw[List.drop_append_of_le_length omQ,List.drop_of_length_le omQ,List.nil_append];rfl) ?_
 refine qO H1 rfl λb2 h3 H3=>qh H3 .here rfl (by show 0+11≤11;omega) rfl λh4 H4=>?_
 have H5:HS g h4 (qA b2 (yD p)::qA b0 [.int .i64 ((0:Nat):Int),.int .i64 ((0:Nat):Int),.int .u64 ((0:Nat):Int),.int .u64 ((0:Nat):Int),.int .u64 ((0:Nat):Int),.int .u64 ((0:Nat):Int),.int .u64 ((0:Nat):Int),.int .u64 ((0:Nat):Int),.int .u64 ((0:Nat):Int),.int .u64 ((0:Nat):Int),.int .i64 ((0:Nat):Int)]::
  qA x (vt c mv ov v q bad err fin left nx s.pc s.ap)::qB 56 5 l.length c (l.flatMap zM)::qB 3 1 mt.length mv (mt.map (.int .i64))::bw q s.out::
  qB 289 11 (o.length+1) ov (A++yD p)::R):=H4
 clear H1 H3 H4;unfold vt at H5;refine qK (qQ (qZ ‹_› e_2 rfl ?_));refine qK (qQ (qZ ‹_› e_2 rfl ?_));refine qo ‹_› e_6 ?_;refine zD omQ ?_;rw[show((o.length+1:Nat):Int)-((1:Nat):Int)=(o.length:Int) by omega];refine Kk (hi:=o.length) (H5.aG e_6) omQ omQ λv6 H6=>?_;rw[List.take_append_of_le_length omQ,List.take_of_length_le omQ]at H6;have o6:=H6.one .here;clear H5;refine qK (qQ (qw H6 (b:=x) e_3 o6 aN λh7 H7=>?_));refine qF H7 (b:=b2) (off:=0) e_2 rfl omQ (l:=yD p) rfl ?_;refine qh H7 (b:=b0) e_3 rfl (by show 0+11≤11;omega) rfl λh8 H8=>?_
 have H8:HS g h8 (qA b0 (yD p)::qA x (vt c mv v6 v q bad err fin left nx s.pc s.ap)::qB 289 11 o.length v6 A::qA b2 (yD p)::
  qB 56 5 l.length c (l.flatMap zM)::qB 3 1 mt.length mv (mt.map (.int .i64))::bw q s.out::R):=H8
 refine qF H8 (b:=b0) (off:=0) .here rfl omQ (l:=yD p) rfl ?_;refine qG ⟨rfl,aH.I (s:={ s with bf:=o }) (c:=c) (mv:=mv) (ov:=v6) (o:=q) ?_⟩
 show HS g h8 (qA x (vt c mv v6 v q bad err fin left nx s.pc s.ap)::qB 56 5 l.length c (l.flatMap zM)::qB 3 1 mt.length mv (mt.map (.int .i64))::bw q s.out::
  qB 289 11 o.length v6 (o.reverse.flatMap yD)::R)
 rw[hA];exact H8.sub (.cons e_1 (.cons e_3 (.cons e_3 (.cons e_3 (.cons e_1 (.drop (.drop .refl)))))))
theorem O6 {n:Nat} (hn:3≤n) {p:e9} (ht:p.told≤s.out.length) (hl:s.out.length≤16) (H:HS g h (aH x v l bad mt s err fin left nx::R)) :
  aA n 221 [.ptr x 0,.agg (yD p)] h λ_ h'=>HS g h' (aH x v l bad mt (QA s p) err fin left nx::R):=by
 refine ba (S:=S221) rfl omQ λk hk=>?_;unfold S221;try simp only
 refine qO H (qjh p) λb0 h1 H1=>?_;obtain⟨c,mv,ov,q,H2⟩:=aH.E (H1.aG (P:=aH x v l bad mt s err fin left nx) e_1);clear H H1;refine qQ (qF H2 (b:=b0) (off:=2) e_5 rfl omQ (l:=PJ p.ap) rfl ?_);refine qK (qQ ?_);refine qh H2 (b:=x) .here rfl (by show 6+8≤19;omega) rfl λh3 H3=>?_
 have H3:HS g h3 (qA x (vt c mv ov v q bad err fin left nx s.pc p.ap)::qB 56 5 l.length c (l.flatMap zM)::qB 3 1 mt.length mv (mt.map (.int .i64))::bw q s.out::
  qB 289 11 s.bf.length ov (s.bf.reverse.flatMap yD)::qA b0 (yD p)::R):=H3
 clear H2;have H4:=H3;unfold vt yD at H4;refine qK (qQ (qZ ‹_› .here rfl ?_));refine qQ (qZ ‹_› e_5 rfl ?_);refine qV (qxn omQ (H3.aG (P:=bw q s.out) e_3) hl ht) ?_;intro _ h5 H5;clear H4 H3;exact qG (aH.I (s:=QA s p) (c:=c) (mv:=mv) (ov:=ov) (o:=q) (H5.sub (.cons e_1 (.cons e_1 (.cons e_1 (.cons .here (.cons .here (.drop .refl))))))))
theorem Mv {n:Nat} (hn:5≤n) {op at_ nx0:Int} {V:VM} (O:dp V) (dn:s.bf.length≤100) (H:HS g h (aH x v l bad mt s err fin left nx::ae v V::R)) :
  aA n 218 [.ptr x 0,.int .i64 op,.int .i64 at_] h λr h'=>r=.int .i64 (zS op at_ nx0 s V).e∧HS g h' (aH x v l bad mt (zS op at_ nx0 s V).s err fin left nx::ae v (zS op at_ nx0 s V).v::R):=by
 refine cL (S:=S218) rfl omQ λk hk=>?_;unfold S218;try simp only[iZ]
 obtain⟨c,mv,ov,q,H⟩:=aH.E H;unfold vt at H;refine qK (qQ (qZ ‹_› .here rfl ?_));refine qV (qYn omQ (H.aG (P:=ae v V) e_5) O) ?_;rintro _ h2 ⟨rfl,H2⟩
 have H2:HS g h2 (ae v (yc V).2::qA x (vt c mv ov v q bad err fin left nx s.pc s.ap)::qB 56 5 l.length c (l.flatMap zM)::qB 3 1 mt.length mv (mt.map (.int .i64))::bw q s.out::
  qB 289 11 s.bf.length ov (s.bf.reverse.flatMap yD)::R):=H2
 clear H;unfold zS;by_cases h0:(yc V).1=0
 ·rw[iJ h0];refine qs h0 (qJ ?_);have H3:=H2;unfold vt at H3;refine qW ?_
  try dsimp only
  refine qK (qQ ?_);refine qZ H2 (b:=x) e_1 rfl ?_;refine qK (qQ ?_);refine qF H2 (b:=x) (off:=6) e_1 rfl omQ (l:=PJ s.ap) rfl ?_;refine qK (qQ ?_);refine qZ H2 (b:=x) e_1 rfl ?_;refine qV (qvU omQ (H2.aG (P:=bw q s.out) e_4)) ?_;rintro _ _ ⟨rfl,rfl⟩;refine qM (l:=yD ⟨op,at_,s.ap,s.out.length⟩) rfl ?_;refine qm (n:=1) (l:=yD ⟨op,at_,s.ap,s.out.length⟩) (sz:=11) H2 rfl rfl rfl rfl λv4 h4 H4=>?_;refine ja (H4.aG e_6) (H4.sl .here) omQ omQ rfl λv5 h5 H5=>?_;have o5:=H5.one .here;refine qK (qQ ?_);refine qw H5 (b:=x) e_3 o5 (by show 18<19;omega) λh6 H6=>?_;refine zU H2 (b:=x) e_1 rfl H2 e_1 rfl rfl omQ (HS.lt H2 e_1) ?_;refine qc H2 (b:=x) e_1 rfl H2 e_1 rfl (HS.lt H2 e_1) ?_;refine qG ⟨rfl,aH.I (s:={ s with bf:=⟨op,at_,s.ap,s.out.length⟩::s.bf }) (c:=c) (mv:=mv) (ov:=v5) (o:=q) ?_⟩
  show HS g h6 (qA x (vt c mv v5 v q bad err fin left nx s.pc s.ap)::qB 56 5 l.length c (l.flatMap zM)::qB 3 1 mt.length mv (mt.map (.int .i64))::bw q s.out::
   qB 289 11 (s.bf.length+1) v5 ((⟨op,at_,s.ap,s.out.length⟩::s.bf).reverse.flatMap yD)::ae v (yc V).2::R)
  rw[Vu];exact H6.sub (.cons .here (.cons e_3 (.cons e_3 (.cons e_3 (.cons .here (.drop .refl))))))
 ·rw[iQ h0];refine jQ h0 (qX ?_);exact qG ⟨rfl,aH.I (s:=s) (c:=c) (mv:=mv) (ov:=ov) (o:=q) (H2.sub (.cons e_1 (.cons e_1 (.cons e_1 (.cons e_1 (.cons e_1 .refl))))))⟩
end
end
section
variable {g h:AH} {L R:List SP}
section
variable {x v:Nat} {l:List qT} {bad:Int} {mt:List Int} {s:IM} {err fin left nx:Int}
def ea (mt:List Int) (p:Int):Prop:=∃k:Nat,p=k∧∃z:Int,mt[k]? =some z∧ -1≤z∧z≤1000
theorem ea.num {mt:List Int} {p z:Int} {k:Nat} (h1:p=k) (h2:mt[k]? =some z):qE mt p=z:=by unfold qE;rw[h1,Int.toNat_natCast,h2];rfl
theorem ea.idx {mt:List Int} {k:Nat} {z:Int} (h:mt[k]? =some z):(mt.map (AV.int .i64))[k]? =some (.int .i64 z)∧k<mt.length:=by refine⟨by rw[List.getElem?_map,h];rfl,(List.getElem?_eq_some_iff.1 h).1⟩
theorem qV3 {n:Nat} (hn:8≤n) {V:VM} (G:jg V) (dn:s.bf.length≤100) (fw:s.out.length≤16) (told:cN s.out.length s.bf) (hm:∀p∈s.bf,p.op=17→ea mt p.pc) (_:0≤s.pc∧s.pc≤100)
  (H:HS g h (aH x v l bad mt s err 0 left (s.pc+1)::ae v V::R)) :
  aA n 223 [.ptr x 0] h λr h'=>r=.int .i64 (yf mt s.bf s V).e∧
   HS g h' (aH x v l bad mt (yf mt s.bf s V).s err (if(yf mt s.bf s V).bp=true then 3 else 0) left (yf mt s.bf s V).nx::ae v (yf mt s.bf s V).v::R):=by
 refine ay (S:=S223) rfl omQ λk hk=>?_;unfold S223;try simp only[iZ]
 generalize hD:yf mt s.bf s V=D;have hs:s={ s with bf:=s.bf }:=rfl;refine jL (λm st h'=>∃(o:List e9) (V':VM),st=(.ptr x 0,())∧m=o.length∧o.length≤100∧HS g h' (aH x v l bad mt { s with bf:=o } err 0 left (s.pc+1)::ae v V'::R)∧jg V'∧cN s.out.length o∧(∀p∈o,p.op=17→ea mt p.pc)∧yf mt o s V'=D)
  ?_ (m:=s.bf.length) (by show _<1000000000;omega) ⟨s.bf,V,rfl,rfl,dn,H,G,told,hm,hD⟩
 clear H G told hm hD dn hs;rintro m ih st h2 bG ⟨o,V,rfl,rfl,dn,H,G,told,hm,hD⟩;dsimp only;obtain⟨c,mv,ov,q,H1⟩:=aH.E H
 have H1:HS g h2 (qA x (vt c mv ov v q bad err 0 left (s.pc+1) s.pc s.ap)::qB 56 5 l.length c (l.flatMap zM)::qB 3 1 mt.length mv (mt.map (.int .i64))::bw q s.out::
  qB 289 11 o.length ov (o.reverse.flatMap yD)::ae v V::R):=H1
 refine qK (qQ (qZ H1 (b:=x) .here rfl ?_));refine qo H1 e_4 ?_;cases o with
 |nil=>refine yQ aN (qJ ?_);refine qK (qQ (qZ H1 (b:=x) .here rfl ?_));refine qK (qQ ?_);refine qw H1 (b:=x) .here ⟨rfl,rfl⟩ (by show 16<19;omega) λh3 H3=>?_;refine qK (qQ ?_);refine qw H3 (b:=x) .here ⟨rfl,rfl⟩ (by show 5<19;omega) λh4 H4=>?_;subst hD;exact qk (qG ⟨rfl,aH.I (s:={ s with bf:=[] }) (c:=c) (mv:=mv) (ov:=ov) (o:=q) H4⟩)
 |cons p o=>
  refine vQ (by rw[List.length_cons];omega) (qX ?_);refine qV (XG (s:={ s with bf:=p::o }) (p:=p) (o:=o) omQ rfl (by simp at dn;omega) H) ?_;rintro _ h3 ⟨rfl,H3⟩;clear H H1;refine qO H3 rfl λb h4 H4=>qh H4 .here rfl (by show 0+11≤11;omega) rfl λh5 H5=>?_;have H5:HS g h5 (qA b (yD p)::aH x v l bad mt { s with bf:=o } err 0 left (s.pc+1)::ae v V::R):=H5;clear H3 H4;obtain⟨c,mv,ov,q,H6⟩:=aH.E (H5.aG (P:=aH x v l bad mt { s with bf:=o } err 0 left (s.pc+1)) e_1)
  have H6:HS g h5 (qA x (vt c mv ov v q bad err 0 left (s.pc+1) s.pc s.ap)::qB 56 5 l.length c (l.flatMap zM)::qB 3 1 mt.length mv (mt.map (.int .i64))::bw q s.out::
   qB 289 11 o.length ov (o.reverse.flatMap yD)::qA b (yD p)::ae v V::R):=H6
  refine qK (qQ (qZ H6 (b:=x) .here rfl ?_));clear H6;refine qV (OG omQ (H5.aG (P:=ae v V) e_2) G.ok) ?_;rintro _ h6 ⟨rfl,H6⟩;have GD:=G.dq;clear H5;unfold yf at hD;by_cases h0:(xB V).1=0
  ·rw[iJ h0]at hD;refine qs h0 (qJ ?_);refine qQ (qZ H6 (b:=b) e_1 rfl ?_);by_cases ng:p.op=17
   ·rw[iJ ng]at hD;refine qg ng (qX ?_);refine qF H6 (b:=b) (off:=0) e_1 rfl omQ (l:=yD p) rfl ?_;have H7:=H6.sub (L':=aH x v l bad mt { s with bf:=o } err 0 left (s.pc+1)::ae v (xB V).2::qA b (yD p)::R) (.cons e_2 (.cons .here (.cons .here .refl)));refine qV (O6 (s:={ s with bf:=o }) (p:=p) omQ told.1 fw H7) ?_;intro _ h8 H8;clear H6 H7;obtain⟨c,mv,ov,q,H9⟩:=aH.E H8
    have H9:HS g h8 (qA x (vt c mv ov v q bad err 0 left (s.pc+1) s.pc p.ap)::qB 56 5 l.length c (l.flatMap zM)::qB 3 1 mt.length mv (mt.map (.int .i64))::bw q (s.out.take p.told)::
     qB 289 11 o.length ov (o.reverse.flatMap yD)::ae v (xB V).2::qA b (yD p)::R):=H9
    clear H8;obtain⟨kk,iR,z,iq,DK,DV⟩:=hm p (iK ..) ng;rw[ea.num iR iq]at hD;refine qK (qQ (qZ H9 (b:=x) .here rfl ?_));refine qQ (qZ H9 (b:=b) e_6 rfl ?_);rw[iR];refine jd (H9.sl e_2) (ea.idx iq).1 ?_;refine qb omQ ?_;refine qK (qQ ?_);refine qw H9 (b:=x) .here ⟨rfl,rfl⟩ (by show 16<19;omega) λdR eZ=>?_;have iE:HS g dR (aH x v l bad mt { QA s p with bf:=o } err 0 left (z+1)::ae v (xB V).2::qA b (yD p)::R):=aH.I (s:={ QA s p with bf:=o }) (c:=c) (mv:=mv) (ov:=ov) (o:=q) eZ;clear H9 eZ;refine qV (Mv (s:={ QA s p with bf:=o }) (nx0:=z+1) omQ GD.1.ok (by simp at dn;show o.length≤100;omega) iE) ?_;rintro _ la ⟨rfl,bN⟩;subst hD;have hb:(zS 18 z (z+1) { QA s p with bf:=o } (xB V).2).bp=false∧(zS 18 z (z+1) { QA s p with bf:=o } (xB V).2).nx=z+1:=by unfold zS;split<;>exact⟨rfl,rfl⟩
    refine qk (qG ⟨rfl,?_⟩);rw[hb.1,hb.2];exact bN.sub (.cons .here (.cons .here (.drop .refl)))
   ·rw[iQ ng]at hD;refine qj ng (qJ ?_);exact bG o.length _ _ aN ⟨o,(xB V).2,rfl,rfl,by simp at dn;omega,H6.sub (.cons e_2 (.cons .here (.drop .refl))),GD.1,told.tail,λr hr=>hm r (iX _ hr),hD⟩
  ·rw[iQ h0]at hD;refine jQ h0 (qX ?_);subst hD;exact qk (qG ⟨rfl,H6.sub (.cons e_2 (.cons .here (.drop .refl)))⟩)
theorem qWr {n:Nat} (hn:9≤n) {V:VM} {i:qT} (G:jg V) (dn:s.bf.length≤100) (fw:s.out.length≤16) (told:cN s.out.length s.bf) (hm:∀p∈s.bf,p.op=17→ea mt p.pc) (PK:0≤s.pc∧s.pc≤100)
  (cS:i.1=15∨i.1=19∨i.1=18∨i.1=16→s.bf≠[]) (uu:i.1=18∨i.1=16→ea mt s.pc) (H:HS g h (aH x v l bad mt s err 0 left (s.pc+1)::ae v V::R)) :
  aA n 182 [.ptr x 0,.agg (zM i)] h λr h'=>r=.int .i64 (kQ mt s V i.1).e∧
   HS g h' (aH x v l bad mt (kQ mt s V i.1).s err (if(kQ mt s V i.1).bp=true then 3 else 0) left (kQ mt s V i.1).nx::ae v (kQ mt s V i.1).v::R):=by
 refine ba (S:=S182) rfl omQ λk hk=>?_;unfold S182;try simp only[iZ]
 refine qO H rfl λb h1 H1=>?_;clear H;have H1:HS g h1 (qA b (zM i)::aH x v l bad mt s err 0 left (s.pc+1)::ae v V::R):=H1;refine qQ (qZ H1 (b:=b) .here rfl ?_);refine qW ?_
 try dsimp only
 unfold kQ;have HB:=H1.sub (L':=aH x v l bad mt s err 0 left (s.pc+1)::ae v V::qA b (zM i)::R) (.cons e_1 (.cons e_1 (.cons .here .refl)));by_cases c1:i.1=14∨i.1=17
 ·rw[iJ c1]
  have key:wp (qp (.ptr b 0) 0 λv8=>jj h1 v8 λv9=>xE (.ptr x 0) λv10=>qp v10 15 λv11=>jj h1 v11 λv12=>
    ju (callT tab qx k) (.fn 218 [] []) [.ptr x 0,v9,v12] h1 λph rJ=>zl [] rJ λoh=>some (ph,oh)) λr h'=>r=.int .i64 (zS i.1 s.pc (s.pc+1) s V).e∧
   HS g h' (aH x v l bad mt (zS i.1 s.pc (s.pc+1) s V).s err (if(zS i.1 s.pc (s.pc+1) s V).bp=true then 3 else 0) left (zS i.1 s.pc (s.pc+1) s V).nx::ae v (zS i.1 s.pc (s.pc+1) s V).v::R):=by
   refine qQ (qZ H1 (b:=b) .here rfl ?_);obtain⟨c,mv,ov,q,H2⟩:=aH.E HB;refine qK (qQ (qZ H2 (b:=x) .here rfl ?_));refine qV (Mv (nx0:=s.pc+1) omQ G.ok dn HB) ?_;rintro _ la ⟨rfl,bN⟩;have hb:(zS i.1 s.pc (s.pc+1) s V).bp=false∧(zS i.1 s.pc (s.pc+1) s V).nx=s.pc+1:=by unfold zS;split<;>exact⟨rfl,rfl⟩
   refine qk (qG ⟨rfl,?_⟩);rw[hb.1,hb.2];exact bN.sub (.cons .here (.cons .here (.drop .refl)))
  by_cases c2:i.1=14
  ·refine qg c2 (qX (qX ?_));exact key
  ·refine qj c2 (qJ ?_);refine qg omQ (qX ?_);exact key
 ·rw[iQ c1];refine qj omQ (qJ ?_);refine qj omQ (qJ ?_);refine qW ?_
  try dsimp only
  by_cases c3:i.1=15∨i.1=19
  ·rw[iJ c3]
   have key:wp (ju (callT tab qx k) (.fn 219 [] []) [.ptr x 0] h1 λ_ DJ=>xE (.ptr x 0) λv22=>qp v22 1 λog=>jj DJ og λv24=>
     ju (callT tab qx k) (.fn 220 [] []) [v24] DJ λol ue=>zl [] ue λuk=>some (ol,uk)) λr h'=>r=.int .i64 (vJ V).1∧
    HS g h' (aH x v l bad mt { s with bf:=s.bf.tail } err (if false=true then 3 else 0) left (s.pc+1)::ae v (vJ V).2::R):=by
    obtain⟨p,o,ho⟩:∃p o,s.bf=p::o:=List.exists_cons_of_ne_nil (cS omQ);refine qV (XG (p:=p) (o:=o) omQ ho (by rw[ho]at dn;simp at dn;omega) HB) ?_;rintro _ h3 ⟨-,H3⟩;obtain⟨c,mv,ov,q,H4⟩:=aH.E H3;refine qK (qQ (qZ H4 (b:=x) .here rfl ?_));refine qV (Z6 omQ (H3.aG (P:=ae v V) e_1) G.ok) ?_;rintro _ h5 ⟨rfl,H5⟩;refine qk (qG ⟨rfl,?_⟩);rw[ho];exact H5.sub (.cons e_1 (.cons .here (.drop .refl)))
   by_cases c4:i.1=15
   ·refine qg c4 (qX (qX ?_));exact key
   ·refine qj c4 (qJ ?_);refine qg omQ (qX ?_);exact key
  ·rw[iQ c3];refine qj omQ (qJ ?_);refine qj omQ (qJ ?_);by_cases c5:i.1=18
   ·rw[iJ c5];refine qg c5 (qX ?_);obtain⟨p,o,ho⟩:∃p o,s.bf=p::o:=List.exists_cons_of_ne_nil (cS omQ);refine qV (XG (p:=p) (o:=o) omQ ho (by rw[ho]at dn;simp at dn;omega) HB) ?_;rintro _ h3 ⟨-,H3⟩;obtain⟨c,mv,ov,q,H4⟩:=aH.E H3
    have H4:HS g h3 (qA x (vt c mv ov v q bad err 0 left (s.pc+1) s.pc s.ap)::qB 56 5 l.length c (l.flatMap zM)::qB 3 1 mt.length mv (mt.map (.int .i64))::bw q s.out::
     qB 289 11 o.length ov (o.reverse.flatMap yD)::ae v V::qA b (zM i)::R):=H4
    obtain⟨kk,iR,z,iq,DK,DV⟩:=uu (.inl c5);rw[ea.num iR iq,ho];refine qK (qQ (qZ H4 (b:=x) .here rfl ?_));refine qK (qQ (qZ H4 (b:=x) .here rfl ?_));rw[iR];refine jd (H4.sl e_2) (ea.idx iq).1 ?_;refine qb omQ ?_;refine qK (qQ ?_);rw[← iR];refine qw H4 (b:=x) .here ⟨rfl,rfl⟩ (by show 16<19;omega) λdR eZ=>?_;refine qK (qQ (qZ eZ (b:=x) .here rfl ?_));have iE:HS g dR (aH x v l bad mt { s with bf:=o } err 0 left (z+1)::ae v V::qA b (zM i)::R):=aH.I (s:={ s with bf:=o }) (c:=c) (mv:=mv) (ov:=ov) (o:=q) eZ;refine qV (Z6 omQ (iE.aG (P:=ae v V) e_1) G.ok) ?_;rintro _ h5 ⟨rfl,H5⟩;exact qk (qG ⟨rfl,H5.sub (.cons e_1 (.cons .here (.drop .refl)))⟩)
   ·rw[iQ c5];refine qj c5 (qJ ?_);by_cases c6:i.1=16
    ·rw[iJ c6];refine qg c6 (qX ?_);obtain⟨p,o,ho⟩:∃p o,s.bf=p::o:=List.exists_cons_of_ne_nil (cS omQ);refine qV (XG (p:=p) (o:=o) omQ ho (by rw[ho]at dn;simp at dn;omega) HB) ?_;rintro _ h3 ⟨rfl,H3⟩;rw[ho]at told;refine qV (O6 (s:={ s with bf:=o }) (p:=p) omQ told.1 fw H3) ?_;intro _ h4 H4';obtain⟨c,mv,ov,q,H4⟩:=aH.E H4'
     have H4:HS g h4 (qA x (vt c mv ov v q bad err 0 left (s.pc+1) s.pc p.ap)::qB 56 5 l.length c (l.flatMap zM)::qB 3 1 mt.length mv (mt.map (.int .i64))::bw q (s.out.take p.told)::
      qB 289 11 o.length ov (o.reverse.flatMap yD)::ae v V::qA b (zM i)::R):=H4
     obtain⟨kk,iR,z,iq,DK,DV⟩:=uu (.inr c6);rw[ea.num iR iq,ho];refine qK (qQ (qZ H4 (b:=x) .here rfl ?_));refine qK (qQ (qZ H4 (b:=x) .here rfl ?_));rw[iR];refine jd (H4.sl e_2) (ea.idx iq).1 ?_;refine qb omQ ?_;refine qK (qQ ?_);refine qw H4 (b:=x) .here ⟨rfl,rfl⟩ (by show 16<19;omega) λdR eZ=>?_;refine qK (qQ (qZ eZ (b:=x) .here rfl ?_));have iE:HS g dR (aH x v l bad mt { QA s p with bf:=o } err 0 left (z+1)::ae v V::qA b (zM i)::R):=aH.I (s:={ QA s p with bf:=o }) (c:=c) (mv:=mv) (ov:=ov) (o:=q) eZ;refine qV (OG omQ (iE.aG (P:=ae v V) e_1) G.ok) ?_;rintro _ h5 ⟨rfl,H5⟩;exact qk (qG ⟨rfl,H5.sub (.cons e_1 (.cons .here (.drop .refl)))⟩)
    ·rw[iQ c6];refine qj c6 (qJ ?_);refine qV (qV3 omQ G dn fw told hm PK HB) ?_;rintro _ h3 ⟨rfl,H3⟩;exact qk (qG ⟨rfl,H3.sub (.cons .here (.cons .here (.drop .refl)))⟩)
end
end
section
variable {g h:AH} {L R:List SP}
section
variable {x v:Nat} {l:List qT} {bad:Int} {mt:List Int} {s:IM} {err fin left nx:Int}
theorem Hl {c mv ov:AV} {q a:Nat} {z:Int} {ai:Int} (hr:s.ap.length=8) (ha:a<8) (Hm:ai=a)
  (H:HS g h (qA x ((vt c mv ov v q bad err fin left nx s.pc s.ap).set (6+a*1) (.int .u64 z))::qB 56 5 l.length c (l.flatMap zM)::qB 3 1 mt.length mv (mt.map (.int .i64))::bw q s.out::
  qB 289 11 s.bf.length ov (s.bf.reverse.flatMap yD)::R)):HS g h (aH x v l bad mt (cU s ai z) err fin left nx::R):=by
 rw[qvi hr ha]at H;have e:s.ap.set a z=(cU s ai z).ap:=by unfold cU;rw[Hm,Int.toNat_natCast]
 rw[e]at H;exact aH.I (s:=cU s ai z) H
theorem qVC {n:Nat} (hn:12≤n) {V:VM} {i:qT} {a:Nat} (G:jg V) (ro:Jz s.ap) (_:i.1=8∨i.1=9∨i.1=10∨i.1=11) (ha:a<8) (Hm:i.2.1=a) (hc:0≤i.2.2.2.1∧i.2.2.2.1≤100)
  (H:HS g h (aH x v l bad mt s err fin left nx::ae v V::R)) :
  aA n 181 [.ptr x 0,.agg (zM i),.ptr x (6+a*1),.int .u64 (qE s.ap i.2.2.1)] h λr h'=>r=.int .i64 (jU s V i).1∧
   HS g h' (aH x v l bad mt (jU s V i).2.1 err fin left nx::ae v (jU s V i).2.2::R):=by
 refine nL (S:=S181) rfl omQ λk hk=>?_;unfold S181;try simp only[iZ]
 refine qO H rfl λb h1 H1=>?_;clear H;have H1:HS g h1 (qA b (zM i)::aH x v l bad mt s err fin left nx::ae v V::R):=H1;have HB:=H1.sub (L':=aH x v l bad mt s err fin left nx::ae v V::qA b (zM i)::R) (.cons e_1 (.cons e_1 (.cons .here .refl)));obtain⟨c,mv,ov,q,H2⟩:=aH.E HB;refine qQ (qZ H1 (b:=b) .here rfl ?_);have hra:=ro.at (a:Int);have hrb:=ro.at i.2.2.1;unfold jU;rw[Hm];by_cases c8:i.1=8
 ·rw[iJ c8];refine qg c8 (qX ?_);refine qQ (qZ H1 (b:=b) .here rfl ?_);refine qV (MJ omQ hrb hc) ?_;rintro _ _ ⟨rfl,rfl⟩;refine qD rfl (qD rfl ?_);by_cases h0:(z7 (qE s.ap i.2.2.1) i.2.2.2.1).2=0
  ·rw[iJ h0];refine qs h0 (qJ ?_);refine qK (qQ (qZ H2 (b:=x) .here rfl ?_));refine qV (Qo omQ (HB.aG (P:=ae v V) e_1) G.ok) ?_;rintro _ h3 ⟨rfl,H3⟩;refine qD rfl (qD rfl ?_);refine qW ?_
   try dsimp only
   by_cases h4:(qe V (z7 (qE s.ap i.2.2.1) i.2.2.2.1).1).1.2=0
   ·rw[iJ h4];refine qg h4 (qX ?_);obtain⟨c,mv,ov,q,H5⟩:=aH.E (H3.aG (P:=aH x v l bad mt s err fin left nx) e_1);refine qK (qw H5 (b:=x) .here ⟨rfl,rfl⟩ (by show 6+a*1<19;omega) λh6 H6=>?_);refine qk (qG ⟨by rw[h4],?_⟩);exact(Hl ro.len ha rfl H6).sub (.cons .here (.cons .here (.drop .refl)))
   ·rw[iQ h4];refine qj h4 (qJ ?_);exact qk (qG ⟨rfl,H3.sub (.cons e_1 (.cons .here (.drop .refl)))⟩)
  ·rw[iQ h0];refine jQ h0 (qX ?_);refine qG ⟨?_,HB.sub (.cons .here (.cons .here (.drop .refl)))⟩;unfold z7 at h0 ⊢
   split
   ·rfl
   ·rename_i hh;rw[iQ hh]at h0;exact absurd rfl h0
 ·rw[iQ c8];refine qj c8 (qJ ?_);by_cases c9:i.1=9
  ·rw[iJ c9];refine qg c9 (qX ?_);refine qK (qZ H2 (b:=x) .here (YW ha) ?_);refine qQ (qZ H1 (b:=b) .here rfl ?_);refine qV (MJ omQ hra hc) ?_;rintro _ _ ⟨rfl,rfl⟩;refine qD rfl (qD rfl ?_);by_cases h0:(z7 (qE s.ap (a:Int)) i.2.2.2.1).2=0
   ·rw[iJ h0];refine qs h0 (qJ ?_);refine qK (qQ (qZ H2 (b:=x) .here rfl ?_));refine qV (qVP omQ (HB.aG (P:=ae v V) e_1) G.ok) ?_;rintro _ h3 ⟨rfl,H3⟩;exact qG ⟨rfl,H3.sub (.cons e_1 (.cons .here (.drop .refl)))⟩
   ·rw[iQ h0];refine jQ h0 (qX ?_);refine qG ⟨?_,HB.sub (.cons .here (.cons .here (.drop .refl)))⟩;unfold z7 at h0 ⊢
    split
    ·rfl
    ·rename_i hh;rw[iQ hh]at h0;exact absurd rfl h0
  ·rw[iQ c9];refine qj c9 (qJ ?_);by_cases DW:i.1=10
   ·rw[iJ DW];refine qg DW (qX ?_);by_cases h0:2147483648≤qE s.ap i.2.2.1
    ·rw[iJ h0];refine zx omQ (qX ?_);exact qG ⟨rfl,HB.sub (.cons .here (.cons .here (.drop .refl)))⟩
    ·rw[iQ h0];refine zK omQ (qJ ?_);refine qK (qQ (qZ H2 (b:=x) .here rfl ?_));refine xg omQ ?_;refine qV (qX0 omQ (HB.aG (P:=ae v V) e_1) G.ok G.wd) ?_;rintro _ h3 ⟨rfl,H3⟩;refine qD rfl (qD rfl ?_);refine qW ?_
     try dsimp only
     by_cases h4:(jO V (qE s.ap i.2.2.1)).1.2=0
     ·rw[iJ h4];have hb:=PF (x:=qE s.ap i.2.2.1) G.wd h4;refine qg h4 (qX ?_);obtain⟨c,mv,ov,q,H5⟩:=aH.E (H3.aG (P:=aH x v l bad mt s err fin left nx) e_1);refine yM omQ (qK ?_);refine qw H5 (b:=x) .here ⟨rfl,rfl⟩ (by show 6+a*1<19;omega) λh6 H6=>?_;refine qk (qG ⟨by rw[h4],?_⟩);exact(Hl ro.len ha rfl H6).sub (.cons .here (.cons .here (.drop .refl)))
     ·rw[iQ h4];refine qj h4 (qJ ?_);exact qk (qG ⟨rfl,H3.sub (.cons e_1 (.cons .here (.drop .refl)))⟩)
   ·rw[iQ DW];refine qj DW (qJ ?_);refine qK (qZ H2 (b:=x) .here (YW ha) ?_);by_cases h0:2147483648≤qE s.ap (a:Int)
    ·rw[iJ h0];refine zx omQ (qX ?_);exact qG ⟨rfl,HB.sub (.cons .here (.cons .here (.drop .refl)))⟩
    ·rw[iQ h0];refine zK omQ (qJ ?_);refine qK (qQ (qZ H2 (b:=x) .here rfl ?_));refine qK (qZ H2 (b:=x) .here (YW ha) ?_);refine xg omQ ?_;refine qV (qWD omQ (HB.aG (P:=ae v V) e_1) G.ok) ?_;rintro _ h3 ⟨rfl,H3⟩;exact qG ⟨rfl,H3.sub (.cons e_1 (.cons .here (.drop .refl)))⟩
structure PL (l:List qT) (mt:List Int) (s:IM) (V:VM) (i:qT):Prop where
  aC:jg V
  ap:Jz s.ap
  out:s.out.length≤16
  lo:s.bf.length≤100
  told:cN s.out.length s.bf
  ways:∀p∈s.bf,p.op=17→ea mt p.pc
  pc:0≤s.pc∧s.pc≤100
  op:1≤i.1∧i.1<23
  a:0≤i.2.1∧i.2.1≤7
  b:0≤i.2.2.1∧i.2.2.1≤7
  c:0≤i.2.2.2.1∧i.2.2.2.1≤100
  c7:3≤i.1∧i.1≤7→i.2.2.2.1≤7
  ne:i.1=15∨i.1=19∨i.1=18∨i.1=16→s.bf≠[]
  mt:i.1=18∨i.1=16→ea mt s.pc
theorem qwe {n:Nat} (hn:13≤n) {V:VM} {i:qT} (P:PL l mt s V i) (H:HS g h (aH x v l bad mt s err 0 left (s.pc+1)::ae v V::R)) :
  aA n 150 [.ptr x 0,.agg (zM i)] h λr h'=>r=.int .i64 (bK mt s V i).e∧
   HS g h' (aH x v l bad mt (bK mt s V i).s err (if(bK mt s V i).bp=true then 3 else 0) left (bK mt s V i).nx::ae v (bK mt s V i).v::R):=by
 refine ba (S:=S150) rfl omQ λk hk=>?_;unfold S150;try simp only[iZ]
 refine qO H rfl λb h1 H1=>?_;clear H;have H1:HS g h1 (qA b (zM i)::aH x v l bad mt s err 0 left (s.pc+1)::ae v V::R):=H1;have HB:=H1.sub (L':=aH x v l bad mt s err 0 left (s.pc+1)::ae v V::qA b (zM i)::R) (.cons e_1 (.cons e_1 (.cons .here .refl)));obtain⟨c,mv,ov,q,H2⟩:=aH.E HB;obtain⟨a,ha1,Cr,Ap⟩:=Hk P.a.1;obtain⟨bb,fA,dS,lx⟩:=Hk P.b.1;obtain⟨cc,hc1,oH,mK⟩:=Hk P.c.1;have Ap:=Ap (by have:=P.a.2;omega);have lx:=lx (by have:=P.b.2;omega);have ro:=P.ap;have lI:=P.op;have Cs:=P.c7;refine qQ (qZ H1 (b:=b) .here rfl (Ja od ?_));rw[ha1];refine qK (qQ (KM Cr ?_));refine qQ (qZ H1 (b:=b) .here rfl (Ja od ?_));rw[fA];refine qK (qQ (KM dS ?_));refine qZ H2 (b:=x) .here (YW dS) ?_;refine qQ (qZ H1 (b:=b) .here rfl (Ja od ?_));rw[hc1];refine qK (qQ (KM oH ?_));refine qZ H2 (b:=x) .here (YW oH) ?_;refine qQ (qZ H1 (b:=b) .here rfl ?_);refine qW ?_
 try dsimp only
 have fin:∀(z:Int) (D:SM) (h0:AH),D=⟨0,s.pc+1,false,cU s i.2.1 z,V⟩→HS g h0 (aH x v l bad mt s err 0 left (s.pc+1)::ae v V::qA b (zM i)::R)→
   wp (xE (.ptr x (6+a*1)) λrI=>jP h0 rI (.int .u64 z) 1 λh33=>zl [] h33 λh28=>some (.int .i64 ((0:Nat):Int),h28)) λr h'=>r=.int .i64 D.e∧
    HS g h' (aH x v l bad mt D.s err (if D.bp=true then 3 else 0) left D.nx::ae v D.v::R):=by
  rintro z D h0 rfl H0;obtain⟨c,mv,ov,q,H5⟩:=aH.E H0;refine qK (qw H5 (b:=x) .here ⟨rfl,rfl⟩ (by show 6+a*1<19;omega) λh6 H6=>?_);refine qk (qG ⟨rfl,?_⟩);exact(Hl ro.len Cr Ap H6).sub (.cons .here (.cons .here (.drop .refl)))
 by_cases c1:i.1=1
 ·refine qg c1 (qX ?_);refine qQ (qZ H1 (b:=b) .here rfl ?_);exact fin _ _ _ (by unfold bK;rw[iJ c1]) HB
 refine qj c1 (qJ ?_);by_cases c2:i.1=2
 ·refine qg c2 (qX ?_);exact fin _ _ _ (by unfold bK;rw[iQ c1,iJ c2,lx]) HB
 refine qj c2 (qJ ?_);by_cases c3:i.1=3
 ·refine qg c3 (qX (OJ ?_));have mK:=mK (by have:=Cs omQ;omega);exact fin _ _ _ (by unfold bK;rw[iQ c1,iQ c2,iJ c3,lx,mK]) HB
 refine qj c3 (qJ ?_);by_cases c4:i.1=4
 ·refine qg c4 (qX (Fp ?_));have mK:=mK (by have:=Cs omQ;omega);exact fin _ _ _ (by unfold bK;rw[iQ c1,iQ c2,iQ c3,iJ c4,lx,mK]) HB
 refine qj c4 (qJ ?_);by_cases c5:i.1=5
 ·refine qg c5 (qX (LM ?_));have mK:=mK (by have:=Cs omQ;omega);exact fin _ _ _ (by unfold bK;rw[iQ c1,iQ c2,iQ c3,iQ c4,iJ c5,lx,mK]) HB
 refine qj c5 (qJ ?_);by_cases c6:i.1=6
 ·refine qg c6 (qX (Xt ?_));have mK:=mK (by have:=Cs omQ;omega);refine qV (MS omQ) ?_;rintro _ _ ⟨rfl,rfl⟩;exact fin _ _ _ (by unfold bK;rw[iQ c1,iQ c2,iQ c3,iQ c4,iQ c5,iJ c6,lx,mK]) HB
 refine qj c6 (qJ ?_);by_cases c7:i.1=7
 ·refine qg c7 (qX (J7 ?_));have mK:=mK (by have:=Cs omQ;omega);refine qV (MS omQ) ?_;rintro _ _ ⟨rfl,rfl⟩;exact fin _ _ _ (by unfold bK;rw[iQ c1,iQ c2,iQ c3,iQ c4,iQ c5,iQ c6,iJ c7,lx,mK]) HB
 refine qj c7 (qJ ?_);by_cases mh:i.1=12
 ·refine qg mh (qX ?_);have e:bK mt s V i=⟨0,i.2.2.2.1,false,s,V⟩:=by unfold bK;rw[iQ c1,iQ c2,iQ c3,iQ c4,iQ c5,iQ c6,iQ c7,iJ mh]
  rw[e];refine qQ (qZ H1 (b:=b) .here rfl ?_);refine qK (qQ ?_);refine qw H2 (b:=x) .here ⟨rfl,rfl⟩ (by show 16<19;omega) λh6 H6=>?_;exact qk (qG ⟨rfl,(aH.I (c:=c) (mv:=mv) (ov:=ov) (o:=q) H6).sub (.cons .here (.cons .here (.drop .refl)))⟩)
 refine qj mh (qJ ?_);by_cases mi:i.1=13
 ·refine qg mi (qX ?_);have e:bK mt s V i=⟨0,if qE s.ap i.2.1=0 then i.2.2.2.1 else s.pc+1,false,s,V⟩:=by unfold bK;rw[iQ c1,iQ c2,iQ c3,iQ c4,iQ c5,iQ c6,iQ c7,iQ mh,iJ mi]
  rw[e,Ap];refine qK (qZ H2 (b:=x) .here (YW Cr) ?_);by_cases hz:qE s.ap (a:Int)=0
  ·rw[iJ hz];refine qg hz (qX ?_);refine qQ (qZ H1 (b:=b) .here rfl ?_);refine qK (qQ ?_);refine qw H2 (b:=x) .here ⟨rfl,rfl⟩ (by show 16<19;omega) λh6 H6=>?_;exact qk (qG ⟨rfl,(aH.I (c:=c) (mv:=mv) (ov:=ov) (o:=q) H6).sub (.cons .here (.cons .here (.drop .refl)))⟩)
  ·rw[iQ hz];refine qj hz (qJ ?_);exact qk (qG ⟨rfl,HB.sub (.cons .here (.cons .here (.drop .refl)))⟩)
 refine qj mi (qJ ?_);by_cases nU:i.1=21
 ·refine qg nU (qX ?_);refine qK (qQ (qZ H2 (b:=x) .here rfl ?_));refine qK (qZ H2 (b:=x) .here (YW Cr) ?_);refine qV (qzu omQ (H2.aG (P:=bw q s.out) e_3) P.out) ?_;rintro _ h3 ⟨rfl,H3⟩;by_cases rb:16≤s.out.length
  ·have e:bK mt s V i=⟨5,s.pc+1,false,s,V⟩:=by unfold bK;rw[iQ c1,iQ c2,iQ c3,iQ c4,iQ c5,iQ c6,iQ c7,iQ mh,iQ mi,iJ nU,iJ rb]
   rw[e];rw[iQ omQ]at H3;rw[iV omQ];refine jB (qX ?_);exact qG ⟨rfl,(aH.I (c:=c) (mv:=mv) (ov:=ov) (o:=q) (R:=ae v V::qA b (zM i)::R) (H3.sub (.cons e_1 (.cons e_1 (.cons e_1 (.cons .here (.cons .here .refl))))))).sub (.cons .here (.cons .here (.drop .refl)))⟩
  ·have e:bK mt s V i=⟨0,s.pc+1,false,{ s with out:=s.out++[(1,qE s.ap i.2.1)] },V⟩:=by unfold bK;rw[iQ c1,iQ c2,iQ c3,iQ c4,iQ c5,iQ c6,iQ c7,iQ mh,iQ mi,iJ nU,iQ rb]
   rw[e,Ap];rw[iJ omQ]at H3;rw[iG omQ];refine jY (qJ ?_);exact qk (qG ⟨rfl,(aH.I (s:={ s with out:=s.out++[(1,qE s.ap (a:Int))] }) (c:=c) (mv:=mv) (ov:=ov) (o:=q) (R:=ae v V::qA b (zM i)::R) (H3.sub (.cons e_1 (.cons e_1 (.cons e_1 (.cons .here (.cons .here .refl))))))).sub (.cons .here (.cons .here (.drop .refl)))⟩)
 refine qj nU (qJ ?_);by_cases pB:i.1=22
 ·refine qg pB (qX ?_);have e:bK mt s V i=⟨13,s.pc+1,false,s,V⟩:=by unfold bK;rw[iQ c1,iQ c2,iQ c3,iQ c4,iQ c5,iQ c6,iQ c7,iQ mh,iQ mi,iQ nU,iJ pB]
  rw[e];exact qG ⟨rfl,HB.sub (.cons .here (.cons .here (.drop .refl)))⟩
 refine qj pB (qJ ?_);refine qj omQ (qJ ?_);refine qW ?_
 try dsimp only
 by_cases ct:i.1=8∨i.1=9∨i.1=10∨i.1=11
 ·have e:bK mt s V i=⟨(jU s V i).1,s.pc+1,false,(jU s V i).2.1,(jU s V i).2.2⟩:=by unfold bK;rw[iQ c1,iQ c2,iQ c3,iQ c4,iQ c5,iQ c6,iQ c7,iQ mh,iQ mi,iQ nU,iQ pB,iJ ct]
  rw[e];have key:wp (zi h1 (.ptr b 0) 5 λv94=>ju (callT tab qx k) (.fn 181 [] []) [.ptr x 0,v94,.ptr x (6+a*1),.int .u64 (qE s.ap (bb:Int))] h1 λv95 h96=>zl [] h96 λh97=>some (v95,h97)) λr h'=>
    r=.int .i64 (jU s V i).1∧HS g h' (aH x v l bad mt (jU s V i).2.1 err (if false=true then 3 else 0) left (s.pc+1)::ae v (jU s V i).2.2::R):=by
   refine qF H1 (b:=b) (off:=0) .here rfl omQ (l:=zM i) rfl ?_;rw[← lx];refine qV (qVC omQ P.aC ro ct Cr Ap P.c HB) ?_;rintro _ h3 ⟨rfl,H3⟩;exact qk (qG ⟨rfl,H3.sub (.cons .here (.cons .here (.drop .refl)))⟩)
  by_cases t8:i.1=8
  ·refine qg t8 (qX (qX ?_));exact key
  refine qj t8 (qJ ?_);by_cases t9:i.1=9
  ·refine qg t9 (qX (qX ?_));exact key
  refine qj t9 (qJ ?_);by_cases t10:i.1=10
  ·refine qg t10 (qX (qX ?_));exact key
  refine qj t10 (qJ ?_);refine qg omQ (qX ?_);exact key
 ·have e:bK mt s V i=kQ mt s V i.1:=by unfold bK;rw[iQ c1,iQ c2,iQ c3,iQ c4,iQ c5,iQ c6,iQ c7,iQ mh,iQ mi,iQ nU,iQ pB,iQ ct]
  rw[e];refine qj omQ (qJ ?_);refine qj omQ (qJ ?_);refine qj omQ (qJ ?_);refine qj omQ (qJ ?_);refine qF H1 (b:=b) (off:=0) .here rfl omQ (l:=zM i) rfl ?_;refine qV (qWr omQ P.aC P.lo P.out P.told P.ways P.pc P.ne P.mt HB) ?_;rintro _ h3 ⟨rfl,H3⟩;exact qk (qG ⟨rfl,H3.sub (.cons .here (.cons .here (.drop .refl)))⟩)
end
end
section
variable {g h:AH} {L R:List SP}
theorem gX {a:List Int} {k:Nat} (h:k<a.length):a[k]? =some (qE a (k:Int)):=by unfold qE;rw[Int.toNat_natCast,iW h];rfl
theorem PM {x:qT} (h:Jx x=true) (hx:x.1≠23):(1≤x.1∧x.1<23)∧(0≤x.2.1∧x.2.1≤7)∧(0≤x.2.2.1∧x.2.2.1≤7)∧(0≤x.2.2.2.1∧x.2.2.2.1≤40)∧(3≤x.1∧x.1≤7→x.2.2.2.1≤7):=by
 unfold Jx kh at h;simp only[Bool.and_eq_true,decide_eq_true_eq]at h;obtain⟨⟨⟨⟨h1,h2⟩,h3⟩,h4⟩,_⟩:=h;unfold jc at h2 h3 h4;by_cases c1:x.1=1∨x.1=11∨x.1=21
 ·rw[iJ c1]at h2 h3 h4;dsimp only at h2 h3 h4;omega
 rw[iQ c1]at h2 h3 h4;by_cases c2:x.1=2∨x.1=10
 ·rw[iJ c2]at h2 h3 h4;dsimp only at h2 h3 h4;omega
 rw[iQ c2]at h2 h3 h4;by_cases c3:x.1=3∨x.1=4∨x.1=5∨x.1=6∨x.1=7
 ·rw[iJ c3]at h2 h3 h4;dsimp only at h2 h3 h4;omega
 rw[iQ c3]at h2 h3 h4;by_cases c4:x.1=8∨x.1=9
 ·rw[iJ c4]at h2 h3 h4;dsimp only at h2 h3 h4;omega
 rw[iQ c4]at h2 h3 h4;by_cases c5:x.1=12
 ·rw[iJ c5]at h2 h3 h4;dsimp only at h2 h3 h4;omega
 rw[iQ c5]at h2 h3 h4;by_cases c6:x.1=13
 ·rw[iJ c6]at h2 h3 h4;dsimp only at h2 h3 h4;omega
 rw[iQ c6,iQ hx]at h2 h3 h4;dsimp only at h2 h3 h4;omega
theorem Oj {l:List qT} (F:Fit l) {k:Nat} (hk:k<l.length) (ho:(qR l k).1=14∨(qR l k).1=17∨(qR l k).1=18∨(qR l k).1=16):ea (qP l) (k:Int):=by
 have hl:=F.le;refine⟨k,rfl,_,gX (by rw[qVM];exact hk),?_⟩;by_cases h:(qR l k).1=16
 ·obtain⟨e,e1,e2,_⟩:=UE F hk h;rw[e1];omega
 ·obtain⟨e,e1,_,e2,_⟩:=Jo F hk omQ;rw[e1];omega
theorem qwH {l:List qT} {s:IM} {V:VM} (F:Fit l) (G:GI l s V) {i:Nat} (hi:s.pc=i) (au:i<l.length) (hx:(qR l i).1≠23):PL l (qP l) s V (qR l i):=by
 have hw:=vH (F.ok i au);have DU:=xM (F.ok i au);have hb:=PM hw.1 hx;have fD:=KL G;have h5:=UG F i omQ;have hl:=F.le;rw[hi,Int.toNat_natCast]at fD;refine⟨G.aC,G.gb.ap,G.gb.out,by omega,G.told,?_,by omega,hb.1,hb.2.1,hb.2.2.1,by omega,hb.2.2.2.2,?_,?_⟩
 ·intro p hp lI;obtain⟨q,hq,Hg⟩:=(G.lA p hp).pc;have:=(G.lA p hp).op.2;rw[lI,hq]at this;rw[hq];exact Oj F Hg omQ
 ·intro ho h0;rw[h0]at fD;have he:0<jt (qR l i).1∨(qR l i).1=16:=by
   rcases ho with h |h |h |h
   ·exact .inl (by rw[h];decide)
   ·exact .inl (by rw[h];decide)
   ·exact .inl (by rw[h];decide)
   ·exact .inr h
  exact DU.2.1 he (iA fD.symm)
 ·intro ho;rw[hi];exact Oj F au omQ
def Quiet (l:List qT):Prop:=∀x∈l,x.1≠23∧0≤x.2.2.2.2∧x.2.2.2.2<18446744073709551616
theorem Quiet.at {l:List qT} (Q:Quiet l) {i:Nat} (h:i<l.length):(qR l i).1≠23∧0≤(qR l i).2.2.2.2∧(qR l i).2.2.2.2<18446744073709551616:=by rw[y6 h];exact Q _ (List.getElem_mem h)
structure Hn (V:VM) (r:RM):Prop where
  gb:GB r.s
  aC:jg r.v
  sz:r.v.sz=V.sz
  K:r.v.K=V.K
  most:r.v.most=V.most
theorem Ho {l:List qT} (F:Fit l) (Q:Quiet l):∀(n:Nat) {s:IM} {V:VM},GI l s V→bD V.lv+n<9000→Hn V (jM l (qP l) n s V)∧bD (jM l (qP l) n s V).v.lv≤bD V.lv+n∧
  ((jM l (qP l) n s V).kind=2→(jM l (qP l) n s V).v.lv.length=1)∧
  ((jM l (qP l) n s V).kind=1→GI l (jM l (qP l) n s V).s (jM l (qP l) n s V).v∧1≤(jM l (qP l) n s V).v.aK∧(jM l (qP l) n s V).v.aK<V.sz∧zW (jM l (qP l) n s V).v.aK V.K=none)∧
  ((jM l (qP l) n s V).kind=1∨(jM l (qP l) n s V).kind=2∨(jM l (qP l) n s V).kind=3∨(jM l (qP l) n s V).kind=4):=by
 intro n
 induction n with
 |zero=>
  intro s V G hf;rw[gu]
  split
  ·rename_i h0;refine⟨⟨G.gb,G.aC,rfl,rfl,rfl⟩,by simp,λ_=>?_,λh=>(by cases h),by simp⟩;have:=KL G;rw[h0,Int.toNat_natCast,F.nil]at this;have hl:=G.lv;show V.lv.length=1;rw[hl,this];rfl
  ·exact⟨⟨G.gb,G.aC,rfl,rfl,rfl⟩,by simp,λh=>(by cases h),λh=>(by cases h),by simp⟩
 |succ n ih=>
  intro s V G hf;rw[vR]
  split
  ·rename_i h0;refine⟨⟨G.gb,G.aC,rfl,rfl,rfl⟩,by simp,λ_=>?_,λh=>(by cases h),by simp⟩;have:=KL G;rw[h0,Int.toNat_natCast,F.nil]at this;have hl:=G.lv;show V.lv.length=1;rw[hl,this];rfl
  ·rename_i h0;obtain⟨i,hi,pY⟩:=G.pc;have au:i<l.length:=by omega
   rw[hi];have S:=XP F G hi au omQ (Q.at au).2 (Q.at au).1;generalize bK (qP l) s V (qR l i)=D at*
   split
   ·rename_i h1
    split
    ·exact⟨⟨⟨S.gb.ap,S.gb.out,S.gb.its⟩,S.aC,S.sz,S.K,S.most⟩,by have:=S.fr;dsimp only;omega,λh=>(by cases h),λh=>(by cases h),by simp⟩
    ·rename_i h2;have G2:=S.next h1 (by simpa using h2);have pz:=S.fr;obtain⟨a,b,c,d,e⟩:=ih G2 omQ;refine⟨⟨a.gb,a.aC,a.sz.trans S.sz,a.K.trans S.K,a.most.trans S.most⟩,by omega,c,λh=>?_,e⟩;have:=d h;rw[S.sz,S.K]at this;exact this
   ·split
    ·rename_i cD;obtain⟨n1,n2,n3,n4,n5⟩:=S.aK cD;refine⟨⟨S.gb,S.aC,S.sz,S.K,S.most⟩,by have:=S.fr;dsimp only;omega,λh=>(by cases h),λ_=>⟨?_,n3,n4,n5⟩,by simp⟩;show GI l D.s D.v;rw[n1];exact⟨G.gb,G.pc,G.lA,G.told,G.Cn,by rw[n2];exact G.lv,S.aC⟩
    ·exact⟨⟨S.gb,S.aC,S.sz,S.K,S.most⟩,by have:=S.fr;dsimp only;omega,λh=>(by cases h),λh=>(by cases h),by simp⟩
section
variable {x v:Nat} {l:List qT} {bad:Int} {mt:List Int} {s:IM} {err fin left nx:Int}
theorem qvP {n:Nat} (hn:14≤n) (F:Fit l) (Q:Quiet l) {left:Nat} {V:VM} (G:GI l s V) (hf:bD V.lv+left<9000) (hl:left≤1000) (H:HS g h (aH x v l 0 (qP l) s 0 0 left nx::ae v V::R)) :
  aA n 122 [.ptr x 0] h λr h'=>r=.int .i64 (jM l (qP l) left s V).kind∧
   ∃uv,HS g h' (aH x v l 0 (qP l) (jM l (qP l) left s V).s (jM l (qP l) left s V).err (if(jM l (qP l) left s V).kind=1 then 0 else(jM l (qP l) left s V).kind) ((jM l (qP l) left s V).left:Int) uv::ae v (jM l (qP l) left s V).v::R):=by
 refine ay (S:=S122) rfl omQ λk hk=>?_;unfold S122;try simp only[iZ]
 generalize li:jM l (qP l) left s V=RM
 refine jL (λm st h'=>st=(.ptr x 0,())∧((∃(s':IM) (V':VM) (l5:Nat) (uv:Int),m=l5+1∧l5≤1000∧GI l s' V'∧bD V'.lv+l5<9000∧jM l (qP l) l5 s' V'=RM∧HS g h' (aH x v l 0 (qP l) s' 0 0 l5 uv::ae v V'::R))∨
   (m=0∧RM.kind≠0∧RM.kind≠1∧∃uv,HS g h' (aH x v l 0 (qP l) RM.s RM.err RM.kind RM.left uv::ae v RM.v::R))))
  ?_ (m:=left+1) (by show _<1000000000;omega) ⟨rfl,.inl ⟨s,V,left,nx,rfl,hl,G,hf,li,H⟩⟩
 clear H G hf li hl;rintro m ih st h2 bG ⟨rfl,⟨s,V,left,nx,rfl,hl,G,hf,li,H⟩ |⟨rfl,hk0,iR,nx,H⟩⟩
 rotate_left
 ·dsimp only;obtain⟨c,mv,ov,q,H1⟩:=aH.E H;refine qK (qQ (qZ H1 (b:=x) .here rfl ?_));refine qj hk0 (qJ ?_);refine qK (qQ (qZ H1 (b:=x) .here rfl ?_));refine qk (qG ⟨rfl,nx,?_⟩);rw[iQ iR];exact H
 dsimp only;obtain⟨i,hi,pY⟩:=G.pc;have hlen:=F.le;obtain⟨c,mv,ov,q,H1⟩:=aH.E H;refine qK (qQ (qZ H1 (b:=x) .here rfl ?_));refine qg rfl (qX ?_);refine qW ?_
 try dsimp only
 refine qK (qQ (qZ H1 (b:=x) .here rfl ?_));refine qs rfl (qJ ?_);refine qK (qQ (qZ H1 (b:=x) .here rfl ?_));refine qK (qQ (qQ (qZ H1 (b:=x) .here rfl ?_)));refine qo H1 e_1 ?_;by_cases h0:s.pc=l.length
 ·refine qg h0 (qX ?_);rw[U1 h0]at li;subst li;refine qK (qQ ?_);refine qw H1 (b:=x) .here ⟨rfl,rfl⟩ (by show 5<19;omega) λh3 H3=>?_;exact bG 0 _ _ omQ ⟨rfl,.inr ⟨rfl,by show(2:Int)≠0;decide,by show(2:Int)≠1;decide,nx,aH.I (c:=c) (mv:=mv) (ov:=ov) (o:=q) H3⟩⟩
 refine qj h0 (qJ ?_);refine qK (qQ (qZ H1 (b:=x) .here rfl ?_));cases left with
 |zero=>refine qg rfl (qX ?_);rw[gu,iQ h0]at li;subst li;refine qV (OF omQ H) ?_;intro _ h3 H3;exact bG 0 _ _ omQ ⟨rfl,.inr ⟨rfl,by show(4:Int)≠0;decide,by show(4:Int)≠1;decide,nx,H3⟩⟩
 |succ left=>
  refine qj omQ (qJ ?_);rw[vR,iQ h0]at li;have au:i<l.length:=by omega
  have S:=XP F G hi au omQ (Q.at au).2 (Q.at au).1;have P:=qwH F G hi au (Q.at au).1;refine qK (qQ (qZ H1 (b:=x) .here rfl ?_));rw[hi];refine qb omQ (qK (qQ ?_));refine qw H1 (b:=x) .here ⟨rfl,rfl⟩ (by show 16<19;omega) λh3 H3=>?_;refine qK (qQ (qQ (qZ H3 (b:=x) .here rfl ?_)));refine qK (qQ (qZ H3 (b:=x) .here rfl ?_));rw[hi];refine zd (l:=zM l[i]) (H3.sl e_1) au omQ (Xb au) ?_;have H4:HS g h3 (aH x v l 0 (qP l) s 0 0 ((left+1:Nat):Int) (s.pc+1)::ae v V::R):=aH.I (c:=c) (mv:=mv) (ov:=ov) (o:=q) (by rw[hi]at H3 ⊢;exact H3);clear H H1 H3;rw[← y6 au];refine qV (qwe omQ P H4) ?_;rintro _ h5 ⟨rfl,H5⟩;rw[hi]at li;generalize bK (qP l) s V (qR l i)=D at*;refine qW ?_
  try dsimp only
  obtain⟨c,mv,ov,q,H6⟩:=aH.E H5;by_cases h1:D.e=0
  ·refine qg h1 (qX ?_);rw[iJ h1]at li;refine qK (qQ (qZ H6 (b:=x) .here rfl ?_));refine qK (qQ ?_);refine qw H6 (b:=x) .here ⟨rfl,rfl⟩ (by show 15<19;omega) λh7 H7=>?_;refine qK (qQ (qZ H7 (b:=x) .here rfl ?_));refine zD omQ (qK (qQ ?_));rw[show((left+1:Nat):Int)-((1:Nat):Int)=(left:Int) by omega];refine qw H7 (b:=x) .here ⟨rfl,rfl⟩ (by show 17<19;omega) λh8 H8=>?_;have H9:HS g h8 (aH x v l 0 (qP l) { D.s with pc:=D.nx } 0 (if D.bp=true then 3 else 0) left D.nx::ae v D.v::R):=aH.I (s:={ D.s with pc:=D.nx }) (c:=c) (mv:=mv) (ov:=ov) (o:=q) H8;clear H6 H7 H8 H5;cases h2:D.bp with
   |true=>rw[h2,iJ rfl]at li;rw[h2,iJ rfl]at H9;subst li;exact bG 0 _ _ omQ ⟨rfl,.inr ⟨rfl,by show(3:Int)≠0;decide,by show(3:Int)≠1;decide,D.nx,H9⟩⟩
   |false=>rw[h2,iQ aN]at li;rw[h2,iQ aN]at H9;have:=S.fr;exact bG (left+1) _ _ omQ ⟨rfl,.inl ⟨_,D.v,left,D.nx,rfl,by omega,S.next h1 h2,by omega,li,H9⟩⟩
  ·refine qj h1 (qJ ?_);rw[iQ h1]at li;have hb:D.bp=false:=by
    cases hb:D.bp with
    |false=>rfl
    |true=>exact absurd (S.bl hb) h1
   rw[hb,iQ aN]at H5;by_cases cD:D.e=11
   ·rw[iJ cD]at li;subst li;refine qg cD (qX ?_);refine qk (qG ⟨rfl,D.nx,?_⟩);rw[iJ rfl];exact H5
   ·rw[iQ cD]at li;subst li;refine qj cD (qJ ?_);refine qV (OF omQ H5) ?_;intro _ h7 H7;exact bG 0 _ _ omQ ⟨rfl,.inr ⟨rfl,by show(4:Int)≠0;decide,by show(4:Int)≠1;decide,D.nx,H7⟩⟩
end
end
section
variable {g h:AH} {L R:List SP}
def Ko (l:List qT):List Int:=if(zf l).2=0 then qP l else[]
theorem qQI {n:Nat} (hn:7≤n) {l:List qT} {sv:AV} (H:HS g h R) (S:Rd g R 5 l.length sv (l.flatMap zM)) (hl:l.length≤100) :
  aA n 120 [.agg [sv]] h λv h'=>HS g h' (qB 3 1 (Ko l).length v ((Ko l).map (.int .i64))::R):=by
 refine ay (S:=S120) rfl omQ λk hk=>?_;unfold S120;try simp only[iZ]
 refine qO H (yn (Qj (S.sl H))) λb0 h1 H1=>?_;have DN:=(S.sl H).pd;clear H;refine qF H1 (b:=b0) (off:=0) .here rfl omQ rfl ?_;refine qV (Md omQ H1 S.more hl) ?_;rintro _ h2 ⟨rfl,H2⟩;clear H1;refine qD rfl ?_;refine qD rfl ?_;by_cases c0:(zf l).2=0
 rotate_left
 ·refine jQ c0 ?_;refine qX ?_;unfold Ko;rw[iQ c0];exact qG H2.drop.ak
 have hG:=UN c0;have F:=Jn c0;have hnr:=λ{j:Nat} (h:j<l.length)=>wJ F h;have hrg:=λ{j:Nat} (h:j<l.length)=>F.rh j h;unfold Ko;rw[iJ c0];have hM:qP l=hU l (vI l 0 []) l.length:=rfl;rw[hM];clear hM;refine qs c0 ?_;refine qJ (qF H2 (b:=b0) (off:=0) .here rfl omQ rfl ?_);refine qV (G0 omQ H2 S.more hG hl) ?_;intro av h3 H3;clear H2;refine qQ (qZ ‹_› e_1 rfl ?_);refine xo ‹_› ?_;refine J5 (n:=l.length) H3 omQ λev h4 H4=>?_;refine qo H4 .here ?_;clear H3;have hA:(vI l 0 []).length=l.length:=Kb;have dA:=λ{i:Nat}=>qwn (i:=i) hG;generalize vI l 0 []=A at*
 refine jL (λm s h'=>∃(i:Nat),s=(.int .i64 (i:Int),.int .i64 (l.length:Int),ev,av,.ptr b0 0,())∧i≤l.length∧m=l.length-i∧
  HS g h' (qB 3 1 l.length ev ((List.replicate i (-1:Int)++List.replicate (l.length-i) 0).map (.int .i64))::qB 3 1 l.length av (A.map (.int .i64))::qA b0 [sv]::R))
  ?_ (m:=l.length) (by show _<1000000000;omega) ⟨0,rfl,by omega,by omega,by rw[List.replicate_zero,List.nil_append,Nat.sub_zero,List.map_replicate];exact H4⟩
 clear H4;rintro m ih s h5 bG ⟨i,rfl,hi,rfl,H⟩;dsimp only;by_cases au:i<l.length
 ·refine jF omQ ?_;refine qX (X5 H au ⟨rfl,rfl⟩ λh6 H6=>?_);refine qb omQ ?_;have h0:(AV.int .i64 (Int.negSucc 0))=.int .i64 (-1):=rfl;rw[h0,← List.map_set]at H6;have es:(List.replicate i (-1:Int)++List.replicate (l.length-i) 0).set i (-1)=List.replicate (i+1) (-1:Int)++List.replicate (l.length-(i+1)) 0:=by
   rw[show l.length-i=(l.length-(i+1))+1 by omega,List.replicate_succ,List.set_append_right _ _ aN,List.length_replicate,Nat.sub_self,List.set_cons_zero,List.replicate_succ' (n:=i),List.append_assoc];rfl
  rw[es]at H6;exact bG (l.length-(i+1)) _ _ omQ ⟨i+1,rfl,by omega,rfl,H6⟩
 obtain rfl:i=l.length:=by omega
 clear bG;rw[Nat.sub_self,List.replicate_zero,List.append_nil]at H;have hL1:∀i,(lZ l A i).length=l.length:=λi=>ND i;have PN:∀i,(hU l A i).length=l.length:=λi=>Nz i;refine jV omQ ?_;refine qJ (qQ (qZ ‹_› e_2 rfl ?_));refine xo ‹_› ?_
 refine jL (λm s h'=>∃(i:Nat),s=(.int .i64 (i:Int),.int .i64 (l.length:Int),sv,ev,av,.ptr b0 0,())∧i≤l.length∧m=l.length-i∧
  HS g h' (qB 3 1 l.length ev ((lZ l A i).map (.int .i64))::qB 3 1 l.length av (A.map (.int .i64))::qA b0 [sv]::R))
  ?_ (m:=l.length) (by show _<1000000000;omega) ⟨0,rfl,by omega,by omega,H⟩
 clear H;rintro m ih s h6 bG ⟨i,rfl,hi,rfl,H⟩;dsimp only;by_cases au:i<l.length
 ·have iw:=Xb au;have uw:=dA au;have hrgi:=hrg au;have hnri:=hnr au;have dJ:lZ l A (i+1)=if 0<jt (qR l (i:Int)).1 then(lZ l A i).set (qE A (i:Int)).toNat i else lZ l A i:=rfl
  rw[y6 au]at dJ;generalize l[i]=x at*;refine jF omQ (qX ?_)
  refine jo [] (λs h'=>s=(.int .i64 (i:Int),.int .i64 (l.length:Int),sv,ev,av,.ptr b0 0,())∧
   HS g h' (qB 3 1 l.length ev ((lZ l A (i+1)).map (.int .i64))::qB 3 1 l.length av (A.map (.int .i64))::qA b0 [sv]::R)) ?_ ?_
  rotate_left
  ·rintro s h7 ⟨rfl,H7⟩;refine qb omQ ?_;exact bG (l.length-(i+1)) _ _ omQ ⟨i+1,rfl,by omega,rfl,H7⟩
  intro j hj;refine zd (S.sl H.drop.drop.drop) au omQ iw ?_;refine qO H rfl λb h7 H7=>?_;refine qh H7 (b:=b) .here rfl (by simp) rfl λh8 H8=>?_;have H8:HS g h8 (qA b [.int .i64 x.1,.int .i64 x.2.1,.int .i64 x.2.2.1,.int .i64 x.2.2.2.1,.int .u64 x.2.2.2.2]::qB 3 1 l.length ev ((lZ l A i).map (.int .i64))::qB 3 1 l.length av (A.map (.int .i64))::qA b0 [sv]::R):=H8;clear H H7;refine qQ (qZ ‹_› .here rfl ?_);refine qV (Y2 omQ) ?_;rintro _ h8 ⟨rfl,rfl⟩;by_cases he:0<jt x.1
  ·obtain⟨p,hp,nA⟩:=uw (.inl he);refine vQ he (qX ?_);refine jd (H8.sl e_2) (x:=.int .i64 (p:Int)) (by rw[List.getElem?_map,hp];rfl) ?_;refine X5 (H8.aG e_1) nA ⟨rfl,rfl⟩ λh9 H9=>?_;rw[← List.map_set]at H9;have Hp:qE A (i:Int)=p:=by unfold qE;rw[Int.toNat_natCast,hp];rfl
   rw[iJ he,Hp,Int.toNat_natCast]at dJ;rw[← dJ]at H9;exact hj _ _ ⟨rfl,H9.sub (.cons .here (.cons e_1 (.cons e_1 (.drop .refl))))⟩
  ·refine yQ he (qJ ?_);rw[iQ he]at dJ;exact hj _ _ ⟨rfl,by rw[dJ];exact H8.drop⟩
 obtain rfl:i=l.length:=by omega
 clear bG;refine jV omQ ?_;refine qJ (qQ (qZ ‹_› e_2 rfl ?_));refine xo ‹_› ?_
 refine jL (λm s h'=>∃(i:Nat),s=(.int .i64 (i:Int),.int .i64 (l.length:Int),sv,ev,av,())∧i≤l.length∧m=l.length-i∧
  HS g h' (qB 3 1 l.length ev ((hU l A i).map (.int .i64))::qB 3 1 l.length av (A.map (.int .i64))::qA b0 [sv]::R))
  ?_ (m:=l.length) (by show _<1000000000;omega) ⟨0,rfl,by omega,by omega,H⟩
 clear H;rintro m ih s h6 bG ⟨i,rfl,hi,rfl,H⟩;dsimp only;by_cases au:i<l.length
 ·have iw:=Xb au;have uw:=dA au;have dJ:hU l A (i+1)=if(qR l (i:Int)).1=16 then(hU l A i).set i (qE (hU l A i) (qE A (i:Int)))else hU l A i:=rfl
  rw[y6 au]at dJ;generalize l[i]=x at*;refine jF omQ (qX ?_)
  refine jo [] (λs h'=>s=(.int .i64 (i:Int),.int .i64 (l.length:Int),sv,ev,av,())∧
   HS g h' (qB 3 1 l.length ev ((hU l A (i+1)).map (.int .i64))::qB 3 1 l.length av (A.map (.int .i64))::qA b0 [sv]::R)) ?_ ?_
  rotate_left
  ·rintro s h7 ⟨rfl,H7⟩;refine qb omQ ?_;exact bG (l.length-(i+1)) _ _ omQ ⟨i+1,rfl,by omega,rfl,H7⟩
  intro j hj;refine zd (S.sl H.drop.drop.drop) au omQ iw ?_;refine qO H rfl λb h7 H7=>?_;refine qh H7 (b:=b) .here rfl (by simp) rfl λh8 H8=>?_;have H8:HS g h8 (qA b [.int .i64 x.1,.int .i64 x.2.1,.int .i64 x.2.2.1,.int .i64 x.2.2.2.1,.int .u64 x.2.2.2.2]::qB 3 1 l.length ev ((hU l A i).map (.int .i64))::qB 3 1 l.length av (A.map (.int .i64))::qA b0 [sv]::R):=H8;clear H H7;refine qQ (qZ ‹_› .here rfl ?_);by_cases he:x.1=16
  ·obtain⟨p,hp,nA⟩:=uw (.inr he);refine qg he (qX ?_);refine jd (H8.sl e_2) (x:=.int .i64 (p:Int)) (by rw[List.getElem?_map,hp];rfl) ?_;refine jd (H8.sl e_1) (x:=.int .i64 (qE (hU l A i) (p:Int))) (by rw[List.getElem?_map,gX (by rw[PN];exact nA)];rfl) ?_;refine X5 (H8.aG e_1) au ⟨rfl,rfl⟩ λh9 H9=>?_;rw[← List.map_set]at H9;have Hp:qE A (i:Int)=p:=by unfold qE;rw[Int.toNat_natCast,hp];rfl
   rw[iJ he,Hp]at dJ;rw[← dJ]at H9;exact hj _ _ ⟨rfl,H9.sub (.cons .here (.cons e_1 (.cons e_1 (.drop .refl))))⟩
  ·refine qj he (qJ ?_);rw[iQ he]at dJ;exact hj _ _ ⟨rfl,by rw[dJ];exact H8.drop⟩
 obtain rfl:i=l.length:=by omega
 refine jV omQ ?_;refine qJ (qk (qG ?_));rw[PN];exact H.sub (.cons .here (.drop (.drop .refl)))
def YU:IM:=⟨[0,0,0,0,0,0,0,0],[],0,[]⟩
theorem Jv {l:List qT} {V:VM} (h1:V.lv.length=1) (G:jg V):GI l YU V :=
 ⟨⟨⟨rfl,by intro z hz;simp[YU]at hz;subst hz;omega⟩,Nat.zero_le _,λx hx=>by cases hx⟩,⟨0,rfl,Nat.zero_le _⟩,(λp hp=>by cases hp),trivial,rfl,h1,G⟩
def zc (fuel:Int):Nat:=(max 0 (min fuel 400)).toNat
theorem qvH {n:Nat} (hn:8≤n) {l:List qT} {sv:AV} {v:Nat} {fuel:Int} (H:HS g h R) (S:Rd g R 5 l.length sv (l.flatMap zM)) (hl:l.length≤100) :
  aA n 96 [.agg [sv],.ptr v 0,.int .i64 fuel] h λr h'=>∃x,r=.ptr x 0∧HS g h' (aH x v l (zf l).2 (Ko l) YU 0 0 (zc fuel:Nat) 0 ::R):=by
 refine cL (S:=S96) rfl omQ λk hk=>?_;unfold S96;try simp only[iZ]
 refine qO H (yn (Qj (S.sl H))) λb0 h1 H1=>?_;refine qQ (qZ ‹_› .here rfl ?_);refine ja (H1.ak) (S.sl H1.drop) omQ omQ (Ou l) λcv h2 H2=>?_;rw[List.nil_append,Nat.zero_add]at H2;have oc:=H2.one .here;refine qQ (qw H2 (b:=b0) e_1 oc aN λh3 H3=>?_);have H3:HS g h3 (qA b0 [cv]::qB 56 5 l.length cv (l.flatMap zM)::R):=H3;refine qF H3 (b:=b0) (off:=0) .here rfl omQ rfl ?_;refine qV (Md omQ H3 (Rd.own e_1) hl) ?_;rintro _ h4 ⟨rfl,H4⟩;refine qD rfl ?_;refine qD rfl ?_;refine qW ?_;(try dsimp only)
 refine qF H4 (b:=b0) (off:=0) .here rfl omQ rfl ?_;refine qF H4 (b:=b0) (off:=0) .here rfl omQ rfl ?_;refine qV (qQI omQ H4 (Rd.own e_1) hl) ?_;intro mv h5 H5;have om:=H5.one .here;refine qV (Q':=λr h'=>∃o,r=.ptr o 0∧HS g h' (qA o [.ak]::qB 3 1 (Ko l).length mv ((Ko l).map (.int .i64))::qA b0 [cv]::qB 56 5 l.length cv (l.flatMap zM)::R)) ?_ ?_
 ·refine ub (S:=S121) rfl omQ λk hk=>?_;unfold S121;try simp only
  refine qM rfl ?_;exact qO H5 rfl λo h6 H6=>qG ⟨o,rfl,H6⟩
 rintro _ h6 ⟨o,rfl,H6⟩;refine zk (zn ?_);rw[show max ((0:Nat):Int) (min fuel ((400:Nat):Int))=((zc fuel:Nat):Int) by unfold zc;omega]
 refine qM (l:=vt cv mv .ak v o (zf l).2 0 0 (zc fuel:Nat) 0 0 [0,0,0,0,0,0,0,0]) (by
  have e:(AV.agg (List.take 1 (List.drop 0 [cv]))).cells=[cv]:=rfl
  simp only[yV,e,om.1];rfl) ?_
 refine qO H6 (by unfold vt;simp only[qn,List.all_cons,oc.2,om.2];rfl) λx h7 H7=>?_;refine zU H5 (b:=b0) e_1 rfl H6 e_2 rfl rfl omQ (HS.lt H4 .here) ?_;refine zU H4 (b:=b0) .here rfl H5 e_1 rfl rfl omQ (HS.lt H4 .here) ?_
 skip
 refine qG ⟨x,rfl,?_⟩;have H8:=(H7.ak (e:=20) (sz:=1)).ak (e:=289) (sz:=11)
 have H9:HS g h7 (bw o []::qB 289 11 0 .ak []::qA x (vt cv mv .ak v o (zf l).2 0 0 (zc fuel:Nat) 0 0 [0,0,0,0,0,0,0,0])::qB 3 1 (Ko l).length mv ((Ko l).map (.int .i64))::qA b0 [cv]::
  qB 56 5 l.length cv (l.flatMap zM)::R):=bw.I (l:=[]) (sv:=.ak) (H8.sub (.cons e_3 (.cons e_1 (.cons .here (.cons .here .refl)))))
 exact aH.I (s:=YU) (c:=cv) (mv:=mv) (ov:=.ak) (o:=o) (H9.sub (.cons e_2 (.cons e_4 (.cons e_2 (.cons .here (.cons .here (.drop .refl)))))))
section
variable {x v:Nat} {l:List qT} {bad:Int} {mt:List Int} {s:IM} {err fin left nx:Int}
end
end
end Go.Proofs.YtefichdddddacaaGreatDoor
