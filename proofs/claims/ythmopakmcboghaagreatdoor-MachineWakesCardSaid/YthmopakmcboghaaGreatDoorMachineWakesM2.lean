/- Lemmas for 'quietus/quietuslaw28.MachineWakes': Blocks of words: by the program;Blocks of words: by the documents own text;Numbers brought into bounds;Are two lists of numbers the same?;Are two lists of ... No condition. -/
import Derived.Test.YthmopakmcboghaaGreatDoorMachineWakesM1
import Derived.Test.YthmopakmcboghaaGreatDoorMachineWakesAe7
import Derived.Test.YthmopakmcboghaaGreatDoorMachineWakesT
import Derived.KernelRfl
import Derived.Lib.ItoaLen
import Derived.Lib.Join
namespace Go.Proofs.YthmopakmcboghaaGreatDoor
open Go Go.Ae
set_option maxRecDepth 100000
section
variable {g h:AH} {L R:List SP}
def vj (x:Int):Int:=if x=1 then 2 else if x=2 then 4 else if x=3 then 8 else if x=4 then 16 else 0
def xw (x:Int):Int:=if x<1 then 0 else if x≤2 then 1 else if x≤4 then 2 else if x≤8 then 3 else if x≤16 then 4 else 0
theorem My (x:Int):0≤vj x∧vj x≤16:=by unfold vj;repeat' split<;>omega
theorem ZQ (x:Int):0≤xw x∧xw x≤4:=by unfold xw;repeat' split<;>omega
structure nl (M:VM):Prop where
  k:∀c∈M.K,0≤c.2∧c.2<18446744073709551616
  l:∀x∈M.lv,∀c∈x.1,0≤c.2∧c.2<18446744073709551616
theorem VQ {P:Int→Prop} {p x:Int}:∀{l:List Cl},(∀c∈l,P c.2)→zU p l=some x→P x:=by
 intro l
 induction l with
 |nil=>intro _ h;cases h
 |cons c l ih=>
  intro h e;unfold zU at e
  split at e
  ·cases e;exact h c (iK ..)
  ·exact ih (λd hd=>h d (iX _ hd)) e
theorem qVA {P:Int→Prop} {p x:Int}:∀{lv:List bz},(∀y∈lv,∀c∈y.1,P c.2)→YN p lv=some x→P x:=by
 intro lv
 induction lv with
 |nil=>intro _ h;cases h
 |cons y r ih=>
  intro h e;unfold YN at e
  split at e
  ·rename_i v hv;cases e;exact VQ (h y (iK ..)) hv
  ·exact ih (λz hz=>h z (iX _ hz)) e
theorem nl.read {M:VM} {p:Int} (W:nl M):0≤(qe M p).1.1∧(qe M p).1.1<18446744073709551616:=by
 unfold qe
 split
 ·split
  ·rename_i x hx;exact qVA (P:=λx=>0≤x∧x<18446744073709551616) W.l hx
  ·split
   ·rename_i x hx;exact VQ (P:=λx=>0≤x∧x<18446744073709551616) W.k hx
   ·show(0:Int)≤0∧(0:Int)<18446744073709551616;omega
 ·show(0:Int)≤0∧(0:Int)<18446744073709551616;omega
theorem nl.lX {M:VM} {p:Int} (W:nl M):nl (qe M p).2:=by
 unfold qe
 repeat' split
 all_goals exact⟨W.k,W.l⟩
def fL (cs:List Cl):Prop:=∀c∈cs,0≤c.2∧c.2<18446744073709551616
theorem fL.put {l:List Cl} {p v:Int} (h:fL l) (hv:0≤v∧v<18446744073709551616):fL (yR p v l):=by
 induction l with
 |nil=>intro c hc;simp[yR]at hc;subst hc;exact hv
 |cons a l ih=>
  unfold yR
  split
  ·intro c hc;rcases List.mem_cons.1 hc with rfl |hc
   ·exact hv
   ·exact h c (iX _ hc)
  ·intro c hc;rcases List.mem_cons.1 hc with rfl |hc
   ·exact h _ (iK ..)
   ·exact ih (λc hc=>h c (iX _ hc)) c hc
theorem fL.nV:∀{cs l:List Cl},fL l→fL cs→fL (yM l cs):=by
 intro cs
 induction cs with
 |nil=>intro l h _;exact h
 |cons c cs ih=>intro l h hc;exact ih (h.put (hc c (iK ..))) λd hd=>hc d (iX _ hd)
theorem qWL {most:Nat} {aZ:List bz} (hw:∀x∈aZ,fL x.1):∀{cs:List Cl} {lv:List bz},fL cs→(∀x∈lv,fL x.1)→∀x∈(vV most aZ lv cs).2,fL x.1:=by
 intro cs
 induction cs with
 |nil=>intro lv _ h;exact h
 |cons c cs ih=>
  intro lv hc h;rw[vM]
  split
  ·refine ih (λd hd=>hc d (iX _ hd)) ?_;cases lv with
   |nil=>exact h
   |cons y r=>
    unfold vF;dsimp only
    split
    ·exact h
    ·split
     ·exact h
     ·intro x hx;rcases List.mem_cons.1 hx with rfl |hx
      ·exact(show fL y.1 from h y (iK ..)).put (hc c (iK ..))
      ·exact h x (iX _ hx)
  ·exact hw
theorem nl.take {M:VM} {cs:List Cl} (W:nl M) (hc:fL cs):nl (zV M cs).2:=by
 unfold zV
 split
 ·exact⟨W.k,qWL W.l hc W.l⟩
 ·exact W
def xo (M:VM) (c b:Int):(Int×Int)×VM :=
 if 2147483648≤b then((0,2),M)else
 if(qe M b).1.2=0 then
  (if(zV (qe M b).2 [(c,(qe M b).1.1),(b-1,c+8)]).1=0 then((b,0),(zV (qe M b).2 [(c,(qe M b).1.1),(b-1,c+8)]).2)
   else((0,(zV (qe M b).2 [(c,(qe M b).1.1),(b-1,c+8)]).1),(zV (qe M b).2 [(c,(qe M b).1.1),(b-1,c+8)]).2))
 else((0,(qe M b).1.2),(qe M b).2)
def xn (M:VM) (c:Int):(Int×Int)×VM :=
 if(qe M 5).1.2=0 then
  (if(qe M 5).1.1<14∨2147483648≤(qe M 5).1.1∨(M.sz:Int)<(qe M 5).1.1+1+vj c then((0,4),(qe M 5).2)
   else if(zV (qe M 5).2 [(5,(qe M 5).1.1+1+vj c),((qe M 5).1.1,c+8)]).1=0 then(((qe M 5).1.1+1,0),(zV (qe M 5).2 [(5,(qe M 5).1.1+1+vj c),((qe M 5).1.1,c+8)]).2)
   else((0,(zV (qe M 5).2 [(5,(qe M 5).1.1+1+vj c),((qe M 5).1.1,c+8)]).1),(zV (qe M 5).2 [(5,(qe M 5).1.1+1+vj c),((qe M 5).1.1,c+8)]).2))
 else((0,(qe M 5).1.2),(qe M 5).2)
def zd (M:VM) (n:Int):(Int×Int)×VM :=
 if xw n=0 then((0,3),M)else
 if(qe M (xw n)).1.2=0 then
  (if(qe M (xw n)).1.1=0 then xn (qe M (xw n)).2 (xw n)else xo (qe M (xw n)).2 (xw n) (qe M (xw n)).1.1)
 else((0,(qe M (xw n)).1.2),(qe M (xw n)).2)
def XD (w:Int):Int×Bool:=if 1≤w∧w≤4 then(w,false)else if 9≤w∧w≤12 then(w-8,true)else(0,false)
def jr (M:VM) (b:Int):(Int×Bool×Int)×VM :=
 if b≤14∨M.sz≤b then((0,false,2),M)else
 if(qe M (b-1)).1.2=0 then
  (if(XD (qe M (b-1)).1.1).1=0 then((0,false,2),(qe M (b-1)).2)else(((XD (qe M (b-1)).1.1).1,(XD (qe M (b-1)).1.1).2,0),(qe M (b-1)).2))
 else((0,false,(qe M (b-1)).1.2),(qe M (b-1)).2)
def vZ (M:VM) (b:Int):Int×VM :=
 if(jr M b).1.2.2=0 then
  (if(jr M b).1.2.1=true then
   (if(zV (jr M b).2 [(b-1,(jr M b).1.1)]).1=0 then(0,eO (zV (jr M b).2 [(b-1,(jr M b).1.1)]).2 b)else zV (jr M b).2 [(b-1,(jr M b).1.1)])
  else(2,(jr M b).2))
 else((jr M b).1.2.2,(jr M b).2)
def xE (M:VM) (b:Int):Int×VM :=
 if(jr M b).1.2.2=0 then
  (if(jr M b).1.2.1=true then(2,(jr M b).2)else
   if(qe (jr M b).2 (jr M b).1.1).1.2=0 then zV (qe (jr M b).2 (jr M b).1.1).2 [(b,(qe (jr M b).2 (jr M b).1.1).1.1),((jr M b).1.1,b)]
   else((qe (jr M b).2 (jr M b).1.1).1.2,(qe (jr M b).2 (jr M b).1.1).2))
 else((jr M b).1.2.2,(jr M b).2)
theorem qWE {M:VM} {p:Int}:(qe M p).2.sz=M.sz:=by
 unfold qe
 repeat' split
 all_goals rfl
theorem qjN (w:Int):0≤(XD w).1∧(XD w).1≤4:=by
 unfold XD
 repeat' split
 all_goals dsimp only
 all_goals omega
theorem Me (M:VM) (b:Int):0≤(jr M b).1.1∧(jr M b).1.1≤4∧((jr M b).1.2.2=0→14<b∧b<M.sz):=by
 unfold jr
 split
 ·exact⟨Int.le_refl 0,by show(0:Int)≤4;omega,λh=>by cases h⟩
 ·split
  ·split
   ·exact⟨Int.le_refl 0,by show(0:Int)≤4;omega,λh=>by cases h⟩
   ·have:=qjN (qe M (b-1)).1.1;exact⟨this.1,this.2,λ_=>by omega⟩
  ·exact⟨Int.le_refl 0,by show(0:Int)≤4;omega,λ_=>by omega⟩
theorem J4 {M:VM} {b:Int} (O:dz M):dz (jr M b).2:=by
 unfold jr
 split
 ·exact O
 ·split
  ·split<;>exact xd O
  ·exact xd O
theorem qxU {M:VM} {b:Int} (O:nl M):nl (jr M b).2:=by
 unfold jr
 split
 ·exact O
 ·split
  ·split<;>exact O.lX
  ·exact O.lX
theorem qYB {M:VM} {b:Int} (O:dz M) (hf:∀x∈M.lv,x.2.length+1<100000):dz (eO M b):=by
 refine⟨O.lo,O.hi,qWF O.ic,O.ins,O.un,?_⟩;show∀x∈JD M.lv b,x.2.length<100000;cases hl:M.lv with
 |nil=>intro x hx;cases hx
 |cons y r=>
  rw[hl]at hf;intro x hx;rcases List.mem_cons.1 hx with rfl |hx
  ·have:=hf y (iK ..);simpa using this
  ·have:=hf x (iX _ hx);omega
theorem Yi {n:Nat} (hn:1≤n) {x:Int}:aA n 330 [.int .i64 x] h λv h'=>v=.int .i64 (vj x)∧h'=h:=by
 refine aB (S:=S330) rfl omQ λk hk=>?_;unfold S330;try simp only[iZ]
 repeat' (first |with_reducible refine qZ ?_ |with_reducible refine qJ ?_ |(with_reducible refine qR ?_;try dsimp only) |(with_reducible refine jZ ?_;try dsimp only) |(with_reducible refine qS ?_;try dsimp only) |(with_reducible refine qc ?_;try dsimp only) |(with_reducible refine zF ?_;try dsimp only) |with_reducible refine qC ?_ |with_reducible refine qF ?_ |(with_reducible refine qW ?_;try dsimp only) |with_reducible refine qx ?_ |with_reducible refine jA ?_ |with_reducible refine jF ?_ |with_reducible refine qU omQ ?_ |with_reducible refine zB omQ ?_ |with_reducible refine ya omQ ?_ |with_reducible refine vu omQ ?_ |with_reducible refine zz ?_ |with_reducible refine zh ?_ |with_reducible refine xz (λhc=>?_) (λhc=>?_) |with_reducible refine wn (λhc=>?_) (λhc=>?_) |with_reducible refine QW (λhc=>?_) (λhc=>?_) |with_reducible refine yA (λhc=>?_) (λhc=>?_) |with_reducible refine vw (λhc=>?_) (λhc=>?_) |with_reducible refine yx (λhc=>?_) (λhc=>?_) |with_reducible refine gj (λhc=>?_) (λhc=>?_))
 ·refine qY ⟨?_,rfl⟩;unfold vj;congr 1;repeat' split<;>omega
 ·refine qY ⟨?_,rfl⟩;unfold vj;congr 1;repeat' split<;>omega
 ·refine qvb omQ ?_;refine qY ⟨?_,rfl⟩;rcases(show x=1∨x=2∨x=3∨x=4 by omega)with rfl |rfl |rfl |rfl<;>rfl
theorem qX2 {n:Nat} (hn:2≤n) {x:Int}:aA n 292 [.int .i64 x] h λv h'=>v=.int .i64 (xw x)∧h'=h:=by
 refine aB (S:=S292) rfl omQ λk hk=>?_;unfold S292;try simp only[iZ]
 repeat' (first |with_reducible refine qZ ?_ |with_reducible refine qJ ?_ |(with_reducible refine qR ?_;try dsimp only) |(with_reducible refine jZ ?_;try dsimp only) |(with_reducible refine qS ?_;try dsimp only) |(with_reducible refine qc ?_;try dsimp only) |(with_reducible refine zF ?_;try dsimp only) |with_reducible refine qC ?_ |with_reducible refine qF ?_ |(with_reducible refine qW ?_;try dsimp only) |with_reducible refine qx ?_ |with_reducible refine jA ?_ |with_reducible refine jF ?_ |with_reducible refine qU omQ ?_ |with_reducible refine zB omQ ?_ |with_reducible refine ya omQ ?_ |with_reducible refine vu omQ ?_ |with_reducible refine zz ?_ |with_reducible refine zh ?_ |with_reducible refine xz (λhc=>?_) (λhc=>?_) |with_reducible refine wn (λhc=>?_) (λhc=>?_) |with_reducible refine QW (λhc=>?_) (λhc=>?_) |with_reducible refine yA (λhc=>?_) (λhc=>?_) |with_reducible refine vw (λhc=>?_) (λhc=>?_) |with_reducible refine yx (λhc=>?_) (λhc=>?_) |with_reducible refine gj (λhc=>?_) (λhc=>?_))
 ·refine qY ⟨?_,rfl⟩;unfold xw;congr 1;repeat' split<;>omega
 ·refine jR (λm s g=>∃i:Int,s=(.int .i64 i,.int .i64 x,())∧1≤i∧i≤5∧(m:Int)=5-i∧g=h∧(1<i→2<x)∧(2<i→4<x)∧(3<i→8<x)∧(4<i→16<x)) ?_ (m:=4) od ⟨1,rfl,by omega,by omega,by omega,rfl,by omega,by omega,by omega,by omega⟩;rintro m ih s g bF ⟨i,rfl,h1,h2,h3,rfl,h4,h5,h6,h7⟩;dsimp only
  repeat' (first |with_reducible refine qZ ?_ |with_reducible refine qJ ?_ |(with_reducible refine qR ?_;try dsimp only) |(with_reducible refine jZ ?_;try dsimp only) |(with_reducible refine qS ?_;try dsimp only) |(with_reducible refine qc ?_;try dsimp only) |(with_reducible refine zF ?_;try dsimp only) |with_reducible refine qC ?_ |with_reducible refine qF ?_ |(with_reducible refine qW ?_;try dsimp only) |with_reducible refine qx ?_ |with_reducible refine jA ?_ |with_reducible refine jF ?_ |with_reducible refine qU omQ ?_ |with_reducible refine zB omQ ?_ |with_reducible refine ya omQ ?_ |with_reducible refine vu omQ ?_ |with_reducible refine zz ?_ |with_reducible refine zh ?_ |with_reducible refine xz (λhc=>?_) (λhc=>?_) |with_reducible refine wn (λhc=>?_) (λhc=>?_) |with_reducible refine QW (λhc=>?_) (λhc=>?_) |with_reducible refine yA (λhc=>?_) (λhc=>?_) |with_reducible refine vw (λhc=>?_) (λhc=>?_) |with_reducible refine yx (λhc=>?_) (λhc=>?_) |with_reducible refine gj (λhc=>?_) (λhc=>?_))
  ·refine qG (Yi omQ) ?_;rintro v g' ⟨rfl,rfl⟩
   repeat' (first |with_reducible refine qZ ?_ |with_reducible refine qJ ?_ |(with_reducible refine qR ?_;try dsimp only) |(with_reducible refine jZ ?_;try dsimp only) |(with_reducible refine qS ?_;try dsimp only) |(with_reducible refine qc ?_;try dsimp only) |(with_reducible refine zF ?_;try dsimp only) |with_reducible refine qC ?_ |with_reducible refine qF ?_ |(with_reducible refine qW ?_;try dsimp only) |with_reducible refine qx ?_ |with_reducible refine jA ?_ |with_reducible refine jF ?_ |with_reducible refine qU omQ ?_ |with_reducible refine zB omQ ?_ |with_reducible refine ya omQ ?_ |with_reducible refine vu omQ ?_ |with_reducible refine zz ?_ |with_reducible refine zh ?_ |with_reducible refine xz (λhc=>?_) (λhc=>?_) |with_reducible refine wn (λhc=>?_) (λhc=>?_) |with_reducible refine QW (λhc=>?_) (λhc=>?_) |with_reducible refine yA (λhc=>?_) (λhc=>?_) |with_reducible refine vw (λhc=>?_) (λhc=>?_) |with_reducible refine yx (λhc=>?_) (λhc=>?_) |with_reducible refine gj (λhc=>?_) (λhc=>?_))
   ·refine qY ⟨?_,rfl⟩;unfold vj at*;unfold xw;congr 1;repeat' split<;>omega
   ·refine bF (m-1) _ _ omQ ⟨i+1,rfl,by omega,by omega,by omega,rfl,?_,?_,?_,?_⟩<;>(unfold vj at*;repeat' split at* <;>omega)
  ·refine qY ⟨?_,rfl⟩;unfold xw;congr 1;repeat' split<;>omega
theorem YC {n:Nat} (hn:1≤n) {c:Int} (hc:0≤c∧c≤4):aA n 163 [.int .i64 c] h λv h'=>v=.int .i64 c∧h'=h:=by
 refine aB (S:=S163) rfl omQ λk hk=>?_;unfold S163;try simp only[iZ]
 refine qU omQ ?_;exact qY ⟨by congr 1;omega,rfl⟩
theorem Z6 {n:Nat} (hn:1≤n) {w:Int}:aA n 194 [.int .u64 w] h λv h'=>v=.bJ [.int .i64 (XD w).1,.bool (XD w).2]∧h'=h:=by
 refine aB (S:=S194) rfl omQ λk hk=>?_;unfold S194;try simp only[iZ]
 unfold XD;by_cases h1:1≤w∧w≤4
 ·rw[iJ h1];refine zy omQ ?_;refine qW ?_;(try dsimp only);refine qR ?_;(try dsimp only);refine Qt omQ ?_;refine qC (qZ (xV omQ ?_))
  exact qY ⟨rfl,rfl⟩
 ·rw[iQ h1];by_cases h2:9≤w∧w≤12
  ·rw[iJ h2];refine zy omQ ?_;refine qW ?_;(try dsimp only);refine qR ?_;(try dsimp only);refine Jt omQ ?_;refine qC (qJ (zy omQ ?_));refine qW ?_;(try dsimp only);refine qR ?_;(try dsimp only);refine Qt omQ ?_;refine qC (qZ (vu omQ ?_));refine xV omQ ?_
   exact qY ⟨rfl,rfl⟩
  ·rw[iQ h2]
   repeat' (first |with_reducible refine qZ ?_ |with_reducible refine qJ ?_ |(with_reducible refine qR ?_;try dsimp only) |(with_reducible refine jZ ?_;try dsimp only) |(with_reducible refine qS ?_;try dsimp only) |(with_reducible refine qc ?_;try dsimp only) |(with_reducible refine zF ?_;try dsimp only) |with_reducible refine qC ?_ |with_reducible refine qF ?_ |(with_reducible refine qW ?_;try dsimp only) |with_reducible refine qx ?_ |with_reducible refine jA ?_ |with_reducible refine jF ?_ |with_reducible refine qU omQ ?_ |with_reducible refine zB omQ ?_ |with_reducible refine ya omQ ?_ |with_reducible refine vu omQ ?_ |with_reducible refine zz ?_ |with_reducible refine zh ?_ |with_reducible refine qk omQ ?_ |with_reducible refine qj omQ ?_ |with_reducible refine jQ omQ ?_ |with_reducible refine jJ omQ ?_ |with_reducible refine jH omQ ?_ |with_reducible refine jz omQ ?_ |with_reducible refine Qt omQ ?_ |with_reducible refine Jt omQ ?_ |with_reducible refine y8 omQ ?_ |with_reducible refine yU omQ ?_ |with_reducible refine zy omQ ?_ |with_reducible refine zY omQ ?_ |with_reducible refine xz (λhc=>?_) (λhc=>?_) |with_reducible refine wn (λhc=>?_) (λhc=>?_) |with_reducible refine QW (λhc=>?_) (λhc=>?_) |with_reducible refine yA (λhc=>?_) (λhc=>?_) |with_reducible refine vw (λhc=>?_) (λhc=>?_) |with_reducible refine yx (λhc=>?_) (λhc=>?_) |with_reducible refine gj (λhc=>?_) (λhc=>?_))
   all_goals exact qY ⟨rfl,rfl⟩
theorem Mx {n:Nat} (hn:10≤n) {v:Nat} {M:VM} {b:Int} (H:HS g h (ab v M::R)) (O:dz M) :
  aA n 161 [.ptr v 0,.int .i64 b] h λr h'=>r=.bJ [.int .i64 (jr M b).1.1,.bool (jr M b).1.2.1,.int .i64 (jr M b).1.2.2]∧HS g h' (ab v (jr M b).2::R):=by
 refine ba (S:=S161) rfl omQ λk hk=>?_;unfold S161;try simp only[iZ]
 unfold jr;by_cases h1:b≤14
 ·rw[iJ (.inl h1)];refine Qt omQ ?_;refine qW ?_;(try dsimp only);refine jZ ?_;(try dsimp only);refine qC (qZ ?_)
  exact qY ⟨rfl,H⟩
 ·refine Jt omQ ?_;refine qW ?_;(try dsimp only);refine qc ?_;(try dsimp only)
  refine qG (K3 omQ H) ?_;rintro _ _ ⟨rfl,rfl⟩;by_cases h2:(M.sz:Int)≤b
  ·rw[iJ (.inr h2)];refine zy omQ ?_;refine qF (qZ ?_);exact qY ⟨rfl,H⟩
  ·rw[iQ omQ];refine zY omQ ?_;refine qF (qJ ?_);have:=O.hi;refine zB omQ (qG (QU omQ H O) ?_);rintro _ h3 ⟨rfl,H3⟩;simp only[show((1:Nat):Int)=1 from rfl]at H3 ⊢;refine qB rfl ?_;refine qB rfl ?_;by_cases h4:(qe M (b-1)).1.2=0
   ·rw[iJ h4];refine jJ omQ ?_;refine qJ (qG (Z6 omQ) ?_);rintro _ _ ⟨rfl,rfl⟩;refine qB rfl ?_;refine qB rfl ?_;by_cases h5:(XD (qe M (b-1)).1.1).1=0
    ·rw[iJ h5];refine qk omQ ?_;refine qZ ?_;exact qY ⟨rfl,H3⟩
    ·rw[iQ h5];refine qj omQ ?_;refine qJ ?_;exact qY ⟨rfl,H3⟩
   ·rw[iQ h4];refine jQ omQ ?_;refine qZ ?_;exact qY ⟨rfl,H3⟩
theorem qVt {n:Nat} (hn:11≤n) {v:Nat} {M:VM} {b:Int} (H:HS g h (ab v M::R)) (O:dz M) :
  aA n 227 [.ptr v 0,.int .i64 b] h λr h'=>r=.int .i64 (vZ M b).1∧HS g h' (ab v (vZ M b).2::R):=by
 refine ba (S:=S227) rfl omQ λk hk=>?_;unfold S227;try simp only[iZ]
 refine qG (Mx omQ H O) ?_;rintro _ h1 ⟨rfl,H1⟩;have hb:=Me M b;have hO:=J4 (b:=b) O;have:=O.hi;unfold vZ;refine qB rfl ?_;refine qB rfl ?_;refine qB rfl ?_;refine qW ?_;(try dsimp only)
 by_cases h2:(jr M b).1.2.2=0
 ·rw[iJ h2];refine qk omQ ?_;refine qW ?_;(try dsimp only);refine qR ?_;(try dsimp only)
  cases h3:(jr M b).1.2.1
  ·rw[iQ aN];refine jF (qC (qZ (qW ?_)));(try dsimp only);refine qj omQ ?_;refine qJ (qW ?_);(try dsimp only);refine qj omQ ?_;refine qJ (qx ?_)
   exact qY ⟨rfl,H1⟩
  ·rw[iJ rfl];refine jA (qC (qJ (qW ?_)));(try dsimp only);refine qk omQ ?_;refine qZ (zB omQ ?_);refine gc omQ ?_;refine qL rfl ?_
   simp only[show((1:Nat):Int)=1 from rfl];refine(qf (n:=1) (l:=[.int .i64 (b-1),.int .u64 (jr M b).1.1]) (sz:=2) H1 rfl rfl rfl rfl λv3 h3 H3=>?_);refine qG (Yd (cs:=[(b-1,(jr M b).1.1)]) omQ (H3.aI e_1) hO (.own .here) aN) ?_;rintro _ h4 ⟨rfl,H4⟩;by_cases h5:(zV (jr M b).2 [(b-1,(jr M b).1.1)]).1=0
   ·rw[iJ h5];refine qW ?_;(try dsimp only);refine qk omQ ?_;refine qZ ?_
    refine qG (qWC omQ H4 (OV hO)) ?_;intro _ h6 H6;refine qx ?_;exact qY ⟨by rw[h5],H6.sub (.cons .here (.drop (.refl)))⟩
   ·rw[iQ h5];refine qW ?_;(try dsimp only);refine qj omQ ?_;refine qJ (qx ?_)
    exact qY ⟨rfl,H4.sub (.cons .here (.drop (.refl)))⟩
 ·rw[iQ h2];refine qj omQ ?_;refine qW ?_;(try dsimp only);refine qS ?_;(try dsimp only);refine qF (qJ (qW ?_));(try dsimp only);refine qj omQ ?_;refine qJ (qW ?_);(try dsimp only);refine qj omQ ?_;refine qJ (qx ?_)
  exact qY ⟨rfl,H1⟩
theorem qV2 {n:Nat} (hn:11≤n) {v:Nat} {M:VM} {b:Int} (H:HS g h (ab v M::R)) (O:dz M) :
  aA n 135 [.ptr v 0,.int .i64 b] h λr h'=>r=.int .i64 (xE M b).1∧HS g h' (ab v (xE M b).2::R):=by
 refine ba (S:=S135) rfl omQ λk hk=>?_;unfold S135;try simp only[iZ]
 refine qG (Mx omQ H O) ?_;rintro _ h1 ⟨rfl,H1⟩;have hb:=Me M b;have hO:=J4 (b:=b) O;have:=O.hi;unfold xE;refine qB rfl ?_;refine qB rfl ?_;refine qB rfl ?_;refine qW ?_;(try dsimp only)
 by_cases h2:(jr M b).1.2.2=0
 ·rw[iJ h2];refine qk omQ ?_;refine qW ?_;(try dsimp only);refine qR ?_;(try dsimp only);refine qC ?_
  cases h3:(jr M b).1.2.1
  ·rw[iQ aN];refine qJ (jJ omQ ?_);refine qJ (qG (YC omQ omQ) ?_);rintro _ _ ⟨rfl,rfl⟩;refine qG (QU omQ H1 hO) ?_;rintro _ h4 ⟨rfl,H4⟩;refine qB rfl ?_;refine qB rfl ?_;by_cases h5:(qe (jr M b).2 (jr M b).1.1).1.2=0
   ·rw[iJ h5];refine jJ omQ ?_;refine qJ (qL rfl ?_);refine qG (YC omQ omQ) ?_;rintro _ _ ⟨rfl,rfl⟩;refine gc omQ ?_;refine qL rfl (qf (n:=2) (l:=[.int .i64 b,.int .u64 (qe (jr M b).2 (jr M b).1.1).1.1,.int .i64 (jr M b).1.1,.int .u64 b]) (sz:=2) H4 rfl rfl rfl rfl λv5 h5 H5=>?_);refine qG (Yd (cs:=[(b,(qe (jr M b).2 (jr M b).1.1).1.1),((jr M b).1.1,b)]) omQ (H5.aI e_1) (xd hO) (.own .here) aN) ?_;rintro _ h6 ⟨rfl,H6⟩;refine qx ?_;exact qY ⟨rfl,H6.sub (.cons .here (.drop (.refl)))⟩
   ·rw[iQ h5];refine jQ omQ ?_;refine qZ (qx ?_);exact qY ⟨rfl,H4⟩
  ·rw[iJ rfl];refine qZ (jQ omQ ?_);refine qZ (qx ?_);exact qY ⟨rfl,H1⟩
 ·rw[iQ h2];refine qj omQ ?_;refine qW ?_;(try dsimp only);refine qS ?_;(try dsimp only);refine qF (qJ (jQ omQ ?_));refine qZ (qx ?_)
  exact qY ⟨rfl,H1⟩
theorem qXA {n:Nat} (hn:10≤n) {v:Nat} {M:VM} {c b:Int} (H:HS g h (ab v M::R)) (O:dz M) (hc:1≤c∧c≤4) (hb:0≤b) :
  aA n 293 [.ptr v 0,.int .i64 c,.int .u64 b] h λr h'=>r=.bJ [.int .i64 (xo M c b).1.1,.int .i64 (xo M c b).1.2]∧HS g h' (ab v (xo M c b).2::R):=by
 refine cL (S:=S293) rfl omQ λk hk=>?_;unfold S293;try simp only[iZ]
 unfold xo;by_cases h1:2147483648≤b
 ·rw[iJ h1];refine zy omQ ?_;refine qZ ?_;exact qY ⟨rfl,H⟩
 ·rw[iQ h1];refine zY omQ ?_;refine qJ (xV omQ ?_);refine qG (QU omQ H O) ?_;rintro _ h3 ⟨rfl,H3⟩;refine qB rfl ?_;refine qB rfl ?_;refine qW ?_;(try dsimp only)
  by_cases h4:(qe M b).1.2=0
  ·rw[iJ h4];refine qk omQ ?_;refine qZ (qG (YC omQ omQ) ?_);rintro _ _ ⟨rfl,rfl⟩;refine qL rfl (zB omQ (qU omQ (gc omQ (qL rfl ?_))));refine qf (n:=2) (l:=[.int .i64 c,.int .u64 (qe M b).1.1,.int .i64 (b-1),.int .u64 (c+8)]) (sz:=2) H3 rfl rfl rfl rfl λv5 h5 H5=>?_;refine qG (Yd (cs:=[(c,(qe M b).1.1),(b-1,c+8)]) omQ (H5.aI e_1) (xd O) (.own .here) aN) ?_;rintro _ h6 ⟨rfl,H6⟩;by_cases h7:(zV (qe M b).2 [(c,(qe M b).1.1),(b-1,c+8)]).1=0
   ·rw[iJ h7];refine jJ omQ ?_;refine qJ (qx ?_);exact qY ⟨rfl,H6.sub (.cons .here (.drop (.refl)))⟩
   ·rw[iQ h7];refine jQ omQ ?_;refine qZ (qx ?_);exact qY ⟨rfl,H6.sub (.cons .here (.drop (.refl)))⟩
  ·rw[iQ h4];refine qj omQ ?_;refine qJ (jQ omQ ?_);refine qZ (qx ?_);exact qY ⟨rfl,H3⟩
theorem qXD {n:Nat} (hn:10≤n) {v:Nat} {M:VM} {c:Int} (H:HS g h (ab v M::R)) (O:dz M) (W:nl M) (hc:1≤c∧c≤4) :
  aA n 294 [.ptr v 0,.int .i64 c] h λr h'=>r=.bJ [.int .i64 (xn M c).1.1,.int .i64 (xn M c).1.2]∧HS g h' (ab v (xn M c).2::R):=by
 refine ba (S:=S294) rfl omQ λk hk=>?_;unfold S294;try simp only[iZ]
 unfold xn;refine qG (QU omQ H O) ?_;rintro _ h3 ⟨rfl,H3⟩;have hw:=W.read (p:=5);simp only[show((5:Nat):Int)=5 from rfl]at H3 ⊢;have hs:=My c;have hO:=O.hi;refine qB rfl ?_;refine qB rfl ?_;by_cases h4:(qe M 5).1.2=0
 ·rw[iJ h4];refine jJ omQ ?_;refine qJ ?_;have bw:(qe M 5).2.sz=M.sz:=qWE;by_cases h5:(qe M 5).1.1<14∨2147483648≤(qe M 5).1.1∨(M.sz:Int)<(qe M 5).1.1+1+vj c
  ·rw[iJ h5];by_cases h6:(qe M 5).1.1<14
   ·refine jH omQ ?_;refine qW ?_;(try dsimp only);refine jZ ?_;(try dsimp only);refine qC (qW ?_);(try dsimp only);refine jZ ?_;(try dsimp only);refine qC (qZ ?_)
    exact qY ⟨rfl,H3⟩
   ·by_cases h7:2147483648≤(qe M 5).1.1
    ·refine jz omQ ?_;refine qW ?_;(try dsimp only);refine qc ?_;(try dsimp only);refine zy omQ ?_;refine qF (qW ?_);(try dsimp only);refine jZ ?_;(try dsimp only);refine qC (qZ ?_)
     exact qY ⟨rfl,H3⟩
    ·refine jz omQ ?_;refine qW ?_;(try dsimp only);refine qc ?_;(try dsimp only);refine zY omQ ?_;refine qF (qW ?_);(try dsimp only);refine qc ?_;(try dsimp only);refine xV omQ ?_;refine qU omQ ?_
     refine qG (Yi omQ) ?_;rintro _ _ ⟨rfl,rfl⟩;refine qU omQ ?_;refine qG (K3 omQ H3) ?_;rintro _ _ ⟨rfl,rfl⟩;rw[bw];refine y8 omQ ?_;refine qF (qZ ?_);exact qY ⟨rfl,H3⟩
  ·rw[iQ h5];refine jz omQ ?_;refine qW ?_;(try dsimp only);refine qc ?_;(try dsimp only);refine zY omQ ?_;refine qF (qW ?_);(try dsimp only);refine qc ?_;(try dsimp only);refine xV omQ ?_;refine qU omQ ?_
   refine qG (Yi omQ) ?_;rintro _ _ ⟨rfl,rfl⟩;refine qU omQ ?_;refine qG (K3 omQ H3) ?_;rintro _ _ ⟨rfl,rfl⟩;rw[bw];refine yU omQ ?_;refine qF (qJ (xV omQ ?_));refine qU omQ ?_;refine qG (Yi omQ) ?_;rintro _ _ ⟨rfl,rfl⟩;refine qU omQ (gc omQ (qL rfl (qU omQ (gc omQ (qL rfl ?_)))));refine qf (n:=2) (l:=[.int .i64 5,.int .u64 ((qe M 5).1.1+1+vj c),.int .i64 (qe M 5).1.1,.int .u64 (c+8)]) (sz:=2) H3 rfl rfl rfl rfl λv5 h5 H5=>?_;refine qG (Yd (cs:=[(5,(qe M 5).1.1+1+vj c),((qe M 5).1.1,c+8)]) omQ (H5.aI e_1) (xd O) (.own .here) aN) ?_;rintro _ h6 ⟨rfl,H6⟩;by_cases h7:(zV (qe M 5).2 [(5,(qe M 5).1.1+1+vj c),((qe M 5).1.1,c+8)]).1=0
   ·rw[iJ h7];refine jJ omQ ?_;refine qJ (qU omQ ?_);exact qY ⟨rfl,H6.sub (.cons .here (.drop (.refl)))⟩
   ·rw[iQ h7];refine jQ omQ ?_;refine qZ ?_;exact qY ⟨rfl,H6.sub (.cons .here (.drop (.refl)))⟩
 ·rw[iQ h4];refine jQ omQ ?_;refine qZ ?_;exact qY ⟨rfl,H3⟩
theorem qZn {n:Nat} (hn:11≤n) {v:Nat} {M:VM} {x:Int} (H:HS g h (ab v M::R)) (O:dz M) (W:nl M) :
  aA n 226 [.ptr v 0,.int .i64 x] h λr h'=>r=.bJ [.int .i64 (zd M x).1.1,.int .i64 (zd M x).1.2]∧HS g h' (ab v (zd M x).2::R):=by
 refine ba (S:=S226) rfl omQ λk hk=>?_;unfold S226;try simp only[iZ]
 refine qG (qX2 omQ) ?_;rintro _ _ ⟨rfl,rfl⟩;have hc:=ZQ x;unfold zd;by_cases h1:xw x=0
 ·rw[iJ h1];refine qk omQ ?_;refine qZ ?_;exact qY ⟨rfl,H⟩
 ·rw[iQ h1];refine qj omQ ?_;refine qJ (qG (YC omQ hc) ?_);rintro _ _ ⟨rfl,rfl⟩;refine qG (QU omQ H O) ?_;rintro _ h3 ⟨rfl,H3⟩;have hw:=W.read (p:=xw x);refine qB rfl ?_;refine qB rfl ?_;by_cases h4:(qe M (xw x)).1.2=0
  ·rw[iJ h4];by_cases h5:(qe M (xw x)).1.1=0
   ·rw[iJ h5];refine jJ omQ ?_;refine qJ (jJ omQ ?_);refine qJ (qG (qXD omQ H3 (xd O) W.lX omQ) ?_);rintro _ h6 ⟨rfl,H6⟩;refine qB rfl ?_;refine qB rfl ?_;exact qY ⟨rfl,H6⟩
   ·rw[iQ h5];refine jJ omQ ?_;refine qJ (jQ omQ ?_);refine qZ (qG (qXA omQ H3 (xd O) omQ hw.1) ?_);rintro _ h6 ⟨rfl,H6⟩;refine qB rfl ?_;refine qB rfl ?_;exact qY ⟨rfl,H6⟩
  ·rw[iQ h4];refine jQ omQ ?_;refine qZ ?_;exact qY ⟨rfl,H3⟩
def KS (n:Int):List Int:=(List.replicate (iF n) (0:Int)).set 5 14
theorem qXO {n:Nat} (hn:1≤n) {x:Int} (H:HS g h R):aA n 24 [.int .i64 x] h λv h'=>∃e,HS g h' (qD e 1 (iF x) v ((KS x).map (.int .u64))::R):=by
 refine aB (S:=S24) rfl omQ λk hk=>?_;unfold S24;try simp only[iZ]
 have hb:=DG x;refine zz (zh ?_);rw[show max ((32:Nat):Int) (min x ((256:Nat):Int))=((iF x:Nat):Int) by unfold iF;omega];refine JO H omQ λv h2 H2=>?_;refine XR (i:=5) H2 omQ ⟨rfl,rfl⟩ λh3 H3=>?_;unfold KS;rw[List.map_set,List.map_replicate];exact qY ⟨_,H3⟩
end
section
variable {g h:AH} {L R:List SP}
end
section
theorem LG {l:List ES} {a b:List AV} {K:AV→Go.Ae.R} {Q:AV→AH→Prop} {neg:Bool} {p:Prop} [Decidable p] (e:xk l a b=some (decide p)) (h1:p→wp (K (.bool (!neg))) Q) (h2:¬p→wp (K (.bool neg)) Q):wp (GG l neg (.agg a) (.agg b) K) Q:=by
 unfold GG;simp only[e,ob];by_cases h:p
 ·have:=h1 h;simpa[h]using this
 ·have:=h2 h;simpa[h]using this
end
section
variable {g h:AH} {L R:List SP}
def r0 (M M':VM):Prop:=M'.sz=M.sz∧M'.K=M.K∧M'.most=M.most∧(M'.aC=M.aC∨M'.lv=M.lv∧1≤M'.aC∧M'.aC<M.sz∧zU M'.aC M.K=none)
theorem r0.refl (M:VM):r0 M M:=⟨rfl,rfl,rfl,.inl rfl⟩
theorem Gv {M:VM} {p:Int} (h:(qe M p).1.2=0):(qe M p).2=M:=by
 unfold qe at h ⊢
 split
 ·rename_i h1;rw[iJ h1]at h
  split
  ·rfl
  ·rename_i h2;rw[h2]at h;dsimp only at h ⊢
   split
   ·rfl
   ·rename_i h3;rw[h3]at h;cases h
 ·rfl
theorem Kg (M:VM) (p:Int):r0 M (qe M p).2:=by
 unfold qe
 split
 ·rename_i h1
  split
  ·exact .refl M
  ·split
   ·exact .refl M
   ·rename_i h3;exact⟨rfl,rfl,rfl,.inr ⟨rfl,h1.1,h1.2,h3⟩⟩
 ·exact .refl M
theorem qxO (M:VM) (b:Int):r0 M (jr M b).2∧((jr M b).1.2.2=0→(jr M b).2=M):=by
 unfold jr
 split
 ·exact⟨.refl M,λ_=>rfl⟩
 ·split
  ·rename_i h1
   split
   ·exact⟨Kg M _,λ_=>Gv h1⟩
   ·exact⟨Kg M _,λ_=>Gv h1⟩
  ·rename_i h1;exact⟨Kg M _,λh=>absurd h h1⟩
theorem r4 {most:Nat} {lv:List bz} {p v:Int}:bK (vF most lv p v).2=bK lv:=by
 cases lv with
 |nil=>rfl
 |cons x r=>obtain⟨c,hc⟩:=GV (most:=most) (x:=x) (r:=r) (p:=p) (v:=v);rw[hc,kF,kF]
theorem qVT {most:Nat} {aZ:List bz}:∀{cs:List Cl} {lv:List bz},bK lv=bK aZ→bK (vV most aZ lv cs).2=bK aZ:=by
 intro cs
 induction cs with
 |nil=>intro lv h;exact h
 |cons c cs ih=>
  intro lv h;rw[vM]
  split
  ·exact ih (r4.trans h)
  ·rfl
theorem gC {M:VM} {cs:List Cl}:bK (zV M cs).2.lv=bK M.lv:=by
 unfold zV
 split
 ·exact qVT rfl
 ·rfl
theorem xe {M:VM} {p:Int}:bK (qe M p).2.lv=bK M.lv:=by
 unfold qe
 repeat' split
 all_goals rfl
theorem w4 {M:VM} {b:Int}:bK (jr M b).2.lv=bK M.lv:=by
 unfold jr
 repeat' split
 all_goals first |rfl |exact xe
theorem qX9 {lv:List bz} {b:Int}:bK (JD lv b)≤bK lv+1:=by
 cases lv with
 |nil=>simp[JD]
 |cons x r=>show bK ((x.1,x.2++[b])::r)≤_;rw[kF,kF,List.length_append];simp;omega
theorem LH:∀{lv:List bz} {x:bz},x∈lv→x.2.length≤bK lv:=by
 intro l
 induction l with
 |nil=>intro x hx;cases hx
 |cons y r ih=>
  intro x hx;rw[kF];rcases List.mem_cons.1 hx with rfl |hx
  ·omega
  ·have:=ih hx;omega
structure jL (M:VM):Prop where
  ok:dz M
  wd:nl M
theorem jL.read {M:VM} {p:Int} (G:jL M):jL (qe M p).2:=⟨xd G.ok,G.wd.lX⟩
theorem jL.take {M:VM} {cs:List Cl} (G:jL M) (h:fL cs):jL (zV M cs).2:=⟨OV G.ok,G.wd.take h⟩
theorem jL.ask {M:VM} {b:Int} (G:jL M):jL (jr M b).2:=⟨J4 G.ok,qxU G.wd⟩
theorem fL.two {a b:Cl} (ha:0≤a.2∧a.2<18446744073709551616) (hb:0≤b.2∧b.2<18446744073709551616):fL [a,b]:=by
 intro c hc;rcases List.mem_cons.1 hc with rfl |hc
 ·exact ha
 ·rw[List.mem_singleton]at hc;subst hc;exact hb
theorem fL.B9 {a:Cl} (ha:0≤a.2∧a.2<18446744073709551616):fL [a]:=by intro c hc;rw[List.mem_singleton]at hc;subst hc;exact ha
theorem jL.eO {M:VM} {b:Int} (G:jL M) (hf:bK M.lv<90000):jL (eO M b):=by
 refine⟨qYB G.ok λx hx=>by have:=LH hx;omega,G.wd.k,?_⟩;show∀x∈JD M.lv b,∀c∈x.1,0≤c.2∧c.2<18446744073709551616;have:=G.wd.l;cases hl:M.lv with
 |nil=>intro x hx;cases hx
 |cons y r=>
  rw[hl]at this;intro x hx;rcases List.mem_cons.1 hx with rfl |hx
  ·exact this y (iK ..)
  ·exact this x (iX _ hx)
theorem jL.free {M:VM} {b:Int} (G:jL M) (hf:bK M.lv<90000):jL (vZ M b).2∧bK (vZ M b).2.lv≤bK M.lv+1:=by
 have hb:=Me M b;have hc:fL [(b-1,(jr M b).1.1)]:=.B9 ⟨hb.1,by dsimp only;omega⟩;unfold vZ
 repeat' split
 ·refine⟨(G.ask.take hc).eO (by rw[gC,w4];exact hf),?_⟩;have:=qX9 (lv:=(zV (jr M b).2 [(b-1,(jr M b).1.1)]).2.lv) (b:=b);rw[gC,w4]at this;exact this
 ·exact⟨G.ask.take hc,by rw[gC,w4];omega⟩
 ·exact⟨G.ask,by rw[w4];omega⟩
 ·exact⟨G.ask,by rw[w4];omega⟩
theorem jL.r5 {M:VM} {b:Int} (G:jL M):jL (xE M b).2∧bK (xE M b).2.lv=bK M.lv:=by
 have hb:=Me M b;have hO:=G.ok.hi;unfold xE
 split
 ·rename_i h1;have oH:=hb.2.2 h1
  split
  ·exact⟨G.ask,w4⟩
  ·split
   ·refine⟨(G.ask.read).take (.two G.ask.wd.read ⟨by dsimp only;omega,by dsimp only;omega⟩),by rw[gC,xe,w4]⟩
   ·exact⟨G.ask.read,by rw[xe,w4]⟩
 ·exact⟨G.ask,w4⟩
theorem jL.again {M:VM} {c b:Int} (G:jL M) (hc:0≤c∧c≤4):jL (xo M c b).2∧bK (xo M c b).2.lv=bK M.lv:=by
 have ht:fL [(c,(qe M b).1.1),(b-1,c+8)]:=.two G.wd.read ⟨by dsimp only;omega,by dsimp only;omega⟩;unfold xo
 repeat' split
 ·exact⟨G,rfl⟩
 ·exact⟨G.read.take ht,by rw[gC,xe]⟩
 ·exact⟨G.read.take ht,by rw[gC,xe]⟩
 ·exact⟨G.read,xe⟩
theorem jL.grown {M:VM} {c:Int} (G:jL M) (hc:0≤c∧c≤4):jL (xn M c).2∧bK (xn M c).2.lv=bK M.lv:=by
 have hs:=My c;have hw:=G.wd.read (p:=5);unfold xn
 split
 ·split
  ·exact⟨G.read,xe⟩
  ·rename_i h1;have ht:fL [(5,(qe M 5).1.1+1+vj c),((qe M 5).1.1,c+8)]:=.two ⟨by dsimp only;omega,by dsimp only;omega⟩ ⟨by dsimp only;omega,by dsimp only;omega⟩
   split
   ·exact⟨G.read.take ht,by rw[gC,xe]⟩
   ·exact⟨G.read.take ht,by rw[gC,xe]⟩
 ·exact⟨G.read,xe⟩
theorem jL.alloc {M:VM} {x:Int} (G:jL M):jL (zd M x).2∧bK (zd M x).2.lv=bK M.lv:=by
 have hc:=ZQ x;unfold zd
 repeat' split
 ·exact⟨G,rfl⟩
 ·exact⟨(G.read.grown hc).1,by rw[(G.read.grown hc).2,xe]⟩
 ·exact⟨(G.read.again hc).1,by rw[(G.read.again hc).2,xe]⟩
 ·exact⟨G.read,xe⟩
theorem jL.pK {M:VM} (G:jL M):jL (yc M).2∧bK (yc M).2.lv=bK M.lv:=by
 have e:(kI M.lv).2=M.lv∨(kI M.lv).2=([],[])::M.lv:=by unfold kI;split<;>simp
 refine⟨⟨⟨G.ok.lo,G.ok.hi,qqM G.ok.ic,G.ok.ins,G.ok.un,?_⟩,G.wd.k,?_⟩,?_⟩
 ·show∀x∈(kI M.lv).2,_;rcases e with e |e
  ·rw[e];exact G.ok.fr
  ·rw[e];intro x hx;rcases List.mem_cons.1 hx with rfl |hx
   ·simp
   ·exact G.ok.fr x hx
 ·show∀x∈(kI M.lv).2,_;rcases e with e |e
  ·rw[e];exact G.wd.l
  ·rw[e];intro x hx;rcases List.mem_cons.1 hx with rfl |hx
   ·intro c hc;cases hc
   ·exact G.wd.l x hx
 ·show bK (kI M.lv).2=_;rcases e with e |e
  ·rw[e]
  ·rw[e,kF];simp
theorem jL.cT {M:VM} (G:jL M):jL (xC M).2∧bK (xC M).2.lv≤bK M.lv:=by
 have e:(kH M.lv).2=M.lv∨(kH M.lv).2=M.lv.tail:=by unfold kH;split<;>simp
 have hs:∀x∈(kH M.lv).2,x∈M.lv:=by
  rcases e with e |e
  ·rw[e];exact λx hx=>hx
  ·rw[e];exact λx hx=>List.mem_of_mem_tail hx
 refine⟨⟨⟨G.ok.lo,G.ok.hi,qW9 G.ok.ic,G.ok.ins,G.ok.un,λx hx=>G.ok.fr x (hs x hx)⟩,G.wd.k,λx hx=>G.wd.l x (hs x hx)⟩,?_⟩;show bK (kH M.lv).2≤_;rcases e with e |e
 ·rw[e];exact Nat.le_refl _
 ·rw[e];cases M.lv with
  |nil=>exact Nat.le_refl _
  |cons x r=>rw[kF];show bK r≤_;omega
theorem jL.s8 {M:VM} (G:jL M) (hf:bK M.lv<90000):jL (y9 M).2∧bK (y9 M).2.lv=bK M.lv:=by
 have hd:=qY7 G.ok.ic;have uq:=λx (hx:x∈(QO M.lv).2)=>LH hx;obtain⟨sz,K,most,lv,aC⟩:=M;rcases lv with _ |⟨x,_ |⟨y,r⟩⟩
 ·exact⟨G,rfl⟩
 ·exact⟨G,rfl⟩
 ·have e:=qGA (x:=x) (y:=y) (r:=r);refine⟨⟨⟨G.ok.lo,G.ok.hi,hd,G.ok.ins,G.ok.un,λz hz=>?_⟩,G.wd.k,λz hz=>?_⟩,e⟩
  ·have:=uq z hz;rw[e]at this;have hf:bK (x::y::r)<90000:=hf;omega
  ·have hl:=G.wd.l;have hx:fL x.1:=hl x aN;have hy:fL y.1:=hl y aN;have hz:z∈(yM y.1 x.1,y.2++x.2)::r:=hz;rcases List.mem_cons.1 hz with rfl |hz
   ·exact hy.nV hx
   ·exact hl z (by simp[hz])
end
section
variable {g h:AH} {L R:List SP}
abbrev iH:Type:=Int×Int
def nm (x:iH):List UInt8:=if x.1=1 then Lib.decDigits x.2.toNat else if x.1=2 then(if x.2=1 then[121,101,115]else[110,111])else[110,111,110,101]
def QQ (x:iH):AV:=if x.1=1 then .iface 24 (.int .u64 x.2)else if x.1=2 then .iface 4 (.bool (decide (x.2=1)))else .iface 350 (.agg [])
def Ca (x:iH):Prop:=0≤x.2∧x.2<18446744073709551616
def YX (l:List iH):List UInt8:=Lib.join (l.map nm) [32]
theorem J9 (x:iH):One (QQ x):=by unfold QQ;(repeat' split)<;>exact⟨rfl,rfl⟩
theorem UE (l:List iH):ql (l.map QQ)=true:=by unfold ql;rw[List.all_eq_true];intro v hv;obtain⟨x,_,rfl⟩:=List.mem_map.1 hv;exact(J9 x).2
theorem VI {s:List UInt8} {k1 k2:IntKind} {lo hi:Nat} {K:AV→Go.Ae.R} {Q:AV→AH→Prop} (h1:lo≤hi) (h2:hi≤s.length) (w:wp (K (.str ((s.drop lo).take (hi-lo)))) Q):wp (vp (.str s) (some (.int k1 (lo:Int))) (some (.int k2 (hi:Int))) K) Q:=by unfold vp;simp only[y0 h2,y0 h1,ob,wF];rw[gQ (by rw[List.length_drop];omega)];exact w
theorem qq3 {n:Nat} (hn:1≤n) {i:Nat} (hi:i<100):aA n 249 [.int .i64 (i:Int)] h λr h'=>r=.str (Lib.decDigits i)∧h'=h:=by
 (refine qA (g:=W249) rfl omQ λk hk=>?_;show wp (S249 (callT tab qz k) _ _) _;unfold S249;try simp only[iI,uU,iZ])
 by_cases h1:i<10
 ·refine jH omQ (qZ ?_);refine qU omQ ?_;rw[show(i:Int)+((1:Nat):Int)=((i+1:Nat):Int) by omega];refine VI omQ (by show i+1≤36;omega) (qY ⟨?_,rfl⟩);rw[← Lib.digits36_piece h1]
  congr 2
 ·refine jz omQ (qJ ?_);refine Mm omQ (Mm omQ (qU omQ ?_));rw[show(i:Int)*((2:Nat):Int)+((2:Nat):Int)=((i*2+2:Nat):Int) by omega,show(i:Int)*((2:Nat):Int)=((i*2:Nat):Int) by omega];refine VI omQ (by show i*2+2≤200;omega) (qY ⟨?_,rfl⟩);rw[← Lib.smalls_piece h1 hi]
  congr 2
theorem Cb {n:Nat} (hn:1≤n) {u:Nat} (h1:1≤u) (h2:u<18446744073709551616):aA n 250 [.int .u64 (u:Int)] h λr h'=>r=.int .i64 (Lib.nDigits u:Int)∧h'=h:=by refine qA (g:=W250) rfl omQ λk hk=>?_;show wp (B4 _ [.int .u64 (.ofNat u)] h) _;unfold B4;dsimp only;rw[iY h1,iY (show u+1≤18446744073709551616 by omega)];exact⟨_,_,rfl,rfl,rfl⟩
theorem qYE:∀(bs:List UInt8),Ah (bs.map λc=>.int .u8 (.ofNat c.toNat))=some bs:=by
 intro bs
 induction bs with
 |nil=>rfl
 |cons b bs ih=>rw[List.map_cons];unfold Ah;rw[ih,iY (show b.toNat+1≤256 from b.toNat_lt)];simp
theorem Cc {n:Nat} (hn:1≤n) {b u nd:Nat} {bs:List UInt8} {ys:List AV} (H:HS g h (qy b ((bs.map λc=>.int .u8 (.ofNat c.toNat))++ys)::R)) (hb:bs.length=nd) (h1:u<10 ^ nd) (h2:u<18446744073709551616) (h3:nd≤100) (LI:ql ys=true) :
  aA n 251 [.slice b 0 nd 24 false,.int .u64 (u:Int)] h λr h'=>HS g h' (qy b (ry nd u++ys)::R):=by
 refine qA (g:=W251) rfl omQ λk hk=>?_;show wp (B5 _ [.slice b 0 nd 24 false,.int .u64 (.ofNat u)] h) _;obtain⟨D,⟨hD,e,A⟩,dS,kk⟩:=H.act;obtain⟨c,c1,c2,c3⟩:=A.br;unfold B5;simp only[c1,c2];rw[List.take_append_of_le_length (by simp;omega),List.take_of_length_le (by simp;omega),qYE];simp only[];rw[show Nat.beq bs.length nd=true from by rw[hb];exact Nat.beq_refl _,iY (show u+1≤10 ^ nd by omega),iY (show u+1≤18446744073709551616 by omega),iY h3];simp only[Bool.and_self,cond_true];rw[List.drop_append_of_le_length (by simp;omega),List.drop_of_length_le (by simp;omega),List.nil_append];refine⟨_,_,rfl,kk _ (qy b (ry nd u++ys)) D ⟨by simp,λa ha hn=>AH.bn h _ λe=>hn ((hD a).2 e.symm)⟩ ⟨hD,e,by simpa using A.lt,CT.ofList _,AH.aS ..,CT.aG _,CT.bh _⟩ λa ha=>⟨.inl ha,by simpa using(dS a ha).2⟩⟩
theorem qJP:∀(xs:List (List UInt8)),GA (xs.map .str)=some xs:=by
 intro xs
 induction xs with
 |nil=>rfl
 |cons x xs ih=>rw[List.map_cons];unfold GA;rw[ih];rfl
theorem qxs {n:Nat} (hn:1≤n) {b m:Nat} {e:TypeId} {xs:List (List UInt8)} {sep:List UInt8} (H:HS g h (Cell b (xs.map .str) e false::R)) (hm:xs.length=m) (h1:m≤1000000) (h2:(Lib.join xs sep).length≤1000000) :
  aA n 148 [.slice b 0 m m false,.str sep] h λr h'=>r=.str (Lib.join xs sep)∧h'=h:=by
 refine qA (g:=W148) rfl omQ λk hk=>?_;show wp (Ol _ [.slice b 0 m m false,.str sep] h) _;obtain⟨D,hD,A⟩:=H.p .here;obtain⟨c,c1,c2,c3⟩:=A.br;unfold Ol;simp only[c1,c2,List.drop_zero];rw[List.take_of_length_le (by simp;omega),qJP];simp only[];rw[show Nat.beq xs.length m=true from by rw[hm];exact Nat.beq_refl _,iY (Nat.le_refl m),iY h1,iY h2];exact⟨_,_,rfl,rfl,rfl⟩
theorem qKi (nd u:Nat):wK (ry nd u)=some ((List.range nd).map λt=>Lib.dg u (nd-1-t)):=by
 unfold ry;have key:∀l:List Nat,wK (l.map λt=>AV.int .u8 (.ofNat (Lib.dg u (nd-1-t)).toNat))=some (l.map λt=>Lib.dg u (nd-1-t)):=by
  intro l
  induction l with
  |nil=>rfl
  |cons a l ih=>rw[List.map_cons];unfold wK;rw[ih];simp
 exact key _
theorem qZ9 {n:Nat} (hn:2≤n) {u:Nat} (h2:u<18446744073709551616) (H:HS g h R):aA n 203 [.int .u64 (u:Int),.int .i64 10] h λr h'=>r=.str (Lib.decDigits u)∧HS g h' R:=by
 refine ba (S:=S203) rfl omQ λk hk=>?_;unfold S203;try simp only[iZ]
 refine qk rfl (qZ ?_);by_cases h1:u<100
 ·refine jH omQ (qZ ?_);refine xV omQ ?_;refine qG (qq3 omQ h1) ?_;rintro _ _ ⟨rfl,rfl⟩;exact qY ⟨rfl,H⟩
 ·refine jz omQ (qJ ?_);refine qI H rfl λb h3 H3=>?_;have hnd:=Lib.nDigits_le20 u h2;have El:=Lib.nDigits_pos u;have ap:=Lib.lt_pow_nDigits u;have FT:=Lib.decDigits_eq u;refine qG (Cb omQ omQ h2) ?_;generalize Lib.nDigits u=nd at*;have H4:HS g h3 (qy b (((List.replicate nd (0:UInt8)).map λc=>.int .u8 (.ofNat c.toNat))++List.replicate (24-nd) (.int .u8 (.ofNat 0)))::R):=by
   have e:(List.replicate nd (0:UInt8)).map (λc=>AV.int .u8 (.ofNat c.toNat))++List.replicate (24-nd) (AV.int .u8 (.ofNat 0))=List.replicate 24 (AV.int .u8 (.ofNat 0)):=by rw[List.map_replicate];show List.replicate nd (AV.int .u8 (.ofNat 0))++_=_;rw[List.replicate_append_replicate,show nd+(24-nd)=24 by omega]
   rw[e];exact H3
  rintro _ _ ⟨rfl,rfl⟩;have lO:∀(K:AV→Go.Ae.R) (Q:AV→AH→Prop),wp (K (.slice b 0 nd 24 false)) Q→wp (gD 24 1 (.ptr b 0) none (some (.int .i64 (nd:Int))) K) Q:=by intro K Q w;unfold gD;simp only[y0 (show nd≤24 by omega),ob,show yP none nd 0=some 0 from rfl];exact w
  refine lO _ _ ?_;refine qG (Cc omQ H4 aN ap h2 omQ (by unfold ql;rw[List.all_eq_true];intro y hy;rw[List.eq_of_mem_replicate hy];rfl)) ?_;intro _ h5 H5;refine lO _ _ ?_;obtain⟨e,A⟩:=H5.obj .here;unfold Xx;dsimp only;rw[Xr A (by simp[Qd]),List.drop_zero,List.take_append_of_le_length (by rw[Qd];exact Nat.le_refl _),List.take_of_length_le (by rw[Qd];exact Nat.le_refl _)];simp only[ob,qKi];exact qY ⟨by rw[FT],H5.drop⟩
theorem qJB {n:Nat} (hn:3≤n) {u:Int} (h0:0≤u) (h2:u<18446744073709551616) (H:HS g h R):aA n 179 [.int .u64 u,.int .i64 10] h λr h'=>r=.str (Lib.decDigits u.toNat)∧HS g h' R:=by
 refine ba (S:=S179) rfl omQ λk hk=>?_;unfold S179;try simp only[iZ]
 obtain⟨m,rfl⟩:∃m:Nat,u=m:=⟨u.toNat,by omega⟩;refine qG (qZ9 omQ (u:=m) omQ H) ?_;rintro _ h3 ⟨rfl,H3⟩;exact qY ⟨rfl,H3⟩
theorem LJ {t:TypeId} {z x:AV} {K:AV→Go.Ae.R} {Q:AV→AH→Prop} (w:wp (K (.bJ [x,.bool true])) Q):wp (xu t z (.iface t x) K) Q:=by show wp (bif Nat.beq t t then _ else _) Q;rw[Nat.beq_refl];exact w
theorem Nz {t u:TypeId} {z x:AV} {K:AV→Go.Ae.R} {Q:AV→AH→Prop} (h:Nat.beq u t=false) (w:wp (K (.bJ [z,.bool false])) Q):wp (xu t z (.iface u x) K) Q:=by show wp (bif Nat.beq u t then _ else _) Q;rw[h];exact w
theorem qzb {n:Nat} (hn:4≤n) {x:iH} (hx:Ca x) (H:HS g h R):aA n 147 [QQ x] h λr h'=>r=.str (nm x)∧HS g h' R:=by
 (refine qA (g:=W147) rfl omQ λk hk=>?_;show wp (S147 (callT tab qz k) _ _) _;unfold S147;try simp only[iI,uU,iZ])
 unfold QQ nm;by_cases h1:x.1=1
 ·rw[iJ h1,iJ h1];refine LJ (qB rfl (qB rfl (qZ ?_)));refine qG (qJB omQ hx.1 hx.2 H) ?_;rintro _ h3 ⟨rfl,H3⟩;exact qY ⟨rfl,H3⟩
 ·rw[iQ h1,iQ h1];by_cases h2:x.1=2
  ·rw[iJ h2,iJ h2];refine Nz rfl ?_;refine qB rfl (qB rfl (qJ ?_));refine LJ (qB rfl (qB rfl (qZ ?_)));by_cases h3:x.2=1
   ·rw[iG h3,iJ h3];exact qZ (qY ⟨rfl,H⟩)
   ·rw[iV h3,iQ h3];exact qJ (qY ⟨rfl,H⟩)
  ·rw[iQ h2,iQ h2];refine Nz rfl ?_;refine qB rfl (qB rfl (qJ ?_));refine Nz rfl ?_;exact qB rfl (qB rfl (qJ (qY ⟨rfl,H⟩)))
theorem qjh (x:iH) (hx:Ca x):(nm x).length≤20:=by
 unfold nm;have h1:=hx.1;have h2:=hx.2
 split
 ·rw[Lib.decDigits_length];exact Lib.nDigits_le20 _ omQ
 ·split
  ·split<;>decide
  ·decide
theorem qWa {m:Nat}:∀(xs:List (List UInt8)),(∀x∈xs,x.length≤m)→(Lib.join xs [32]).length≤xs.length*(m+1):=by
 intro xs hx;cases xs with
 |nil=>simp[Lib.join_nil]
 |cons x r=>
  rw[Lib.join_cons,List.length_append];have h1:=hx x (iK ..);have h2:∀r:List (List UInt8),(∀x∈r,x.length≤m)→(Lib.joinTail [32] r).length≤r.length*(m+1):=by
   intro r
   induction r with
   |nil=>intro _;simp[Lib.joinTail]
   |cons y r ih=>intro h;have a:=h y (iK ..);have b:=ih λz hz=>h z (iX _ hz);unfold Lib.joinTail at*;simp only[List.map_cons,List.flatten_cons,List.length_append,List.length_cons,List.length_nil,Nat.add_mul];omega
  have h3:=h2 r λz hz=>hx z (iX _ hz);rw[List.length_cons,Nat.add_mul];omega
theorem qjA {l:List iH} (hl:l.length≤1000) (hi:∀x∈l,Ca x):(YX l).length≤1000000:=by unfold YX;have:=qWa (m:=20) (l.map nm) (λy hy=>by obtain⟨x,hx,rfl⟩:=List.mem_map.1 hy;exact qjh x (hi x hx));rw[List.length_map]at this;omega
theorem qGa {e:TypeId} {z:AV} {n:Nat} {k1 k2:IntKind} {K2:AV→AH→Go.Ae.R} {Q:AV→AH→Prop} (H:HS g h L) (h2:n≤1073741824)
  (w:∀b h',HS g h' (Cell b (List.replicate n z) e false::L)→wp (K2 (.slice b 0 n n false) h') Q):wp (kr h e [z] (.int k1 (n:Int)) (.int k2 (n:Int)) K2) Q:=by
 refine I9 (Nat.le_refl n) h2 λb h' hb A F=>w b h' (H.add (D':=λa=>a=b) F.none ⟨λa=>Iff.rfl,by rw[Ov]at A;exact A⟩ ?_);rintro a rfl;exact⟨hb,A.lt⟩
def bu (o:Nat) (l:List iH):SP:=.ex λsv=>.all [qy o [sv],qD 20 1 l.length sv (l.map QQ)]
theorem bu.E {o:Nat} {l:List iH} (H:HS g h (bu o l::R)):∃sv,HS g h (qy o [sv]::qD 20 1 l.length sv (l.map QQ)::R):=by obtain⟨sv,H⟩:=H.dU;exact⟨sv,H.cq⟩
theorem bu.I {o:Nat} {l:List iH} {sv:AV} (H:HS g h (qy o [sv]::qD 20 1 l.length sv (l.map QQ)::R)):HS g h (bu o l::R):=HS.en sv H.allI
theorem qxf {n:Nat} (hn:5≤n) {o:Nat} {l:List iH} (H:HS g h (bu o l::R)) (hl:l.length≤1000) (hi:∀x∈l,Ca x) :
  aA n 120 [.ptr o 0] h λr h'=>r=.str (YX l)∧HS g h' (bu o l::R):=by
 (refine qA (g:=W120) rfl omQ λk hk=>?_;show wp (S120 (callT tab qz k) _ _) _;unfold S120;try simp only[iI,uU,iZ])
 obtain⟨sv,H⟩:=bu.E H;refine qK (qQ (qX ‹_› .here rfl ?_));refine qm ‹_› e_1 ?_;refine qGa (n:=l.length) H omQ λb h2 H2=>?_;refine qK (qQ (qX ‹_› e_1 rfl ?_));refine qm ‹_› e_2 ?_
 refine jR (λm s h'=>∃i:Nat,s=(.int .i64 (i:Int),.int .i64 (l.length:Int),sv,.slice b 0 l.length l.length false,())∧i≤l.length∧m=l.length-i∧
  HS g h' (Cell b (((l.take i).map λx=>.str (nm x))++List.replicate (l.length-i) (.str [])) 9 false::qy o [sv]::qD 20 1 l.length sv (l.map QQ)::R))
  ?_ (m:=l.length) (by show _<1000000000;omega) ⟨0,rfl,by omega,by omega,H2⟩
 clear H H2;rintro m ih s h3 bF ⟨i,rfl,h1,rfl,H⟩;dsimp only;by_cases ap:i<l.length
 ·refine jH omQ (qZ ?_);refine jb (H.sl e_2) (x:=QQ l[i]) (by rw[List.getElem?_map,iW ap];rfl) ?_;refine qG (qzb omQ (hi _ (List.getElem_mem ap)) H) ?_;rintro _ h4 ⟨rfl,H4⟩;refine XV (k:=.i64) ap ?_;refine Lh H4 rfl (by simp;omega) rfl λh5 H5=>?_;refine qU omQ (bF (l.length-(i+1)) _ _ omQ ⟨i+1,rfl,by omega,rfl,?_⟩);have e:wA (((l.take i).map λx=>AV.str (nm x))++List.replicate (l.length-i) (.str [])) (0+i*1) (AV.str (nm l[i])).cells=((l.take (i+1)).map λx=>AV.str (nm x))++List.replicate (l.length-(i+1)) (.str []):=by
   rw[Nat.zero_add,Nat.mul_one];show wA _ i [AV.str (nm l[i])]=_;rw[Yh (by simp;omega),List.take_add_one,iW ap,List.map_append,show l.length-i=(l.length-(i+1))+1 by omega,List.replicate_succ,List.set_append_right _ _ (by simp;omega)];have hz:i-((l.take i).map λx=>AV.str (nm x)).length=0:=by simp;omega
   rw[hz,List.set_cons_zero,List.append_assoc];rfl
  rw[e]at H5;exact H5
 ·obtain rfl:i=l.length:=by omega
  refine jz omQ (qJ ?_);rw[Nat.sub_self,List.take_length,List.replicate_zero,List.append_nil]at H;have H2:HS g h3 (Cell b ((l.map nm).map .str) 9 false::qy o [sv]::qD 20 1 l.length sv (l.map QQ)::R):=by rw[List.map_map];exact H
  refine qG (qxs omQ H2 aN omQ (qjA hl hi)) ?_;rintro _ _ ⟨rfl,rfl⟩;exact qx (qY ⟨rfl,bu.I H.drop⟩)
end
section
structure eX where
  op:Int
  pc:Int
  aw:List Int
  told:Nat
structure IM where
  aw:List Int
  out:List iH
  pc:Int
  bg:List eX
structure SM where
  e:Int
  nx:Int
  br:Bool
  s:IM
  v:VM
def dw (s:IM) (i v:Int):IM:={ s with aw:=s.aw.set i.toNat v }
def yj (b off:Int):Int×Int:=if 2147483648≤b∨2147483648≤b+off∨b+off<6 then(0,2)else(b+off,0)
def XN (p:Prop) [Decidable p]:Int:=if p then 1 else 0
def zk (s:IM) (V:VM) (x:qa):Int×IM×VM :=
 if x.1=8 then
  (if(yj (qO s.aw x.2.2.1) x.2.2.2.1).2=0 then
   (if(qe V (yj (qO s.aw x.2.2.1) x.2.2.2.1).1).1.2=0 then(0,dw s x.2.1 (qe V (yj (qO s.aw x.2.2.1) x.2.2.2.1).1).1.1,(qe V (yj (qO s.aw x.2.2.1) x.2.2.2.1).1).2)
    else((qe V (yj (qO s.aw x.2.2.1) x.2.2.2.1).1).1.2,s,(qe V (yj (qO s.aw x.2.2.1) x.2.2.2.1).1).2))
  else(2,s,V))
 else if x.1=9 then
  (if(yj (qO s.aw x.2.1) x.2.2.2.1).2=0 then((zV V [((yj (qO s.aw x.2.1) x.2.2.2.1).1,qO s.aw x.2.2.1)]).1,s,(zV V [((yj (qO s.aw x.2.1) x.2.2.2.1).1,qO s.aw x.2.2.1)]).2)
  else(2,s,V))
 else if x.1=10 then
  (if 2147483648≤qO s.aw x.2.2.1 then(3,s,V)
  else if(zd V (qO s.aw x.2.2.1)).1.2=0 then(0,dw s x.2.1 (zd V (qO s.aw x.2.2.1)).1.1,(zd V (qO s.aw x.2.2.1)).2)
  else((zd V (qO s.aw x.2.2.1)).1.2,s,(zd V (qO s.aw x.2.2.1)).2))
 else
  (if 2147483648≤qO s.aw x.2.1 then(2,s,V)else((vZ V (qO s.aw x.2.1)).1,s,(vZ V (qO s.aw x.2.1)).2))
def zf (op at_ nx:Int) (s:IM) (V:VM):SM :=
 if(yc V).1=0 then⟨0,nx,false,{ s with bg:=⟨op,at_,s.aw,s.out.length⟩::s.bg },(yc V).2⟩else⟨(yc V).1,nx,false,s,(yc V).2⟩
def QZ (s:IM) (p:eX):IM:={ s with aw:=p.aw,out:=s.out.take p.told }
def ye (mt:List Int):List eX→IM→VM→SM
 |[],s,V=>⟨0,s.pc,true,{ s with bg:=[] },V⟩
 |p::o,s,V=>
  if(xC V).1=0 then
   (if p.op=17 then zf 18 (qO mt p.pc) (qO mt p.pc+1) { QZ s p with bg:=o } (xC V).2
   else ye mt o s (xC V).2)
  else⟨(xC V).1,s.pc+1,false,{ s with bg:=o },(xC V).2⟩
def Cd (o:List eX):eX:=(o.head?).getD ⟨0,0,[0,0,0,0,0,0,0,0],0⟩
def kZ (mt:List Int) (s:IM) (V:VM) (op:Int):SM :=
 if op=14∨op=17 then zf op s.pc (s.pc+1) s V
 else if op=15∨op=19 then⟨(y9 V).1,s.pc+1,false,{ s with bg:=s.bg.tail },(y9 V).2⟩
 else if op=18 then⟨(y9 V).1,qO mt s.pc+1,false,{ s with bg:=s.bg.tail },(y9 V).2⟩
 else if op=16 then⟨(xC V).1,qO mt s.pc+1,false,{ QZ s (Cd s.bg)with bg:=s.bg.tail },(xC V).2⟩
 else ye mt s.bg s V
def b8 (mt:List Int) (s:IM) (V:VM) (x:qa):SM :=
 if x.1=1 then⟨0,s.pc+1,false,dw s x.2.1 x.2.2.2.2,V⟩
 else if x.1=2 then⟨0,s.pc+1,false,dw s x.2.1 (qO s.aw x.2.2.1),V⟩
 else if x.1=3 then⟨0,s.pc+1,false,dw s x.2.1 (zg .u64 (qO s.aw x.2.2.1+qO s.aw x.2.2.2.1)),V⟩
 else if x.1=4 then⟨0,s.pc+1,false,dw s x.2.1 (zg .u64 (qO s.aw x.2.2.1-qO s.aw x.2.2.2.1)),V⟩
 else if x.1=5 then⟨0,s.pc+1,false,dw s x.2.1 (zg .u64 (qO s.aw x.2.2.1*qO s.aw x.2.2.2.1)),V⟩
 else if x.1=6 then⟨0,s.pc+1,false,dw s x.2.1 (XN (qO s.aw x.2.2.1<qO s.aw x.2.2.2.1)),V⟩
 else if x.1=7 then⟨0,s.pc+1,false,dw s x.2.1 (XN (qO s.aw x.2.2.1=qO s.aw x.2.2.2.1)),V⟩
 else if x.1=12 then⟨0,x.2.2.2.1,false,s,V⟩
 else if x.1=13 then⟨0,if qO s.aw x.2.1=0 then x.2.2.2.1 else s.pc+1,false,s,V⟩
 else if x.1=21 then(if 16≤s.out.length then⟨5,s.pc+1,false,s,V⟩else⟨0,s.pc+1,false,{ s with out:=s.out++[(1,qO s.aw x.2.1)] },V⟩)
 else if x.1=22 then⟨13,s.pc+1,false,s,V⟩
 else if x.1=8∨x.1=9∨x.1=10∨x.1=11 then⟨(zk s V x).1,s.pc+1,false,(zk s V x).2.1,(zk s V x).2.2⟩
 else kZ mt s V x.1
structure RM where
  kind:Int
  err:Int
  left:Nat
  s:IM
  v:VM
def zp (l:List qa) (mt:List Int):Nat→IM→VM→RM
 | 0,s,V=>if s.pc=l.length then⟨2,0,0,s,V⟩else⟨4,6,0,s,V⟩
 |n+1,s,V=>
  if s.pc=l.length then⟨2,0,n+1,s,V⟩
  else if(b8 mt s V (qT l s.pc)).e=0 then
   (if(b8 mt s V (qT l s.pc)).br=true then⟨3,0,n,{ (b8 mt s V (qT l s.pc)).s with pc:=(b8 mt s V (qT l s.pc)).nx },(b8 mt s V (qT l s.pc)).v⟩
   else zp l mt n { (b8 mt s V (qT l s.pc)).s with pc:=(b8 mt s V (qT l s.pc)).nx } (b8 mt s V (qT l s.pc)).v)
  else if(b8 mt s V (qT l s.pc)).e=11 then⟨1,0,n+1,(b8 mt s V (qT l s.pc)).s,(b8 mt s V (qT l s.pc)).v⟩
  else⟨4,(b8 mt s V (qT l s.pc)).e,n+1,(b8 mt s V (qT l s.pc)).s,(b8 mt s V (qT l s.pc)).v⟩
theorem XT {l:List qa} {mt:List Int} {s:IM} {V:VM}:zp l mt 0 s V=if s.pc=l.length then⟨2,0,0,s,V⟩else⟨4,6,0,s,V⟩:=rfl
theorem YY {l:List qa} {mt:List Int} {n:Nat} {s:IM} {V:VM}:zp l mt (n+1) s V=if s.pc=l.length then⟨2,0,n+1,s,V⟩
  else if(b8 mt s V (qT l s.pc)).e=0 then
   (if(b8 mt s V (qT l s.pc)).br=true then⟨3,0,n,{ (b8 mt s V (qT l s.pc)).s with pc:=(b8 mt s V (qT l s.pc)).nx },(b8 mt s V (qT l s.pc)).v⟩
   else zp l mt n { (b8 mt s V (qT l s.pc)).s with pc:=(b8 mt s V (qT l s.pc)).nx } (b8 mt s V (qT l s.pc)).v)
  else if(b8 mt s V (qT l s.pc)).e=11 then⟨1,0,n+1,(b8 mt s V (qT l s.pc)).s,(b8 mt s V (qT l s.pc)).v⟩
  else⟨4,(b8 mt s V (qT l s.pc)).e,n+1,(b8 mt s V (qT l s.pc)).s,(b8 mt s V (qT l s.pc)).v⟩:=rfl
theorem qY9 {l:List qa} {mt:List Int} {s:IM} {V:VM} (h0:s.pc=l.length):∀n,zp l mt n s V=⟨2,0,n,s,V⟩:=by
 intro n;cases n with
 |zero=>rw[XT,iJ h0]
 |succ n=>rw[YY,iJ h0]
def qH (l:List qa):Nat→List Int
 | 0=>[]
 |i+1=>jk (qH l i) i (qT l i).1
theorem ve {l:List qa} {i:Nat} (h:i<l.length):qT l (i:Int)=l[i]:=by unfold qT;rw[Int.toNat_natCast,iW h];rfl
theorem jP {l:List qa} {i:Nat}:qH l (i+1)=jk (qH l i) i (qT l i).1:=rfl
theorem qWf {l:List qa}:∀(d i:Nat) {st':List Int},i+d=l.length→iU l (l.drop i) i (qH l i)=.inr st'→(∀j,i≤j→j<l.length→zb l (qH l j) (qT l j)=0)∧qH l l.length=st':=by
 intro d
 induction d with
 |zero=>
  intro i st' hi h;obtain rfl:i=l.length:=by omega
  rw[List.drop_length]at h;cases h;exact⟨λj h1 h2=>by omega,rfl⟩
 |succ d ih=>
  intro i st' hi h;have ap:i<l.length:=by omega
  rw[Kt ap]at h
  split at h
  ·rename_i hw;obtain⟨a,b⟩:=ih (i+1) (st':=st') omQ (by rw[jP,ve ap];exact h);refine⟨λj h1 h2=>?_,b⟩;by_cases hj:j=i
   ·subst hj;rw[ve ap];exact hw
   ·exact a j omQ h2
  ·cases h
theorem qXI {l:List qa}:∀(d i:Nat),i+d=l.length→∀k,i+k<l.length→(vE (l.drop i) i (qH l i))[k]? =some (jw (qH l (i+k))):=by
 intro d
 induction d with
 |zero=>intro i hi k hk;omega
 |succ d ih=>
  intro i hi k hk;have ap:i<l.length:=by omega
  rw[VD ap];cases k with
  |zero=>rfl
  |succ k=>rw[List.getElem?_cons_succ];have:=ih (i+1) omQ k omQ;rw[jP,ve ap]at this;rw[show i+(k+1)=i+1+k by omega];exact this
structure Fit (l:List qa):Prop where
  pos:0<l.length
  le:l.length≤40
  ok:∀j,j<l.length→zb l (qH l j) (qT l j)=0
  nil:qH l l.length=[]
  rA:∀j,j<l.length→(vE l 0 [])[j]? =some (jw (qH l j))
  jump:∀j,j<l.length→¬Qm l (vE l 0 []) j (qT l j)
theorem qZ4 {l:List qa} {a:List Int}:∀(d i:Nat),i+d=l.length→(JC l a (l.drop i) i).2=0→∀j,i≤j→j<l.length→¬Qm l a j (qT l j):=by
 intro d
 induction d with
 |zero=>intro i hi _ j h1 h2;omega
 |succ d ih=>
  intro i hi h j h1 h2;have ap:i<l.length:=by omega
  rw[Kn ap]at h
  split at h
  ·cases h
  ·rename_i hn;by_cases hj:j=i
   ·subst hj;rw[ve ap];exact hn
   ·exact ih (i+1) omQ h j omQ h2
theorem M2 {l:List qa} (h:(xZ l).2=0):Fit l:=by
 have hg:=UY h;obtain⟨a,b⟩:=qWf (l:=l) l.length 0 (st':=[]) omQ hg;unfold xZ at h
 split at h
 ·cases h
 ·rename_i h0;rw[hg]at h;dsimp only at h;rw[iJ rfl]at h
  exact⟨by omega,by omega,λj hj=>a j (Nat.zero_le _) hj,b,λj hj=>by
   have:=qXI (l:=l) l.length 0 omQ j omQ;rw[Nat.zero_add]at this
   exact this,λj hj=>qZ4 l.length 0 omQ h j (Nat.zero_le _) hj⟩
def Ce (i:Nat) (st:List Int):Prop:=b9 i st∧st.Pairwise (· < ·)
theorem Gc {l:List qa}:∀i,Ce i (qH l i):=by
 intro i
 induction i with
 |zero=>exact⟨b9.nil,List.Pairwise.nil⟩
 |succ i ih=>
  refine⟨ih.1.behind,?_⟩;rw[jP];have hd:(qH l i).dropLast.Pairwise (· < ·):=ih.2.sublist (List.dropLast_sublist _);have hp:∀st:List Int,b9 i st→st.Pairwise (· < ·)→(st++[(i:Int)]).Pairwise (· < ·):=by intro st h1 h2;rw[List.pairwise_append];refine⟨h2,List.pairwise_singleton ..,λa ha b hb=>?_⟩;rw[List.mem_singleton]at hb;subst hb;exact(h1 a ha).2
  unfold jk
  repeat' split
  ·exact hp _ ih.1.dropLast hd
  ·exact hp _ ih.1 ih.2
  ·exact hd
  ·exact ih.2
theorem Vf {l:List qa}:∀(i k p:Nat),(qH l i)[k]? =some (p:Int)→qH l (p+1)=(qH l i).take (k+1):=by
 intro i
 induction i with
 |zero=>intro k p h;simp[qH]at h
 |succ i ih=>
  intro k p h;have key:∀st:List Int,(∀k p:Nat,st[k]? =some (p:Int)→qH l (p+1)=st.take (k+1))→qH l (i+1)=st++[(i:Int)]→qH l (p+1)=(qH l (i+1)).take (k+1):=by
   intro st cP he;rw[he]at h ⊢;by_cases hk:k<st.length
   ·rw[List.getElem?_append_left hk]at h;rw[cP k p h,List.take_append_of_le_length omQ]
   ·have mX:k=st.length:=by
     have:=(List.getElem?_eq_some_iff.1 h).1;simp at this;omega
    subst mX;rw[List.getElem?_append_right (Nat.le_refl _),Nat.sub_self]at h;simp at h;have:p=i:=by omega
    subst this;rw[he,List.take_of_length_le aN]
  have s9:∀k p:Nat,(qH l i).dropLast[k]? =some (p:Int)→qH l (p+1)=(qH l i).dropLast.take (k+1):=by
   intro k p h;have hk:=(List.getElem?_eq_some_iff.1 h).1;have mX:k+1≤(qH l i).length-1:=by have:=hk;simp at this;omega
   have h2:(qH l i)[k]? =some (p:Int):=by
    rw[List.getElem?_dropLast]at h
    split at h
    ·exact h
    ·cases h
   rw[ih k p h2,List.dropLast_eq_take,List.take_take,Nat.min_eq_left mX]
  by_cases hb:z8 (qT l i).1=true∨(qT l i).1=18
  ·by_cases he:0<jt (qT l i).1
   ·exact key _ s9 (by rw[jP];unfold jk;rw[iJ hb,iJ he])
   ·exact key _ ih (by rw[jP];unfold jk;rw[iJ hb,iQ he])
  ·by_cases he:0<jt (qT l i).1
   ·have e:qH l (i+1)=(qH l i).dropLast:=by rw[jP];unfold jk;rw[iQ hb,iJ he]
    rw[e]at h ⊢;exact s9 k p h
   ·have e:qH l (i+1)=qH l i:=by rw[jP];unfold jk;rw[iQ hb,iQ he]
    rw[e]at h ⊢;exact ih k p h
theorem vU {l:List qa} {i:Nat} (h:qH l i≠[]):∃p:Nat,jw (qH l i)=p∧p<i∧(qH l i)[(qH l i).length-1]? =some (p:Int)∧qH l (p+1)=qH l i:=by
 have hb:=(Gc (l:=l) i).1.dL h;obtain⟨p,hp⟩:∃p:Nat,jw (qH l i)=p:=⟨(jw (qH l i)).toNat,by omega⟩;have hl:0<(qH l i).length:=List.length_pos_iff.2 h;have hk:(qH l i)[(qH l i).length-1]? =some (p:Int):=by rw[← hp];unfold jw;rw[← List.getLast?_eq_getElem?,List.getLast?_eq_some_getLast h];rfl
 refine⟨p,hp,by omega,hk,?_⟩;rw[Vf i _ p hk,List.take_of_length_le omQ]
theorem qGm {l:List qa} {i j:Nat} (h:jw (qH l i)=jw (qH l j)):qH l i=qH l j:=by
 by_cases hi:qH l i=[]
 ·by_cases hj:qH l j=[]
  ·rw[hi,hj]
  ·obtain⟨p,h1,_⟩:=vU hj;rw[hi,Ks,h1]at h;omega
 ·obtain⟨p,h1,_,_,h2⟩:=vU hi;by_cases hj:qH l j=[]
  ·rw[hj,Ks,h1]at h;omega
  ·obtain⟨q,h3,_,_,h4⟩:=vU hj;have:p=q:=by omega
   subst this;rw[← h2,← h4]
def lY (l:List qa) (A:List Int):Nat→List Int
 | 0=>List.replicate l.length (-1)
 |i+1=>if 0<jt (qT l i).1 then(lY l A i).set (qO A i).toNat i else lY l A i
def ie (l:List qa) (A:List Int):Nat→List Int
 | 0=>lY l A l.length
 |i+1=>if(qT l i).1=16 then(ie l A i).set i (qO (ie l A i) (qO A i))else ie l A i
def qp (l:List qa):List Int:=ie l (vE l 0 []) l.length
theorem LK {l:List qa} {A:List Int} {i:Nat}:lY l A (i+1)=if 0<jt (qT l i).1 then(lY l A i).set (qO A i).toNat i else lY l A i:=rfl
theorem FU {l:List qa} {A:List Int} {i:Nat}:ie l A (i+1)=if(qT l i).1=16 then(ie l A i).set i (qO (ie l A i) (qO A i))else ie l A i:=rfl
theorem M4 {l:List qa} {A:List Int}:∀i,(lY l A i).length=l.length:=by
 intro i
 induction i with
 |zero=>simp[lY]
 |succ i ih=>rw[LK];split<;>simp[ih]
theorem Mh {l:List qa} {A:List Int}:∀i,(ie l A i).length=l.length:=by
 intro i
 induction i with
 |zero=>exact M4 _
 |succ i ih=>rw[FU];split<;>simp[ih]
theorem qX7 (l:List qa):(qp l).length=l.length:=Mh _
theorem gU {l:List qa} (F:Fit l) {j:Nat} (h:j<l.length):qO (vE l 0 []) (j:Int)=jw (qH l j):=by unfold qO;rw[Int.toNat_natCast,F.rA j h];rfl
theorem LL {l:List qa} {p:Nat}:∀(d i:Nat),p<i→(p:Int)∉qH l i→(p:Int)∉qH l (i+d):=by
 intro d
 induction d with
 |zero=>intro i _ h;exact h
 |succ d ih=>
  intro i hp h;have h2:=ih i hp h;rw[show i+(d+1)=i+d+1 by omega,jP];have hd:(p:Int)∉(qH l (i+d)).dropLast:=λhm=>h2 ((List.dropLast_sublist _).subset hm);unfold jk
  repeat' split
  all_goals first |exact hd |exact h2 |skip
  ·intro hm;rcases List.mem_append.1 hm with hm |hm
   ·exact hd hm
   ·rw[List.mem_singleton]at hm;omega
  ·intro hm;rcases List.mem_append.1 hm with hm |hm
   ·exact h2 hm
   ·rw[List.mem_singleton]at hm;omega
theorem Gm {st:List Int} {p:Int} (h:st.Pairwise (· < ·)) (hn:st≠[]) (hp:jw st=p):p∉st.dropLast:=by
 have e:st=st.dropLast++[p]:=by have:=List.dropLast_concat_getLast hn;rw[show st.getLast hn=p by rw[← hp];unfold jw;rw[List.getLast?_eq_some_getLast hn];rfl]at this;exact this.symm
 rw[e,List.pairwise_append]at h;intro hm;have:=h.2.2 p hm p (List.mem_singleton_self _);omega
theorem qW3 {l:List qa} {p j:Nat} (he:0<jt (qT l j).1) (hn:qH l j≠[]) (hp:jw (qH l j)=p):(p:Int)∉qH l (j+1):=by
 have h1:=Gm (Gc (l:=l) j).2 hn hp;have h2:=(Gc (l:=l) j).1.dL hn;rw[jP];unfold jk;rw[iJ he]
 split
 ·intro hm;rcases List.mem_append.1 hm with hm |hm
  ·exact h1 hm
  ·rw[List.mem_singleton]at hm;omega
 ·exact h1
theorem gR {l:List qa} {st:List Int} {x:qa} (h:zb l st x=0):Qy x=true∧(0<jt x.1→dh l st=jt x.1)∧(x.1=16→dh l st=14)∧(z8 x.1=true→st.length<5):=by
 have h0:=xc h;unfold zb at h;rw[iQ (by rw[h0.1];simp)]at h
 split at h
 ·cases h
 ·rename_i h2
  split at h
  ·cases h
  ·rename_i h3;refine⟨h0.1,λhe=>?_,λhe=>?_,h0.2.2⟩
   ·exact Classical.not_not.1 λhh=>h2 ⟨he,hh⟩
   ·exact Classical.not_not.1 λhh=>h3 ⟨he,hh⟩
theorem ZF {l:List qa} {i:Nat} {p:Nat} (hn:qH l i≠[]) (hp:jw (qH l i)=p):dh l (qH l i)=(qT l p).1:=by unfold dh;rw[iQ hn,hp]
theorem LM {l:List qa} (F:Fit l) {p:Nat} (hp:p<l.length) (ho:(qT l p).1=14∨(qT l p).1=17∨(qT l p).1=18) :
  ∃e:Nat,p<e∧e<l.length∧jt (qT l e).1=(qT l p).1∧qH l e≠[]∧jw (qH l e)=p∧
   ∀j,j<l.length→0<jt (qT l j).1→jw (qH l j)=p→j=e:=by
 have dl:(p:Int)∈qH l (p+1):=by rw[jP];unfold jk;rw[iJ (by unfold z8;rcases ho with h |h |h<;>rw[h]<;>decide)];exact List.mem_append_right _ (List.mem_singleton_self _)
 have key:∀d i,p<i→i+d=l.length→(p:Int)∈qH l i→∃e,i≤e∧e<l.length∧(p:Int)∈qH l e∧(p:Int)∉qH l (e+1):=by
  intro d
  induction d with
  |zero=>
   intro i _ hi hm;obtain rfl:i=l.length:=by omega
   rw[F.nil]at hm;cases hm
  |succ d ih=>
   intro i Fb hi hm;by_cases h:(p:Int)∈qH l (i+1)
   ·obtain⟨e,h1,h2⟩:=ih (i+1) omQ omQ h;exact⟨e,by omega,h2⟩
   ·exact⟨i,Nat.le_refl _,by omega,hm,h⟩
 obtain⟨e,h1,h2,h3,h4⟩:=key (l.length-(p+1)) (p+1) omQ omQ dl;have cx:qH l e≠[]:=λh=>by rw[h]at h3;cases h3
 have dA:0<jt (qT l e).1:=by
  apply Classical.not_not.1;intro hn;apply h4;rw[jP];unfold jk;rw[iQ hn]
  split
  ·exact List.mem_append_left _ h3
  ·exact h3
 have Cf:jw (qH l e)=p:=by
  apply Classical.not_not.1;intro hn;apply h4;have hd:(p:Int)∈(qH l e).dropLast:=by
   have hd:=List.dropLast_concat_getLast cx;rw[← hd]at h3;rcases List.mem_append.1 h3 with h |h
   ·exact h
   ·rw[List.mem_singleton]at h;exfalso;apply hn;unfold jw;rw[List.getLast?_eq_some_getLast cx,h];rfl
  rw[jP];unfold jk;rw[iJ dA]
  split
  ·exact List.mem_append_left _ hd
  ·exact hd
 have hw:=(gR (F.ok e h2)).2.1 dA;rw[ZF cx Cf]at hw;refine⟨e,by omega,h2,hw.symm,cx,Cf,λj hj ta LN=>?_⟩;have Aj:qH l j≠[]:=(xc (F.ok j hj)).2.1 (.inl ta);have hpj:p<j:=by have:=(Gc (l:=l) j).1.dL Aj;omega
 rcases Nat.lt_trichotomy j e with h |h |h
 ·exfalso;have:=LL (l:=l) (e-(j+1)) (j+1) omQ (qW3 ta Aj LN);rw[show j+1+(e-(j+1))=e by omega]at this;exact this h3
 ·exact h
 ·exfalso;have h5:=LL (l:=l) (j-(e+1)) (e+1) omQ h4;rw[show e+1+(j-(e+1))=j by omega]at h5;apply h5;rw[← LN];unfold jw;rw[List.getLast?_eq_some_getLast Aj];exact List.getLast_mem Aj
theorem LO {l:List qa} (F:Fit l) {p e:Nat} (hp:p<l.length) (he:e<l.length) (hee:0<jt (qT l e).1) (hi:jw (qH l e)=p)
  (hu:∀j,j<l.length→0<jt (qT l j).1→jw (qH l j)=p→j=e):∀i,e<i→i≤l.length→(lY l (vE l 0 []) i)[p]? =some (e:Int):=by
 intro i
 induction i with
 |zero=>intro h;omega
 |succ i ih=>
  intro h1 h2;rw[LK];by_cases DK:i=e
  ·subst DK;rw[iJ hee,gU F he,hi,Int.toNat_natCast,List.getElem?_set_self (by rw[M4];exact hp)]
  ·split
   ·rename_i hx;rw[gU F omQ,List.getElem?_set_ne]
    ·exact ih omQ omQ
    ·intro hh;have Aj:qH l i≠[]:=(xc (F.ok i omQ)).2.1 (.inl hx);have:=(Gc (l:=l) i).1.dL Aj;exact DK (hu i omQ hx omQ)
   ·exact ih omQ omQ
theorem LQ {l:List qa} (F:Fit l) {p:Nat} (hp:(qT l p).1≠16):∀i,(ie l (vE l 0 []) i)[p]? =(lY l (vE l 0 []) l.length)[p]?:=by
 intro i
 induction i with
 |zero=>rfl
 |succ i ih=>
  rw[FU]
  split
  ·rename_i hx;rw[List.getElem?_set_ne,ih];rintro rfl;exact hp hx
  ·exact ih
theorem qGi {l:List qa} (F:Fit l) {u:Nat} (hu:u<l.length) (ho:(qT l u).1=16):∀i,u<i→(ie l (vE l 0 []) i)[u]? =some (qO (ie l (vE l 0 []) u) (jw (qH l u))):=by
 intro i
 induction i with
 |zero=>intro h;omega
 |succ i ih=>
  intro h;rw[FU];by_cases hi:i=u
  ·subst hi;rw[iJ ho,List.getElem?_set_self (by rw[Mh];exact hu),gU F hu]
  ·split
   ·rw[List.getElem?_set_ne hi];exact ih omQ
   ·exact ih omQ
theorem JE {l:List qa} (F:Fit l) {p:Nat} (hp:p<l.length) (ho:(qT l p).1=14∨(qT l p).1=17∨(qT l p).1=18) :
  ∃e:Nat,qO (qp l) (p:Int)=e∧p<e∧e<l.length∧jt (qT l e).1=(qT l p).1∧qH l e=qH l (p+1):=by
 obtain⟨e,h1,h2,h3,h4,h5,h6⟩:=LM F hp ho;refine⟨e,?_,h1,h2,h3,?_⟩
 ·unfold qO qp;rw[Int.toNat_natCast,LQ F (by rcases ho with h |h |h<;>rw[h]<;>decide),LO F hp h2 (by rw[h3];rcases ho with h |h |h<;>rw[h]<;>decide) h5 h6 l.length h2 (Nat.le_refl _)];rfl
 ·obtain⟨q,g1,_,_,g2⟩:=vU h4;have:q=p:=by omega
  subst this;exact g2.symm
theorem UQ {l:List qa} (F:Fit l) {u:Nat} (hu:u<l.length) (ho:(qT l u).1=16) :
  ∃e:Nat,qO (qp l) (u:Int)=e∧e<l.length∧(qT l e).1=15∧qH l e=qH l u∧qH l u≠[]:=by
 have hn:qH l u≠[]:=(xc (F.ok u hu)).2.1 (.inr ho);obtain⟨q,g1,g2,_,g3⟩:=vU hn;have hw:=(gR (F.ok u hu)).2.2.1 ho;rw[ZF hn g1]at hw;obtain⟨e,h1,h2,h3,h4,h5,h6⟩:=LM F (p:=q) omQ (.inl hw);have e0:qO (ie l (vE l 0 []) u) (q:Int)=e:=by unfold qO;rw[Int.toNat_natCast,LQ F (by rw[hw];decide),LO F omQ h2 (by rw[h3,hw];decide) h5 h6 l.length h2 (Nat.le_refl _)];rfl
 refine⟨e,?_,h2,?_,?_,hn⟩
 ·unfold qp;rw[qO,Int.toNat_natCast,qGi F hu ho l.length hu,g1,e0];rfl
 ·rw[hw]at h3;unfold jt at h3
  repeat' split at h3
  all_goals first |assumption |omega
 ·obtain⟨q2,k1,_,_,k2⟩:=vU h4;have:q2=q:=by omega
  subst this;rw[← k2,g3]
end
section
structure Q7 (M M':VM):Prop where
  sz:M'.sz=M.sz
  K:M'.K=M.K
  most:M'.most=M.most
  len:M'.lv.length=M.lv.length
def JQ (M M':VM):Prop:=M'.lv=M.lv∧1≤M'.aC∧M'.aC<M.sz∧zU M'.aC M.K=none
theorem Q7.refl (M:VM):Q7 M M:=⟨rfl,rfl,rfl,rfl⟩
theorem Q7.trans {M N Q:VM} (a:Q7 M N) (b:Q7 N Q):Q7 M Q:=⟨b.sz.trans a.sz,b.K.trans a.K,b.most.trans a.most,b.len.trans a.len⟩
theorem xG (M:VM) (p:Int):Q7 M (qe M p).2:=by
 unfold qe
 repeat' split
 all_goals exact⟨rfl,rfl,rfl,rfl⟩
theorem w9 {M:VM} {p:Int} (h:(qe M p).1.2=11):JQ M (qe M p).2:=by
 unfold qe at h ⊢
 split
 ·rename_i h1;rw[iJ h1]at h
  split
  ·rename_i h2;rw[h2]at h;cases h
  ·rename_i h2;rw[h2]at h;dsimp only at h ⊢
   split
   ·rename_i h3;rw[h3]at h;cases h
   ·rename_i h3;exact⟨rfl,h1.1,h1.2,h3⟩
 ·rename_i h1;rw[iQ h1]at h;cases h
theorem qxi {most:Nat} {lv:List bz} {p v:Int}:(vF most lv p v).1=0∨(vF most lv p v).1=2∨(vF most lv p v).1=5:=by
 unfold vF
 repeat' split
 all_goals simp
theorem qKm {most:Nat} {aZ:List bz}:∀{cs:List Cl} {lv:List bz},(vV most aZ lv cs).1=0∨(vV most aZ lv cs).1=2∨(vV most aZ lv cs).1=5:=by
 intro cs
 induction cs with
 |nil=>intro lv;exact .inl rfl
 |cons c cs ih=>
  intro lv;rw[vM]
  split
  ·exact ih
  ·exact qxi
theorem qGB {M:VM} {cs:List Cl}:(zV M cs).1=0∨(zV M cs).1=2∨(zV M cs).1=5:=by
 unfold zV
 split
 ·exact qKm
 ·exact .inr (.inl rfl)
theorem YP {M:VM} {cs:List Cl} (h:(zV M cs).1=11):False:=by have:=qGB (M:=M) (cs:=cs);omega
theorem vP {M:VM} {cs:List Cl} (O:dz M):Q7 M (zV M cs).2:=by
 unfold zV
 split
 ·exact⟨rfl,rfl,rfl,(ON O.ic O.ic rfl).2⟩
 ·exact .refl M
theorem Ox (M:VM) (b:Int):Q7 M (jr M b).2:=by
 unfold jr
 repeat' split
 all_goals first |exact .refl M |exact xG M _
theorem ZY {M:VM} {b:Int} (h:(jr M b).1.2.2=11):JQ M (jr M b).2:=by
 unfold jr at h ⊢
 split
 ·rename_i h1;rw[iJ h1]at h;cases h
 ·rename_i h1;rw[iQ h1]at h
  split
  ·rename_i h2;rw[iJ h2]at h
   split
   ·rename_i h3;rw[iJ h3]at h;cases h
   ·rename_i h3;rw[iQ h3]at h;cases h
  ·rename_i h2;rw[iQ h2]at h;exact w9 h
theorem nW {lv:List bz} {b:Int}:(JD lv b).length=lv.length:=by cases lv<;>rfl
theorem qXi {M:VM} {b:Int} (O:dz M):Q7 M (vZ M b).2:=by
 have ha:=Ox M b;unfold vZ
 repeat' split
 ·have ht:=ha.trans (vP (cs:=[(b-1,(jr M b).1.1)]) (J4 (b:=b) O));exact⟨ht.sz,ht.K,ht.most,nW.trans ht.len⟩
 ·exact ha.trans (vP (J4 O))
 ·exact ha
 ·exact ha
theorem qXB {M:VM} {b:Int} (h:(vZ M b).1=11):JQ M (vZ M b).2:=by
 unfold vZ at h ⊢
 split
 ·rename_i h1;rw[iJ h1]at h
  split
  ·rename_i h2;rw[iJ h2]at h
   split
   ·rename_i h3;rw[iJ h3]at h;cases h
   ·rename_i h3;rw[iQ h3]at h;exact(YP h).elim
  ·rename_i h2;rw[iQ h2]at h;cases h
 ·rename_i h1;rw[iQ h1]at h;exact ZY h
theorem Z9 {M:VM} {c b:Int} (O:dz M):Q7 M (xo M c b).2:=by
 unfold xo
 repeat' split
 ·exact .refl M
 ·exact(xG M _).trans (vP (xd O))
 ·exact(xG M _).trans (vP (xd O))
 ·exact xG M _
theorem qQh {M:VM} {c b:Int} (h:(xo M c b).1.2=11):JQ M (xo M c b).2:=by
 unfold xo at h ⊢
 split
 ·rename_i h1;rw[iJ h1]at h;cases h
 ·rename_i h1;rw[iQ h1]at h
  split
  ·rename_i h2;rw[iJ h2]at h
   split
   ·rename_i h3;rw[iJ h3]at h;cases h
   ·rename_i h3;rw[iQ h3]at h;exact(YP h).elim
  ·rename_i h2;rw[iQ h2]at h;exact w9 h
theorem Zo {M:VM} {c:Int} (O:dz M):Q7 M (xn M c).2:=by
 unfold xn
 repeat' split
 ·exact xG M _
 ·exact(xG M _).trans (vP (xd O))
 ·exact(xG M _).trans (vP (xd O))
 ·exact xG M _
theorem qQU {M:VM} {c:Int} (h:(xn M c).1.2=11):JQ M (xn M c).2:=by
 unfold xn at h ⊢
 split
 ·rename_i h1;rw[iJ h1]at h
  split
  ·rename_i h2;rw[iJ h2]at h;cases h
  ·rename_i h2;rw[iQ h2]at h
   split
   ·rename_i h3;rw[iJ h3]at h;cases h
   ·rename_i h3;rw[iQ h3]at h;exact(YP h).elim
 ·rename_i h1;rw[iQ h1]at h;exact w9 h
theorem UA {M:VM} {x:Int} (O:dz M):Q7 M (zd M x).2:=by
 unfold zd
 repeat' split
 ·exact .refl M
 ·exact(xG M _).trans (Zo (xd O))
 ·exact(xG M _).trans (Z9 (xd O))
 ·exact xG M _
theorem Z4 {M:VM} {x:Int} (h:(zd M x).1.2=11):JQ M (zd M x).2:=by
 unfold zd at h ⊢
 split
 ·rename_i h1;rw[iJ h1]at h;cases h
 ·rename_i h1;rw[iQ h1]at h
  split
  ·rename_i h2;rw[iJ h2]at h;have e:=Gv h2
   split
   ·rename_i h3;rw[iJ h3,e]at h;rw[e];exact qQU h
   ·rename_i h3;rw[iQ h3,e]at h;rw[e];exact qQh h
  ·rename_i h2;rw[iQ h2]at h;exact w9 h
theorem LR {M:VM} {x:Int} (W:nl M) (h:(zd M x).1.2=0):0≤(zd M x).1.1∧(zd M x).1.1≤2147483648:=by
 have hs:=My (xw x);unfold zd at h ⊢
 split
 ·rename_i h1;rw[iJ h1]at h;cases h
 ·rename_i h1;rw[iQ h1]at h
  split
  ·rename_i h2;rw[iJ h2]at h;have hr:=W.read (p:=xw x)
   split
   ·rename_i h3;rw[iJ h3]at h;have hr2:=(W.lX (p:=xw x)).read (p:=5);unfold xn at h ⊢
    split
    ·rename_i h4;rw[iJ h4]at h
     split
     ·rename_i h5;rw[iJ h5]at h;cases h
     ·rename_i h5
      split
      ·dsimp only;omega
      ·show(0:Int)≤0∧(0:Int)≤2147483648;omega
    ·show(0:Int)≤0∧(0:Int)≤2147483648;omega
   ·rename_i h3;rw[iQ h3]at h;unfold xo at h ⊢
    split
    ·rename_i h4;rw[iJ h4]at h;cases h
    ·split
     ·split
      ·dsimp only;omega
      ·show(0:Int)≤0∧(0:Int)≤2147483648;omega
     ·show(0:Int)≤0∧(0:Int)≤2147483648;omega
  ·show(0:Int)≤0∧(0:Int)≤2147483648;omega
structure Q3 (r:List Int):Prop where
  len:r.length=8
  bd:∀z∈r,0≤z∧z<18446744073709551616
theorem Q3.at {r:List Int} (h:Q3 r) (i:Int):0≤qO r i∧qO r i<18446744073709551616:=by
 unfold qO;cases hi:r[i.toNat]? with
 |none=>show(0:Int)≤0∧(0:Int)<18446744073709551616;omega
 |some z=>exact h.bd z (List.mem_of_getElem? hi)
theorem Q3.set {r:List Int} {i v:Int} (h:Q3 r) (hv:0≤v∧v<18446744073709551616):Q3 (r.set i.toNat v) :=
 ⟨by rw[List.length_set];exact h.len,λz hz=>by
  rcases List.mem_or_eq_of_mem_set hz with hz |rfl
  ·exact h.bd z hz
  ·exact hv⟩
structure r6 (l:List qa) (p:eX):Prop where
  aw:Q3 p.aw
  pc:∃k:Nat,p.pc=k∧k<l.length
  op:(p.op=14∨p.op=17∨p.op=18)∧(qT l p.pc).1=p.op
def cN:Nat→List eX→Prop
 |_,[]=>True
 |n,p::r=>p.told≤n∧cN p.told r
theorem cN.mono:∀{o:List eX} {n n':Nat},n≤n'→cN n o→cN n' o:=by
 intro o;cases o with
 |nil=>intro _ _ _ _;trivial
 |cons p r=>intro n n' h h2;exact⟨Nat.le_trans h2.1 h,h2.2⟩
structure GB (s:IM):Prop where
  aw:Q3 s.aw
  out:s.out.length≤16
  its:∀x∈s.out,Ca x
structure GI (l:List qa) (s:IM) (V:VM):Prop where
  gb:GB s
  pc:∃k:Nat,s.pc=k∧k≤l.length
  ly:∀p∈s.bg,r6 l p
  told:cN s.out.length s.bg
  Cg:s.bg.map (·.pc)=(qH l s.pc.toNat).reverse
  lv:V.lv.length=s.bg.length+1
  aH:jL V
theorem DL (z:Int):0≤zg .u64 z∧zg .u64 z<18446744073709551616:=by
  cases z with
  | ofNat a => show (0 : Int) ≤ Int.ofNat (a % 18446744073709551616) ∧ Int.ofNat (a % 18446744073709551616) < 18446744073709551616
               rw[iZ];omega
  | negSucc a => show (0 : Int) ≤ Int.ofNat (18446744073709551615 - a % 18446744073709551616) ∧ Int.ofNat (18446744073709551615 - a % 18446744073709551616) < 18446744073709551616
                 rw[iZ];omega
theorem LS (p:Prop) [Decidable p]:0≤XN p∧XN p<18446744073709551616:=by unfold XN;split<;>omega
theorem GB.dw {s:IM} {i v:Int} (h:GB s) (hv:0≤v∧v<18446744073709551616):GB (dw s i v):=⟨h.aw.set hv,h.out,h.its⟩
structure Yv (l:List qa) (s:IM) (V:VM) (r:SM):Prop where
  gb:GB r.s
  aH:jL r.v
  fr:bK r.v.lv≤bK V.lv+1
  sz:r.v.sz=V.sz
  K:r.v.K=V.K
  most:r.v.most=V.most
  next:r.e=0→r.br=false→GI l { r.s with pc:=r.nx } r.v
  aC:r.e=11→r.s=s∧JQ V r.v
  bl:r.br=true→r.e=0
theorem qQT {l:List qa} {i:Nat} (h1:z8 (qT l i).1=false) (h2:(qT l i).1≠18) (h3:jt (qT l i).1=0):qH l (i+1)=qH l i:=by rw[jP];unfold jk;rw[iQ (by rw[h1];simp[h2]),iQ omQ]
theorem GI.plain {l:List qa} {s s':IM} {V V':VM} {i:Nat} (G:GI l s V) (hi:s.pc=i) (ap:i<l.length) (h1:z8 (qT l i).1=false) (h2:(qT l i).1≠18) (h3:jt (qT l i).1=0)
  (gb:GB s') (ho:s'.bg=s.bg) (hl:s.out.length≤s'.out.length) (hv:V'.lv.length=V.lv.length) (hg:jL V'):GI l { s' with pc:=s.pc+1 } V':=by
 refine⟨⟨gb.aw,gb.out,gb.its⟩,⟨i+1,by show s.pc+1=_;omega,by omega⟩,by show∀p∈s'.bg,_;rw[ho];exact G.ly,by show cN s'.out.length s'.bg;rw[ho];exact G.told.mono hl,?_,by show V'.lv.length=s'.bg.length+1;rw[ho,hv];exact G.lv,hg⟩;show s'.bg.map _=(qH l (s.pc+1).toNat).reverse;rw[ho,hi,show((i:Int)+1).toNat=i+1 by omega,qQT h1 h2 h3,G.Cg,hi,Int.toNat_natCast]
theorem Ue {l:List qa} {s:IM} {V:VM} {op:Int} {p:Nat} {st:List Int} (gb:GB s) (hp:p<l.length) (ho:(op=14∨op=17∨op=18)∧(qT l (p:Int)).1=op) (ly:∀p∈s.bg,r6 l p) (told:cN s.out.length s.bg)
  (cP:s.bg.map (·.pc)=st.reverse) (sS:qH l (p+1)=st++[(p:Int)]) (lv:V.lv.length=s.bg.length+1) (hd:s.bg.length<5) (G:jL V) :
  (zf op p ((p:Int)+1) s V).e=0∧(zf op p ((p:Int)+1) s V).br=false∧(zf op p ((p:Int)+1) s V).nx=(p:Int)+1∧GI l { (zf op p ((p:Int)+1) s V).s with pc:=(p:Int)+1 } (zf op p ((p:Int)+1) s V).v∧
   (zf op p ((p:Int)+1) s V).v=(yc V).2:=by
 have h0:(yc V).1=0∧(yc V).2.lv=([],[])::V.lv:=by unfold yc kI;rw[iQ omQ];exact⟨rfl,rfl⟩
 unfold zf;rw[iJ h0.1];refine⟨rfl,rfl,rfl,⟨⟨gb.aw,gb.out,gb.its⟩,⟨p+1,rfl,by omega⟩,?_,⟨Nat.le_refl _,told⟩,?_,?_,G.pK.1⟩,rfl⟩
 ·intro q hq;rcases List.mem_cons.1 hq with rfl |hq
  ·exact⟨gb.aw,⟨p,rfl,hp⟩,ho⟩
  ·exact ly q hq
 ·show(p:Int)::s.bg.map _=(qH l ((p:Int)+1).toNat).reverse;rw[cP,show((p:Int)+1).toNat=p+1 by omega,sS,List.reverse_append];rfl
 ·show(yc V).2.lv.length=_;rw[h0.2,List.length_cons,lv];rfl
theorem VE {V:VM} (h:2≤V.lv.length):(xC V).1=0∧(xC V).2.lv=V.lv.tail:=by unfold xC kH;rw[iQ omQ];exact⟨rfl,rfl⟩
theorem VV {V:VM} (h:2≤V.lv.length):(y9 V).1=0∧(y9 V).2.lv.length+1=V.lv.length:=by
 unfold y9
 match hl:V.lv,h with
 |[],h=>simp at h
 |[x],h=>simp at h
 |x::y::r,_=>exact⟨rfl,by simp[QO]⟩
theorem cN.tail {n:Nat} {p:eX} {o:List eX} (h:cN n (p::o)):cN n o:=h.2.mono h.1
theorem Yv.plain {l:List qa} {s s':IM} {V V':VM} {i:Nat} {e:Int} (G:GI l s V) (hi:s.pc=i) (ap:i<l.length) (h1:z8 (qT l i).1=false) (h2:(qT l i).1≠18) (h3:jt (qT l i).1=0)
  (gb:GB s') (ho:s'.bg=s.bg) (hl:s.out.length≤s'.out.length) (hk:Q7 V V') (hg:jL V') (hf:bK V'.lv≤bK V.lv+1) (hn:e=11→s'=s∧JQ V V'):Yv l s V ⟨e,s.pc+1,false,s',V'⟩ :=
 ⟨gb,hg,hf,hk.sz,hk.K,hk.most,λ_ _=>G.plain hi ap h1 h2 h3 gb ho hl hk.len hg,hn,λh=>(by cases h)⟩
theorem Zs {l:List qa} (F:Fit l) {i:Nat} (ap:i<l.length) (ho:(qT l i).1=12∨(qT l i).1=13):∃c:Nat,(qT l i).2.2.2.1=c∧c≤l.length∧qH l c=qH l i:=by
 have hm:=(gR (F.ok i ap)).1;have hj:=F.jump i ap;generalize qT l i=x at*;have hc:0≤x.2.2.2.1∧x.2.2.2.1≤40:=by
  unfold Qy ji QK at hm;simp only[Bool.and_eq_true,decide_eq_true_eq]at hm;have:=hm.1.2;rcases ho with h |h
  ·rw[iQ omQ,iQ omQ,iQ omQ,iQ omQ,iJ h]at this;exact this
  ·rw[iQ omQ,iQ omQ,iQ omQ,iQ omQ,iQ omQ,iJ h]at this;exact this
 obtain⟨c,tJ⟩:∃c:Nat,x.2.2.2.1=c:=⟨x.2.2.2.1.toNat,by omega⟩;refine⟨c,tJ,?_⟩;unfold Qm at hj;rw[tJ]at hj;have hle:c≤l.length:=by
  rcases Nat.lt_or_ge l.length c with h |h
  ·exact absurd ⟨ho,.inl omQ⟩ hj
  ·exact h
 refine⟨hle,?_⟩;by_cases he:c=l.length
 ·subst he;rw[F.nil];have:qO (vE l 0 []) (i:Int)= -1:=Classical.not_not.1 λh=>hj ⟨ho,.inr (.inl ⟨rfl,h⟩)⟩;rw[gU F ap]at this
  exact(Classical.not_not.1 λh=>by
   have:=(Gc (l:=l) i).1.dL (λh'=>h h'.symm)
   omega:[]=qH l i)
 ·have:qO (vE l 0 []) (c:Int)=qO (vE l 0 []) (i:Int):=Classical.not_not.1 λh=>hj ⟨ho,.inr (.inr ⟨by omega,h⟩)⟩;rw[gU F ap,gU F omQ]at this;exact qGm this
theorem Ki {l:List qa} (F:Fit l):∀i,i≤l.length→(qH l i).length≤5:=by
 intro i
 induction i with
 |zero=>intro _;simp[qH]
 |succ i ih=>
  intro h;have h1:=ih omQ;have hw:=gR (F.ok i omQ);rw[jP];unfold jk
  repeat' split
  ·rename_i hb he;have cx:qH l i≠[]:=(xc (F.ok i omQ)).2.1 (.inl he);have:=List.length_pos_iff.2 cx;simp;omega
  ·rename_i hb he;rcases hb with hb |hb
   ·have:=hw.2.2.2 hb;simp;omega
   ·exact absurd (by rw[hb];decide) he
  ·simp;omega
  ·exact h1
theorem Jq {o:List eX} {p:eX} {st:List Int} (h:(p::o).map (·.pc)=st.reverse):st=st.dropLast++[p.pc]∧o.map (·.pc)=st.dropLast.reverse:=by
 have e:st=o.reverse.map (·.pc)++[p.pc]:=by have:=congrArg List.reverse h;rw[List.reverse_reverse]at this;rw[← this,List.map_cons,List.reverse_cons,List.map_reverse]
 have e2:st.dropLast=o.reverse.map (·.pc):=by rw[e,List.dropLast_concat]
 refine⟨by rw[e2];exact e,?_⟩;rw[e2,List.map_reverse,List.reverse_reverse]
def pL (l:List qa) (st:List Int):Prop:=∀k p:Nat,st[k]? =some (p:Int)→qH l (p+1)=st.take (k+1)
theorem pL.dropLast {l:List qa} {st:List Int} (h:pL l st):pL l st.dropLast:=by
 intro k p hk;have h1:=(List.getElem?_eq_some_iff.1 hk).1;have h2:k+1≤st.length-1:=by have:=h1;simp at this;omega
 rw[List.getElem?_dropLast]at hk
 split at hk
 ·rw[h k p hk,List.dropLast_eq_take,List.take_take,Nat.min_eq_left h2]
 ·cases hk
theorem GB.back {l:List qa} {s:IM} {p:eX} (g:GB s) (h:r6 l p):GB (QZ s p):=⟨h.aw,by
 show(s.out.take p.told).length≤16;have:=g.out
 simp;omega,λx hx=>g.its x (List.mem_of_mem_take hx)⟩
theorem qqu {l:List qa} {st:List Int} (hp:pL l st) {o:List eX} {p:eX} {q:Nat} (h:(p::o).map (·.pc)=st.reverse) (hq:p.pc=q):qH l (q+1)=st:=by
 have e:=(Jq h).1;have hl:st.length=st.dropLast.length+1:=by have:=congrArg List.length e;simpa using this
 have:=hp st.dropLast.length q (by rw[e,hq];simp);rw[this,List.take_of_length_le omQ]
theorem qQC {l:List qa} (F:Fit l) {s0:IM} {V0:VM}:∀(o:List eX) (s:IM) (V:VM) (st:List Int),pL l st→o.map (·.pc)=st.reverse→GB s→(∀p∈o,r6 l p)→cN s.out.length o→V.lv.length=o.length+1→jL V→
  bK V.lv≤bK V0.lv→V.sz=V0.sz→V.K=V0.K→V.most=V0.most→Yv l s0 V0 (ye (qp l) o s V):=by
 intro o
 induction o with
 |nil=>intro s V st hp hm gb _ _ r7 G hf h1 h2 h3;exact⟨⟨gb.aw,gb.out,gb.its⟩,G,by show bK V.lv≤_;omega,h1,h2,h3,λ_ h=>(by cases h),λh=>(by cases h),λ_=>rfl⟩
 |cons p o ih=>
  intro s V st hp hm gb ly told r7 G hf h1 h2 h3;have hd:=VE (V:=V) (by rw[r7];simp);have Ch:=G.cT;have Ci:(xC V).2.lv.length=o.length+1:=by rw[hd.2,List.length_tail,r7];simp
  have ur:=Jq hm;unfold ye;rw[iJ hd.1]
  split
  ·rename_i lG;have P:=ly p (iK ..);obtain⟨q,hq,FV⟩:=P.pc;have LU:(qT l (q:Int)).1=17:=by rw[← hq,P.op.2,lG]
   obtain⟨e,e1,e2,e3,e4,e5⟩:=JE F FV (.inr (.inl LU));have cP:=qqu hp hm hq;have Ak:(qT l (e:Int)).1=18:=by
    rw[LU]at e4;unfold jt at e4
    repeat' split at e4
    all_goals first |assumption |omega
   have FX:qH l (e+1)=st.dropLast++[(e:Int)]:=by rw[jP,e5,cP];unfold jk;rw[iJ (.inr Ak),iJ (by rw[Ak];decide)]
   have h5:=Ki F e omQ;rw[e5,cP]at h5;have hl5:st.length=st.dropLast.length+1:=by have:=congrArg List.length ur.1;simpa using this
   have fB:o.length=st.dropLast.length:=by have:=congrArg List.length ur.2;simpa using this
   have tc:GB { QZ s p with bg:=o }:=⟨(gb.back P).aw,(gb.back P).out,(gb.back P).its⟩;have Cj:cN (s.out.take p.told).length o:=by rw[List.length_take,Nat.min_eq_left told.1];exact told.2
   have key:=Ue (l:=l) (s:={ QZ s p with bg:=o }) (V:=(xC V).2) (op:=18) (p:=e) (st:=st.dropLast) tc e3 ⟨.inr (.inr rfl),Ak⟩ (λr hr=>ly r (iX _ hr)) Cj ur.2 FX Ci (by show o.length<5;omega) Ch.1;rw[hq,e1];obtain⟨k1,k2,k3,k4,k5⟩:=key;have FY:=Ch.1.pK;refine⟨k4.gb |> λg=>⟨g.aw,g.out,g.its⟩,k4.aH,?_,?_,?_,?_,λ_ _=>?_,λh=>(by rw[k1]at h;cases h),λh=>(by rw[k2]at h;cases h)⟩
   ·rw[k5,FY.2];have:=Ch.2;omega
   ·rw[k5];exact h1
   ·rw[k5];exact h2
   ·rw[k5];exact h3
   ·rw[k3];exact k4
  ·exact ih s (xC V).2 st.dropLast hp.dropLast ur.2 gb (λr hr=>ly r (iX _ hr)) told.tail Ci Ch.1 (by have:=Ch.2;omega) h1 h2 h3
theorem qQn {l:List qa} {s:IM} {V:VM} {x:qa} (G:GI l s V) (hf:bK V.lv<10000) :
  GB (zk s V x).2.1∧(zk s V x).2.1.bg=s.bg∧(zk s V x).2.1.out=s.out∧(zk s V x).2.1.pc=s.pc∧Q7 V (zk s V x).2.2∧jL (zk s V x).2.2∧bK (zk s V x).2.2.lv≤bK V.lv+1∧
   ((zk s V x).1=11→(zk s V x).2.1=s∧JQ V (zk s V x).2.2):=by
 have gb:=G.gb;have aH:=G.aH;have hr:=λi=>gb.aw.at i;have same:∀e:Int,e≠11→GB s∧s.bg=s.bg∧s.out=s.out∧s.pc=s.pc∧Q7 V V∧jL V∧bK V.lv≤bK V.lv+1∧(e=11→s=s∧JQ V V) :=
  λe he=>⟨gb,rfl,rfl,rfl,.refl V,aH,by omega,λh=>absurd h he⟩
 unfold zk
 split
 ·split
  ·split
   ·refine⟨gb.dw ?_,rfl,rfl,rfl,xG V _,aH.read,by rw[xe];omega,λh=>by cases h⟩;exact aH.wd.read
   ·exact⟨gb,rfl,rfl,rfl,xG V _,aH.read,by rw[xe];omega,λh=>⟨rfl,w9 h⟩⟩
  ·exact same 2 omQ
 ·split
  ·split
   ·exact⟨gb,rfl,rfl,rfl,vP aH.ok,aH.take (fL.B9 (hr _)),by rw[gC];omega,λh=>(YP h).elim⟩
   ·exact same 2 omQ
  ·split
   ·split
    ·exact same 3 omQ
    ·split
     ·rename_i h0;have hb:=LR (x:=qO s.aw x.2.2.1) aH.wd h0;exact⟨gb.dw omQ,rfl,rfl,rfl,UA aH.ok,(aH.alloc).1,by rw[(aH.alloc).2];omega,λh=>by cases h⟩
     ·exact⟨gb,rfl,rfl,rfl,UA aH.ok,(aH.alloc).1,by rw[(aH.alloc).2];omega,λh=>⟨rfl,Z4 h⟩⟩
   ·split
    ·exact same 2 omQ
    ·exact⟨gb,rfl,rfl,rfl,qXi aH.ok,(aH.free omQ).1,(aH.free omQ).2,λh=>⟨rfl,qXB h⟩⟩
theorem KQ {l:List qa} {s:IM} {V:VM} (G:GI l s V):s.bg.length=(qH l s.pc.toNat).length:=by have:=congrArg List.length G.Cg;simpa using this
theorem ND {l:List qa} (F:Fit l) {s:IM} {V:VM} (G:GI l s V) {i:Nat} (hi:s.pc=i) (ap:i<l.length) (hf:bK V.lv<10000) (hN:0≤(qT l i).2.2.2.2∧(qT l i).2.2.2.2<18446744073709551616) (hx:(qT l i).1≠23) :
  Yv l s V (b8 (qp l) s V (qT l i)):=by
 have hw:=gR (F.ok i ap);have DM:=xc (F.ok i ap);have lG:1≤(qT l i).1∧(qT l i).1≤23:=by have:=hw.1;unfold Qy at this;simp only[Bool.and_eq_true,decide_eq_true_eq]at this;exact this.1.1.1.1
 have u4:z8 (qT l i).1=decide ((qT l i).1=14∨(qT l i).1=17):=rfl;have dA:jt (qT l i).1=if(qT l i).1=15 then 14 else if(qT l i).1=18 then 17 else if(qT l i).1=19 then 18 else 0:=rfl
 have FZ:=λh=>Zs F ap h;have eP:=G.Cg;rw[hi,Int.toNat_natCast]at eP;have fB:=KQ G;rw[hi,Int.toNat_natCast]at fB;have hr:=λi=>G.gb.aw.at i;have hmb:=λh=>JE F ap h;have ot:=λh=>UQ F ap h;have F4:qH l (i+1)=jk (qH l i) i (qT l i).1:=jP;have plain:(qT l i).1≠14→(qT l i).1≠17→(qT l i).1≠15→(qT l i).1≠18→(qT l i).1≠19→z8 (qT l i).1=false∧(qT l i).1≠18∧jt (qT l i).1=0:=by intro a b c d e;refine⟨by rw[u4];exact iV omQ,d,?_⟩;rw[dA,iQ c,iQ d,iQ e]
 have keep:∀{s':IM} {V':VM} {e:Int},(qT l i).1≠14→(qT l i).1≠17→(qT l i).1≠15→(qT l i).1≠18→(qT l i).1≠19→GB s'→s'.bg=s.bg→s.out.length≤s'.out.length→Q7 V V'→jL V'→bK V'.lv≤bK V.lv+1→
   (e=11→s'=s∧JQ V V')→Yv l s V ⟨e,s.pc+1,false,s',V'⟩:=λa b c d e gb ho hl hk hg hf hn=>
  Yv.plain G hi ap (plain a b c d e).1 (plain a b c d e).2.1 (plain a b c d e).2.2 gb ho hl hk hg hf hn
 generalize hxe:qT l i=x at*;obtain⟨fg,fD,mH,eY⟩:=s;dsimp only at hi eP fB hr keep ⊢;unfold b8;have rA:∀v:Int,x.1≠14→x.1≠17→x.1≠15→x.1≠18→x.1≠19→0≤v∧v<18446744073709551616→Yv l ⟨fg,fD,mH,eY⟩ V ⟨0,mH+1,false,dw ⟨fg,fD,mH,eY⟩ x.2.1 v,V⟩ :=
  λv a b c d e hv=>keep a b c d e (G.gb.dw hv) rfl (Nat.le_refl _) (.refl V) G.aH omQ λh=>by cases h
 have jump:∀n:Int,(x.1=12∨x.1=13)→(n=x.2.2.2.1∨n=mH+1)→Yv l ⟨fg,fD,mH,eY⟩ V ⟨0,n,false,⟨fg,fD,mH,eY⟩,V⟩:=by
  intro n ho hn;rcases hn with rfl |rfl
  ·obtain⟨c,c1,c2,c3⟩:=FZ ho;refine⟨G.gb,G.aH,Nat.le_succ _,rfl,rfl,rfl,λ_ _=>⟨⟨G.gb.aw,G.gb.out,G.gb.its⟩,⟨c,c1,c2⟩,G.ly,G.told,?_,G.lv,G.aH⟩,λh=>(by cases h),λh=>(by cases h)⟩;show eY.map _=(qH l x.2.2.2.1.toNat).reverse;rw[c1,Int.toNat_natCast,c3];exact eP
  ·exact keep omQ omQ omQ omQ omQ G.gb rfl (Nat.le_refl _) (.refl V) G.aH omQ λh=>by cases h
 by_cases c1:x.1=1
 ·rw[iJ c1];exact rA _ omQ omQ omQ omQ omQ hN
 rw[iQ c1];by_cases c2:x.1=2
 ·rw[iJ c2];exact rA _ omQ omQ omQ omQ omQ (hr _)
 rw[iQ c2];by_cases c3:x.1=3
 ·rw[iJ c3];exact rA _ omQ omQ omQ omQ omQ (DL _)
 rw[iQ c3];by_cases c4:x.1=4
 ·rw[iJ c4];exact rA _ omQ omQ omQ omQ omQ (DL _)
 rw[iQ c4];by_cases c5:x.1=5
 ·rw[iJ c5];exact rA _ omQ omQ omQ omQ omQ (DL _)
 rw[iQ c5];by_cases c6:x.1=6
 ·rw[iJ c6];exact rA _ omQ omQ omQ omQ omQ (LS _)
 rw[iQ c6];by_cases c7:x.1=7
 ·rw[iJ c7];exact rA _ omQ omQ omQ omQ omQ (LS _)
 rw[iQ c7];by_cases nX:x.1=12
 ·rw[iJ nX];exact jump _ (.inl nX) (.inl rfl)
 rw[iQ nX];by_cases nY:x.1=13
 ·rw[iJ nY];by_cases cz:qO fg x.2.1=0
  ·rw[iJ cz];exact jump _ (.inr nY) (.inl rfl)
  ·rw[iQ cz];exact jump _ (.inr nY) (.inr rfl)
 rw[iQ nY];by_cases rB:x.1=21
 ·rw[iJ rB];have hk:∀e:Int,e≠11→Yv l ⟨fg,fD,mH,eY⟩ V ⟨e,mH+1,false,⟨fg,fD,mH,eY⟩,V⟩:=λe he=>
   keep omQ omQ omQ omQ omQ G.gb rfl (Nat.le_refl _) (.refl V) G.aH (Nat.le_succ _) λh=>absurd h he
  by_cases hlen:16≤fD.length
  ·rw[iJ hlen];exact hk 5 omQ
  ·rw[iQ hlen];refine keep omQ omQ omQ omQ omQ ⟨G.gb.aw,?_,?_⟩ rfl ?_ (.refl V) G.aH (Nat.le_succ _) λh=>by cases h
   ·show(fD++[_]).length≤16;simp;omega
   ·intro y hy;rcases List.mem_append.1 hy with hy |hy
    ·exact G.gb.its y hy
    ·rw[List.mem_singleton]at hy;subst hy;exact hr _
   ·show fD.length≤(fD++[_]).length;simp
 rw[iQ rB];by_cases td:x.1=22
 ·rw[iJ td];exact keep omQ omQ omQ omQ omQ G.gb rfl (Nat.le_refl _) (.refl V) G.aH (Nat.le_succ _) λh=>by cases h
 rw[iQ td];by_cases c8:x.1=8∨x.1=9∨x.1=10∨x.1=11
 ·rw[iJ c8];obtain⟨t1,t2,t3,t4,t5,t6,t7,t8⟩:=qQn (x:=x) G hf;exact keep omQ omQ omQ omQ omQ t1 t2 (by rw[t3];exact Nat.le_refl _) t5 t6 t7 t8
 rw[iQ c8];unfold kZ;by_cases h:x.1=14∨x.1=17
 ·rw[iJ h];dsimp only;subst hi;have hb:z8 x.1=true:=by rw[u4];exact iG h
  have he:¬0<jt x.1:=by rw[dA,iQ omQ,iQ omQ,iQ omQ];omega
  have key:=Ue (l:=l) (s:=⟨fg,fD,(i:Int),eY⟩) (V:=V) (op:=x.1) (p:=i) (st:=qH l i) G.gb ap ⟨by omega,by rw[hxe]⟩ G.ly G.told eP (by rw[F4];unfold jk;rw[iJ (.inl hb),iQ he]) G.lv (by show eY.length<5;rw[fB];exact hw.2.2.2 hb) G.aH;obtain⟨k1,k2,k3,k4,k5⟩:=key;have FY:=G.aH.pK;refine⟨k4.gb |> λg=>⟨g.aw,g.out,g.its⟩,k4.aH,?_,?_,?_,?_,λ_ _=>?_,λh=>(by rw[k1]at h;cases h),λh=>(by rw[k2]at h;cases h)⟩
  ·rw[k5,FY.2];omega
  ·rw[k5];rfl
  ·rw[k5];rfl
  ·rw[k5];rfl
  ·rw[k3];exact k4
 rw[iQ h];clear h;by_cases h:x.1=15∨x.1=19
 ·rw[iJ h];have he:0<jt x.1:=by rw[dA];rcases h with h |h<;>rw[h]<;>decide
  have cx:=DM.2.1 (.inl he)
  match eY,fB,eP,G with
  |[],fB,_,_=>exact absurd (iA fB.symm) cx
  |p::o,fB,eP,G=>
   have hk:=VV (V:=V) (by rw[G.lv];simp);have pM:=G.aH.s8 omQ;have r7:=G.lv
   refine⟨⟨G.gb.aw,G.gb.out,G.gb.its⟩,pM.1,by rw[pM.2];omega,rfl,rfl,rfl,λ_ _=>⟨⟨G.gb.aw,G.gb.out,G.gb.its⟩,⟨i+1,by show mH+1=_;omega,by omega⟩,λq hq=>G.ly q (iX _ hq),G.told.tail,?_,?_,pM.1⟩,λh0=>(by
    dsimp only at h0;rw[hk.1]at h0;cases h0),λh=>(by cases h)⟩
   ·show o.map _=(qH l (mH+1).toNat).reverse;rw[hi,show((i:Int)+1).toNat=i+1 by omega,F4];unfold jk;rw[iQ (by rw[u4];simp;omega),iJ he];exact(Jq eP).2
   ·show(y9 V).2.lv.length=o.length+1;have:=hk.2;simp at r7;omega
 rw[iQ h];clear h;by_cases h:x.1=18
 ·rw[iJ h];have he:0<jt x.1:=by rw[dA];rw[h];decide
  have cx:=DM.2.1 (.inl he);obtain⟨e,e1,e2,e3,e4,e5⟩:=hmb (.inr (.inr h));have Ak:(qT l (e:Int)).1=19:=by
   rw[h]at e4;unfold jt at e4
   repeat' split at e4
   all_goals first |assumption |omega
  match eY,fB,eP,G with
  |[],fB,_,_=>exact absurd (iA fB.symm) cx
  |p::o,fB,eP,G=>
   have hk:=VV (V:=V) (by rw[G.lv];simp);have pM:=G.aH.s8 omQ;have r7:=G.lv
   refine⟨⟨G.gb.aw,G.gb.out,G.gb.its⟩,pM.1,by rw[pM.2];omega,rfl,rfl,rfl,λ_ _=>⟨⟨G.gb.aw,G.gb.out,G.gb.its⟩,⟨e+1,by show qO (qp l) mH+1=_;rw[hi,e1];omega,by omega⟩,λq hq=>G.ly q (iX _ hq),G.told.tail,?_,?_,pM.1⟩,λh0=>(by
    dsimp only at h0;rw[hk.1]at h0;cases h0),λh=>(by cases h)⟩
   ·show o.map _=(qH l (qO (qp l) mH+1).toNat).reverse;rw[hi,e1,show((e:Int)+1).toNat=e+1 by omega,jP,e5,F4];unfold jk;rw[iQ (by rw[Ak];decide),iJ (by rw[Ak];decide),iJ (.inr h),iJ he,List.dropLast_concat];exact(Jq eP).2
   ·show(y9 V).2.lv.length=o.length+1;have:=hk.2;simp at r7;omega
 rw[iQ h];clear h;by_cases h:x.1=16
 ·rw[iJ h];obtain⟨e,e1,e2,e3,e4,cx⟩:=ot h
  match eY,fB,eP,G with
  |[],fB,_,_=>exact absurd (iA fB.symm) cx
  |p::o,fB,eP,G=>
   have hk:=VE (V:=V) (by rw[G.lv];simp);have pM:=G.aH.cT;have r7:=G.lv;have P:=G.ly p (iK ..);have told:=G.told;have tc:=G.gb.back P
   refine⟨⟨tc.aw,tc.out,tc.its⟩,pM.1,by have:=pM.2;dsimp only;omega,rfl,rfl,rfl,λ_ _=>⟨⟨tc.aw,tc.out,tc.its⟩,⟨e+1,by show qO (qp l) mH+1=_;rw[hi,e1];omega,by omega⟩,λq hq=>G.ly q (iX _ hq),?_,?_,?_,pM.1⟩,λh0=>(by
    dsimp only at h0;rw[hk.1]at h0;cases h0),λh=>(by cases h)⟩
   ·show cN (fD.take p.told).length o;rw[List.length_take,Nat.min_eq_left told.1];exact told.2
   ·show o.map _=(qH l (qO (qp l) mH+1).toNat).reverse;rw[hi,e1,show((e:Int)+1).toNat=e+1 by omega,jP,e4];unfold jk;rw[iQ (by rw[e3];decide),iJ (by rw[e3];decide)];exact(Jq eP).2
   ·show(xC V).2.lv.length=o.length+1;rw[hk.2,List.length_tail,r7];simp
 ·rw[iQ h];exact qQC F eY _ V (qH l i) (Vf i) eP G.gb G.ly G.told G.lv G.aH (Nat.le_refl _) rfl rfl rfl
end
section
variable {g h:AH} {L R:List SP}
theorem Ny {b off n sz a:Nat} {k:IntKind} {K:AV→Go.Ae.R} {Q:AV→AH→Prop} (ha:a<n) (w:wp (K (.ptr b (off+a*sz))) Q):wp (QJ (.ptr b off) (.int k (a:Int)) n sz K) Q:=by unfold QJ;show wp (bif Nat.ble (a+1) n then _ else none) Q;rw[iY (show a+1≤n from ha)];exact w
theorem F5 {z:Int} (h0:0≤z):∃a:Nat,z.tmod ((8:Nat):Int)=a∧a<8∧(z<8→z=a):=by refine⟨(z%8).toNat,?_,by omega,λh=>by omega⟩;rw[Int.tmod_eq_emod_of_nonneg h0];omega
def LV (r:List Int):List AV:=[.int .u64 (qO r 0),.int .u64 (qO r 1),.int .u64 (qO r 2),.int .u64 (qO r 3),.int .u64 (qO r 4),.int .u64 (qO r 5),.int .u64 (qO r 6),.int .u64 (qO r 7)]
def yF (p:eX):List AV:=[.int .i64 p.op,.int .i64 p.pc,.int .u64 (qO p.aw 0),.int .u64 (qO p.aw 1),.int .u64 (qO p.aw 2),.int .u64 (qO p.aw 3),.int .u64 (qO p.aw 4),.int .u64 (qO p.aw 5),.int .u64 (qO p.aw 6),.int .u64 (qO p.aw 7),.int .i64 (p.told:Int)]
def vm (c mv ov:AV) (v o:Nat) (bad err fin left nx pc:Int) (r:List Int):List AV :=
 [c,.ptr v 0,mv,.int .i64 bad,.int .i64 err,.int .i64 fin,.int .u64 (qO r 0),.int .u64 (qO r 1),.int .u64 (qO r 2),.int .u64 (qO r 3),.int .u64 (qO r 4),.int .u64 (qO r 5),.int .u64 (qO r 6),.int .u64 (qO r 7),
  .ptr o 0,.int .i64 pc,.int .i64 nx,.int .i64 left,ov]
section
variable {c mv ov:AV} {v o:Nat} {bad err fin left nx pc:Int} {r:List Int}
theorem Xn {a:Nat} (ha:a<8):(vm c mv ov v o bad err fin left nx pc r)[6+a*1]? =some (.int .u64 (qO r (a:Int))):=by
 rcases(show a=0∨a=1∨a=2∨a=3∨a=4∨a=5∨a=6∨a=7 by omega)with rfl |rfl |rfl |rfl |rfl |rfl |rfl |rfl<;>rfl
theorem qXr {i k:Nat} {z:Int} (hi:i<r.length):qO (r.set i z) (k:Int)=if i=k then z else qO r (k:Int):=by
 unfold qO;rw[Int.toNat_natCast,List.getElem?_set]
 split
 ·rename_i h;subst h;simp[hi]
 ·rfl
theorem qkC {a:Nat} {z:Int} (hr:r.length=8) (ha:a<8):(vm c mv ov v o bad err fin left nx pc r).set (6+a*1) (.int .u64 z)=vm c mv ov v o bad err fin left nx pc (r.set a z):=by have hs:=λk:Nat=>qXr (r:=r) (i:=a) (k:=k) (z:=z) omQ;have e0:=hs 0;have e1:=hs 1;have e2:=hs 2;have e3:=hs 3;have e4:=hs 4;have e5:=hs 5;have e6:=hs 6;have e7:=hs 7;simp only[iZ,show((0:Nat):Int)=0 from rfl,show((1:Nat):Int)=1 from rfl,show((2:Nat):Int)=2 from rfl,show((3:Nat):Int)=3 from rfl,show((4:Nat):Int)=4 from rfl,show((5:Nat):Int)=5 from rfl,show((6:Nat):Int)=6 from rfl,show((7:Nat):Int)=7 from rfl]at e0 e1 e2 e3 e4 e5 e6 e7;unfold vm;rw[e0,e1,e2,e3,e4,e5,e6,e7];rcases(show a=0∨a=1∨a=2∨a=3∨a=4∨a=5∨a=6∨a=7 by omega)with rfl |rfl |rfl |rfl |rfl |rfl |rfl |rfl<;>rfl
end
def aJ (x v:Nat) (l:List qa) (bad:Int) (mt:List Int) (s:IM) (err fin left nx:Int):SP:=.ex λc=>.ex λmv=>.ex λov=>.ex λo=>.all
 [qy x (vm c mv ov v o bad err fin left nx s.pc s.aw),qD 26 5 l.length c (l.flatMap zD),qD 3 1 mt.length mv (mt.map (.int .i64)),bu o s.out,qD 289 11 s.bg.length ov (s.bg.reverse.flatMap yF)]
section
variable {x v:Nat} {l:List qa} {bad:Int} {mt:List Int} {s:IM} {err fin left nx:Int}
theorem aJ.E (H:HS g h (aJ x v l bad mt s err fin left nx::R)):∃c mv ov o,HS g h (qy x (vm c mv ov v o bad err fin left nx s.pc s.aw)::qD 26 5 l.length c (l.flatMap zD)::qD 3 1 mt.length mv (mt.map (.int .i64))::bu o s.out::
  qD 289 11 s.bg.length ov (s.bg.reverse.flatMap yF)::R):=by
 obtain⟨c,H⟩:=H.dU;obtain⟨mv,H⟩:=H.dU;obtain⟨ov,H⟩:=H.dU;obtain⟨o,H⟩:=H.dU;exact⟨c,mv,ov,o,H.cq⟩
theorem aJ.I {c mv ov:AV} {o:Nat} (H:HS g h (qy x (vm c mv ov v o bad err fin left nx s.pc s.aw)::qD 26 5 l.length c (l.flatMap zD)::qD 3 1 mt.length mv (mt.map (.int .i64))::bu o s.out::
  qD 289 11 s.bg.length ov (s.bg.reverse.flatMap yF)::R)):HS g h (aJ x v l bad mt s err fin left nx::R) :=
 HS.en c (HS.en mv (HS.en ov (HS.en o H.allI)))
theorem qx4 {n o:Nat} (hn:1≤n) {l:List iH} (H:HS g h (bu o l::R)):aA n 297 [.ptr o 0] h λr h'=>r=.int .i64 (l.length:Int)∧h'=h:=by
 refine aB (S:=S297) rfl omQ λk hk=>?_;unfold S297;try simp only[iZ]
 obtain⟨sv,H⟩:=bu.E H;refine qK (qQ (qX ‹_› .here rfl ?_));refine qm ‹_› e_1 ?_;exact qY ⟨rfl,rfl⟩
theorem qzM {n o:Nat} (hn:1≤n) {l:List iH} {x:iH} (H:HS g h (bu o l::R)) (hl:l.length≤16) :
  aA n 209 [.ptr o 0,QQ x] h λr h'=>r=.bool (decide (l.length<16))∧HS g h' (bu o (if l.length<16 then l++[x]else l)::R):=by
 refine ba (S:=S209) rfl omQ λk hk=>?_;unfold S209;try simp only[iZ]
 obtain⟨sv,H⟩:=bu.E H;by_cases h1:l.length<16
 ·rw[iJ h1,iG h1];refine qK (qQ (qX ‹_› .here rfl ?_));refine qm ‹_› e_1 ?_;refine zY omQ ?_;refine qJ (qK (qQ (qX ‹_› .here rfl ?_)))
  refine qf (n:=1) (l:=[QQ x]) (sz:=1) H rfl rfl (by
   have e:=(J9 x).1
   simp only[xT,e,yI];rfl) (yl (J9 x)) λv2 h2 H2=>?_
  refine ju (H2.aI e_2) (H2.sl .here) omQ omQ (yl (J9 x)) λv3 h3 H3=>?_;have o3:=H3.one .here;refine qK (qQ (qw H3 (b:=o) e_2 o3 aN λh4 H4=>?_));refine qY ⟨rfl,bu.I (sv:=v3) ?_⟩;rw[List.length_append,List.map_append];exact H4.sub (.cons .here (.cons .here (.drop .refl)))
 ·rw[iQ h1,iV h1];refine qK (qQ (qX ‹_› .here rfl ?_));refine qm ‹_› e_1 ?_;refine zy omQ ?_;refine qZ ?_;exact qY ⟨rfl,bu.I H⟩
theorem qjP {n o:Nat} (hn:2≤n) {l:List iH} {u:Int} (H:HS g h (bu o l::R)) (hl:l.length≤16) :
  aA n 189 [.ptr o 0,.int .u64 u] h λr h'=>r=.bool (decide (l.length<16))∧HS g h' (bu o (if l.length<16 then l++[(1,u)]else l)::R):=by
 refine ba (S:=S189) rfl omQ λk hk=>?_;unfold S189;try simp only[iZ]
 refine qG (qzM (x:=(1,u)) omQ H hl) ?_;rintro _ h2 ⟨rfl,H2⟩;exact qY ⟨rfl,H2⟩
theorem V7 {n m:Nat} (hn:1≤n) {e:TypeId} {v:AV} {xs:List AV} (H:HS g h L) (s:bc L (qD e 1 m v xs) R) (ha:ql xs=true) (hm:m≤1000000) :
  aA n 178 [v] h λr h'=>HS g h' (qD 20 1 m r xs::L):=by
 refine aB (S:=S178) rfl omQ λk hk=>?_;unfold S178;try simp only[iZ]
 refine Qh H s (λh1 h2=>?_) ?_
 ·subst h1 h2;have hx:xs=[]:=iA (by simpa using H.cZ s);subst hx;exact qZ (qY H.ak)
 ·refine qJ (qf (n:=0) (l:=[]) (sz:=1) H rfl rfl rfl rfl λv2 h2 H2=>?_);refine ju H2 (H2.sl (.there s)) omQ omQ ha λv3 h3 H3=>?_;rw[Nat.zero_add,List.nil_append]at H3;exact qY H3
theorem qGL {n o:Nat} (hn:2≤n) {l:List iH} (H:HS g h (bu o l::R)) (hl:l.length≤16) :
  aA n 146 [.ptr o 0] h λr h'=>∃p,r=.ptr p 0∧HS g h' (bu p l::bu o l::R):=by
 refine aB (S:=S146) rfl omQ λk hk=>?_;unfold S146;try simp only[iZ]
 obtain⟨sv,H⟩:=bu.E H;refine qK (qQ (qX ‹_› .here rfl ?_));refine qG (V7 omQ H e_1 (UE l) omQ) ?_;intro cv h2 H2;have oc:=H2.one .here;refine qL (l:=[cv]) (by simp only[xT,oc.1];rfl) ?_;refine qI H2 (yl oc) λp h3 H3=>qY ⟨p,rfl,?_⟩;have H4:=bu.I (o:=p) (l:=l) (sv:=cv) (R:=qy o [sv]::qD 20 1 l.length sv (l.map QQ)::R) H3;exact HS.cm e_1 (bu.I (o:=o) (l:=l) (sv:=sv) (R:=bu p l::R) (H4.sub (.cons e_1 (.cons e_1 (.cons .here .refl)))))
theorem qzF {n o m:Nat} (hn:2≤n) {l:List iH} (H:HS g h (bu o l::R)) (hl:l.length≤16) (hm:m≤l.length) :
  aA n 299 [.ptr o 0,.int .i64 (m:Int)] h λ_ h'=>HS g h' (bu o (l.take m)::R):=by
 refine ba (S:=S299) rfl omQ λk hk=>?_;unfold S299;try simp only[iZ]
 obtain⟨sv,H⟩:=bu.E H;refine qK (qQ (qX ‹_› .here rfl ?_));refine qK (qQ (qX ‹_› .here rfl ?_));refine qm ‹_› e_1 ?_;refine zz (zh ?_);rw[show max ((0:Nat):Int) (min (m:Int) (l.length:Int))=(m:Int) by omega];refine Gu (H.aI e_1) omQ hm λv2 H2=>?_;rw[Nat.mul_one,← List.map_take]at H2;refine qG (V7 omQ H2 .here (UE _) omQ) ?_;intro cv h3 H3;have oc:=H3.one .here;refine qK (qQ (qw H3 (b:=o) e_2 oc aN λh4 H4=>?_));refine qY (bu.I (sv:=cv) ?_);rw[show(l.take m).length=m by simp;omega];exact H4.sub (.cons .here (.cons .here (.drop .refl)))
theorem MK {n:Nat} (hn:1≤n) {p:Prop} [Decidable p]:aA n 188 [.bool (decide p)] h λr h'=>r=.int .u64 (XN p)∧h'=h:=by
 refine aB (S:=S188) rfl omQ λk hk=>?_;unfold S188;try simp only[iZ]
 unfold XN;by_cases hp:p
 ·rw[iG hp,iJ hp];exact qZ (qY ⟨rfl,rfl⟩)
 ·rw[iV hp,iQ hp];exact qJ (qY ⟨rfl,rfl⟩)
theorem OJ {n:Nat} (hn:1≤n) {e:Int} (H:HS g h (aJ x v l bad mt s err fin left nx::R)) :
  aA n 159 [.ptr x 0,.int .i64 e] h λ_ h'=>HS g h' (aJ x v l bad mt s e 4 left nx::R):=by
 refine ba (S:=S159) rfl omQ λk hk=>?_;unfold S159;try simp only[iZ]
 obtain⟨c,mv,ov,o,H⟩:=aJ.E H;unfold vm at H;refine qK (qQ (qw H (b:=x) .here ⟨rfl,rfl⟩ aN λh1 H1=>?_));refine qK (qQ (qw H1 (b:=x) .here ⟨rfl,rfl⟩ aN λh2 H2=>?_));exact qY (aJ.I H2)
theorem qzE {n:Nat} (hn:1≤n) (H:HS g h (aJ x v l bad mt s err fin left nx::R)):aA n 134 [.ptr x 0] h λr h'=>r=.int .i64 err∧h'=h:=by
 refine aB (S:=S134) rfl omQ λk hk=>?_;unfold S134;try simp only[iZ]
 obtain⟨c,mv,ov,o,H⟩:=aJ.E H;unfold vm at H;refine qK (qQ (qX ‹_› .here rfl ?_));exact qY ⟨rfl,rfl⟩
theorem qKP {n:Nat} (hn:3≤n) (H:HS g h (aJ x v l bad mt s err fin left nx::R)) (hl:s.out.length≤16) :
  aA n 119 [.ptr x 0] h λr h'=>∃p,r=.ptr p 0∧HS g h' (bu p s.out::aJ x v l bad mt s err fin left nx::R):=by
 refine aB (S:=S119) rfl omQ λk hk=>?_;unfold S119;try simp only[iZ]
 obtain⟨c,mv,ov,o,H⟩:=aJ.E H;unfold vm at H;refine qK (qQ (qX ‹_› .here rfl ?_));refine qG (qGL omQ (H.aI (P:=bu o s.out) e_3) hl) ?_;rintro _ h2 ⟨p,rfl,H2⟩;refine qY ⟨p,rfl,?_⟩;exact HS.cm e_1 (aJ.I (c:=c) (mv:=mv) (ov:=ov) (o:=o) (R:=bu p s.out::R) (H2.sub (.cons e_2 (.cons e_2 (.cons e_2 (.cons e_1 (.cons e_1 .refl)))))))
theorem Va {n:Nat} (hn:1≤n) {b off:Int} (hb:0≤b∧b<18446744073709551616) (ho:0≤off∧off≤100):aA n 224 [.int .u64 b,.int .i64 off] h λr h'=>r=.bJ [.int .i64 (yj b off).1,.int .i64 (yj b off).2]∧h'=h:=by
 refine ba (S:=S224) rfl omQ λk hk=>?_;unfold S224;try simp only[iZ]
 unfold yj;by_cases h1:2147483648≤b
 ·rw[iJ (.inl h1)];refine zy omQ ?_;refine qW ?_;(try dsimp only);refine jZ ?_;(try dsimp only);refine qC (qW ?_);(try dsimp only);refine jZ ?_;(try dsimp only);refine qC (qZ ?_)
  exact qY ⟨rfl,rfl⟩
 ·refine zY omQ ?_;refine qW ?_;(try dsimp only);refine qc ?_;(try dsimp only);refine xV omQ ?_;refine qU omQ ?_
  by_cases h2:2147483648≤b+off
  ·rw[iJ (.inr (.inl h2))];refine zy omQ ?_;refine qF (qW ?_);(try dsimp only);refine jZ ?_;(try dsimp only);refine qC (qZ ?_)
   exact qY ⟨rfl,rfl⟩
  ·refine zY omQ ?_;refine qF (qW ?_);(try dsimp only);refine qc ?_;(try dsimp only);refine xV omQ ?_;refine qU omQ ?_
   by_cases h3:b+off<6
   ·rw[iJ (.inr (.inr h3))];refine jH omQ ?_;refine qF (qZ ?_);exact qY ⟨rfl,rfl⟩
   ·rw[iQ omQ];refine jz omQ ?_;refine qF (qJ (xV omQ ?_));refine qU omQ ?_;exact qY ⟨rfl,rfl⟩
theorem qVp {most:Nat} {lv:List bz} {p z:Int} (h:¬(vF most lv p z).1=0):(vF most lv p z).2=lv:=by
 cases lv with
 |nil=>rfl
 |cons y r=>
  unfold vF at h ⊢;dsimp only at h ⊢
  split
  ·rfl
  ·rename_i h1;rw[iQ h1]at h
   split
   ·rfl
   ·rename_i h2;rw[iQ h2]at h;exact absurd rfl h
theorem qKA {n:Nat} (hn:6≤n) {v:Nat} {M:VM} {p z:Int} (H:HS g h (ab v M::R)) (O:dz M) :
  aA n 225 [.ptr v 0,.int .i64 p,.int .u64 z] h λr h'=>r=.int .i64 (zV M [(p,z)]).1∧HS g h' (ab v (zV M [(p,z)]).2::R):=by
 refine cL (S:=S225) rfl omQ λk hk=>?_;unfold S225;try simp only[iZ]
 refine qG (NT omQ H) ?_;rintro _ _ ⟨rfl,rfl⟩;by_cases hp:1≤p∧p<M.sz
 ·rw[iG hp];obtain⟨fv,ov,q,e,H⟩:=ab.E H;refine jA (qJ (qK (qQ (qX ‹_› .here rfl ?_))));refine qG (LD omQ (H.aI (P:=bP q M.most M.lv) e_3) O.ic) ?_;rintro _ h2 ⟨rfl,H2⟩;have e2:zV M [(p,z)]=((vF M.most M.lv p z).1,{ M with lv:=(vF M.most M.lv p z).2 }):=by
   unfold zV;rw[iJ (by intro c hc;rw[List.mem_singleton]at hc;subst hc;exact hp),vM]
   split
   ·rename_i h0;rw[h0];rfl
   ·rename_i h0;have hx:=qVp h0;rw[hx]
  rw[e2];exact qY ⟨rfl,ab.I (M:={ M with lv:=(vF M.most M.lv p z).2 }) (fv:=fv) (ov:=ov) (q:=q) (e:=e) (H2.sub (.cons e_1 (.cons e_1 (.cons e_1 (.refl)))))⟩
 ·rw[iV hp];have e2:zV M [(p,z)]=(2,M):=by
   unfold zV;rw[iQ (λhh=>hp (hh (p,z) (List.mem_singleton_self _)))]
  rw[e2];refine jF (qZ ?_);exact qY ⟨rfl,H⟩
end
end
section
variable {g h:AH} {L R:List SP}
section
variable {x v:Nat} {l:List qa} {bad:Int} {mt:List Int} {s:IM} {err fin left nx:Int}
theorem qG0 (o:List eX):(o.reverse.flatMap yF).length=o.length*11:=by rw[YB (sz:=11) _ (λ_=>rfl),List.length_reverse]
theorem qqC (p:eX):ql (yF p)=true:=rfl
theorem VH (p:eX) (o:List eX):(p::o).reverse.flatMap yF=o.reverse.flatMap yF++yF p:=by rw[List.reverse_cons,List.flatMap_append];simp
theorem Jf {n:Nat} (hn:1≤n) {p:eX} {o:List eX} (ho:s.bg=p::o) (dt:o.length≤100) (H:HS g h (aJ x v l bad mt s err fin left nx::R)) :
  aA n 229 [.ptr x 0] h λr h'=>r=.agg (yF p)∧HS g h' (aJ x v l bad mt { s with bg:=o } err fin left nx::R):=by
 refine aB (S:=S229) rfl omQ λk hk=>?_;unfold S229;try simp only[iZ]
 obtain⟨c,mv,ov,q,H⟩:=aJ.E H;rw[ho,VH,List.length_cons]at H;have fB:=qG0 o;generalize hA:o.reverse.flatMap yF=A at*;unfold vm at H;refine qI H rfl λb0 h1 H1=>?_;clear H;refine qK (qQ (qX ‹_› e_1 rfl ?_));refine qK (qQ (qX ‹_› e_1 rfl ?_));refine qm ‹_› e_5 ?_;refine zB omQ ?_;rw[show((o.length+1:Nat):Int)-((1:Nat):Int)=(o.length:Int) by omega]
 refine zS (l:=yF p) (H1.sl e_5) (i:=o.length) omQ omQ (by
  rw[List.drop_append_of_le_length omQ,List.drop_of_length_le omQ,List.nil_append];rfl) ?_
 refine qI H1 rfl λb2 h3 H3=>qd H3 .here rfl (by show 0+11≤11;omega) rfl λh4 H4=>?_
 have H5:HS g h4 (qy b2 (yF p)::qy b0 [.int .i64 ((0:Nat):Int),.int .i64 ((0:Nat):Int),.int .u64 ((0:Nat):Int),.int .u64 ((0:Nat):Int),.int .u64 ((0:Nat):Int),.int .u64 ((0:Nat):Int),.int .u64 ((0:Nat):Int),.int .u64 ((0:Nat):Int),.int .u64 ((0:Nat):Int),.int .u64 ((0:Nat):Int),.int .i64 ((0:Nat):Int)]::
  qy x (vm c mv ov v q bad err fin left nx s.pc s.aw)::qD 26 5 l.length c (l.flatMap zD)::qD 3 1 mt.length mv (mt.map (.int .i64))::bu q s.out::
  qD 289 11 (o.length+1) ov (A++yF p)::R):=H4
 clear H1 H3 H4;unfold vm at H5;refine qK (qQ (qX ‹_› e_2 rfl ?_));refine qK (qQ (qX ‹_› e_2 rfl ?_));refine qm ‹_› e_6 ?_;refine zB omQ ?_;rw[show((o.length+1:Nat):Int)-((1:Nat):Int)=(o.length:Int) by omega];refine Gu (hi:=o.length) (H5.aI e_6) omQ omQ λv6 H6=>?_;rw[List.take_append_of_le_length omQ,List.take_of_length_le omQ]at H6;have o6:=H6.one .here;clear H5;refine qK (qQ (qw H6 (b:=x) e_3 o6 aN λh7 H7=>?_));refine qE H7 (b:=b2) (off:=0) e_2 rfl omQ (l:=yF p) rfl ?_;refine qd H7 (b:=b0) e_3 rfl (by show 0+11≤11;omega) rfl λh8 H8=>?_
 have H8:HS g h8 (qy b0 (yF p)::qy x (vm c mv v6 v q bad err fin left nx s.pc s.aw)::qD 289 11 o.length v6 A::qy b2 (yF p)::
  qD 26 5 l.length c (l.flatMap zD)::qD 3 1 mt.length mv (mt.map (.int .i64))::bu q s.out::R):=H8
 refine qE H8 (b:=b0) (off:=0) .here rfl omQ (l:=yF p) rfl ?_;refine qY ⟨rfl,aJ.I (s:={ s with bg:=o }) (c:=c) (mv:=mv) (ov:=v6) (o:=q) ?_⟩
 show HS g h8 (qy x (vm c mv v6 v q bad err fin left nx s.pc s.aw)::qD 26 5 l.length c (l.flatMap zD)::qD 3 1 mt.length mv (mt.map (.int .i64))::bu q s.out::
  qD 289 11 o.length v6 (o.reverse.flatMap yF)::R)
 rw[hA];exact H8.sub (.cons e_1 (.cons e_3 (.cons e_3 (.cons e_3 (.cons e_1 (.drop (.drop .refl)))))))
theorem OI {n:Nat} (hn:3≤n) {p:eX} (ht:p.told≤s.out.length) (hl:s.out.length≤16) (H:HS g h (aJ x v l bad mt s err fin left nx::R)) :
  aA n 231 [.ptr x 0,.agg (yF p)] h λ_ h'=>HS g h' (aJ x v l bad mt (QZ s p) err fin left nx::R):=by
 refine ba (S:=S231) rfl omQ λk hk=>?_;unfold S231;try simp only[iZ]
 refine qI H (qqC p) λb0 h1 H1=>?_;obtain⟨c,mv,ov,q,H2⟩:=aJ.E (H1.aI (P:=aJ x v l bad mt s err fin left nx) e_1);clear H H1;refine qQ (qE H2 (b:=b0) (off:=2) e_5 rfl omQ (l:=LV p.aw) rfl ?_);refine qK (qQ ?_);refine qd H2 (b:=x) .here rfl (by show 6+8≤19;omega) rfl λh3 H3=>?_
 have H3:HS g h3 (qy x (vm c mv ov v q bad err fin left nx s.pc p.aw)::qD 26 5 l.length c (l.flatMap zD)::qD 3 1 mt.length mv (mt.map (.int .i64))::bu q s.out::
  qD 289 11 s.bg.length ov (s.bg.reverse.flatMap yF)::qy b0 (yF p)::R):=H3
 clear H2;have H4:=H3;unfold vm yF at H4;refine qK (qQ (qX ‹_› .here rfl ?_));refine qQ (qX ‹_› e_5 rfl ?_);refine qG (qzF omQ (H3.aI (P:=bu q s.out) e_3) hl ht) ?_;intro _ h5 H5;clear H4 H3;exact qY (aJ.I (s:=QZ s p) (c:=c) (mv:=mv) (ov:=ov) (o:=q) (H5.sub (.cons e_1 (.cons e_1 (.cons e_1 (.cons .here (.cons .here (.drop .refl))))))))
theorem Vs {n:Nat} (hn:5≤n) {op at_ nx0:Int} {V:VM} (O:dz V) (dt:s.bg.length≤100) (H:HS g h (aJ x v l bad mt s err fin left nx::ab v V::R)) :
  aA n 228 [.ptr x 0,.int .i64 op,.int .i64 at_] h λr h'=>r=.int .i64 (zf op at_ nx0 s V).e∧HS g h' (aJ x v l bad mt (zf op at_ nx0 s V).s err fin left nx::ab v (zf op at_ nx0 s V).v::R):=by
 refine cL (S:=S228) rfl omQ λk hk=>?_;unfold S228;try simp only[iZ]
 obtain⟨c,mv,ov,q,H⟩:=aJ.E H;unfold vm at H;refine qK (qQ (qX ‹_› .here rfl ?_));refine qG (qWO omQ (H.aI (P:=ab v V) e_5) O) ?_;rintro _ h2 ⟨rfl,H2⟩
 have H2:HS g h2 (ab v (yc V).2::qy x (vm c mv ov v q bad err fin left nx s.pc s.aw)::qD 26 5 l.length c (l.flatMap zD)::qD 3 1 mt.length mv (mt.map (.int .i64))::bu q s.out::
  qD 289 11 s.bg.length ov (s.bg.reverse.flatMap yF)::R):=H2
 clear H;unfold zf;by_cases h0:(yc V).1=0
 ·rw[iJ h0];refine jJ h0 (qJ ?_);have H3:=H2;unfold vm at H3;refine qW ?_
  try dsimp only
  refine qK (qQ ?_);refine qX H2 (b:=x) e_1 rfl ?_;refine qK (qQ ?_);refine qE H2 (b:=x) (off:=6) e_1 rfl omQ (l:=LV s.aw) rfl ?_;refine qK (qQ ?_);refine qX H2 (b:=x) e_1 rfl ?_;refine qG (qx4 omQ (H2.aI (P:=bu q s.out) e_4)) ?_;rintro _ _ ⟨rfl,rfl⟩;refine qL (l:=yF ⟨op,at_,s.aw,s.out.length⟩) rfl ?_;refine qf (n:=1) (l:=yF ⟨op,at_,s.aw,s.out.length⟩) (sz:=11) H2 rfl rfl rfl rfl λv4 h4 H4=>?_;refine ju (H4.aI e_6) (H4.sl .here) omQ omQ rfl λv5 h5 H5=>?_;have o5:=H5.one .here;refine qK (qQ ?_);refine qw H5 (b:=x) e_3 o5 (by show 18<19;omega) λh6 H6=>?_;refine zO H2 (b:=x) e_1 rfl H2 e_1 rfl rfl omQ (HS.lt H2 e_1) ?_;refine qb H2 (b:=x) e_1 rfl H2 e_1 rfl (HS.lt H2 e_1) ?_;refine qY ⟨rfl,aJ.I (s:={ s with bg:=⟨op,at_,s.aw,s.out.length⟩::s.bg }) (c:=c) (mv:=mv) (ov:=v5) (o:=q) ?_⟩
  show HS g h6 (qy x (vm c mv v5 v q bad err fin left nx s.pc s.aw)::qD 26 5 l.length c (l.flatMap zD)::qD 3 1 mt.length mv (mt.map (.int .i64))::bu q s.out::
   qD 289 11 (s.bg.length+1) v5 ((⟨op,at_,s.aw,s.out.length⟩::s.bg).reverse.flatMap yF)::ab v (yc V).2::R)
  rw[VH];exact H6.sub (.cons .here (.cons e_3 (.cons e_3 (.cons e_3 (.cons .here (.drop .refl))))))
 ·rw[iQ h0];refine jQ h0 (qZ ?_);exact qY ⟨rfl,aJ.I (s:=s) (c:=c) (mv:=mv) (ov:=ov) (o:=q) (H2.sub (.cons e_1 (.cons e_1 (.cons e_1 (.cons e_1 (.cons e_1 .refl))))))⟩
end
end
section
variable {g h:AH} {L R:List SP}
section
variable {x v:Nat} {l:List qa} {bad:Int} {mt:List Int} {s:IM} {err fin left nx:Int}
def eh (mt:List Int) (p:Int):Prop:=∃k:Nat,p=k∧∃z:Int,mt[k]? =some z∧ -1≤z∧z≤1000
theorem eh.num {mt:List Int} {p z:Int} {k:Nat} (h1:p=k) (h2:mt[k]? =some z):qO mt p=z:=by unfold qO;rw[h1,Int.toNat_natCast,h2];rfl
theorem eh.idx {mt:List Int} {k:Nat} {z:Int} (h:mt[k]? =some z):(mt.map (AV.int .i64))[k]? =some (.int .i64 z)∧k<mt.length:=by refine⟨by rw[List.getElem?_map,h];rfl,(List.getElem?_eq_some_iff.1 h).1⟩
theorem qKh {n:Nat} (hn:8≤n) {V:VM} (G:jL V) (dt:s.bg.length≤100) (fm:s.out.length≤16) (told:cN s.out.length s.bg) (hm:∀p∈s.bg,p.op=17→eh mt p.pc) (LW:0≤s.pc∧s.pc≤100)
  (H:HS g h (aJ x v l bad mt s err 0 left (s.pc+1)::ab v V::R)) :
  aA n 233 [.ptr x 0] h λr h'=>r=.int .i64 (ye mt s.bg s V).e∧
   HS g h' (aJ x v l bad mt (ye mt s.bg s V).s err (if(ye mt s.bg s V).br=true then 3 else 0) left (ye mt s.bg s V).nx::ab v (ye mt s.bg s V).v::R):=by
 refine aB (S:=S233) rfl omQ λk hk=>?_;unfold S233;try simp only[iZ]
 generalize hD:ye mt s.bg s V=D;have hs:s={ s with bg:=s.bg }:=rfl;refine jR (λm st h'=>∃(o:List eX) (V':VM),st=(.ptr x 0,())∧m=o.length∧o.length≤100∧HS g h' (aJ x v l bad mt { s with bg:=o } err 0 left (s.pc+1)::ab v V'::R)∧jL V'∧cN s.out.length o∧(∀p∈o,p.op=17→eh mt p.pc)∧ye mt o s V'=D)
  ?_ (m:=s.bg.length) (by show _<1000000000;omega) ⟨s.bg,V,rfl,rfl,dt,H,G,told,hm,hD⟩
 clear H G told hm hD dt hs;rintro m ih st h2 bF ⟨o,V,rfl,rfl,dt,H,G,told,hm,hD⟩;dsimp only;obtain⟨c,mv,ov,q,H1⟩:=aJ.E H
 have H1:HS g h2 (qy x (vm c mv ov v q bad err 0 left (s.pc+1) s.pc s.aw)::qD 26 5 l.length c (l.flatMap zD)::qD 3 1 mt.length mv (mt.map (.int .i64))::bu q s.out::
  qD 289 11 o.length ov (o.reverse.flatMap yF)::ab v V::R):=H1
 refine qK (qQ (qX H1 (b:=x) .here rfl ?_));refine qm H1 e_4 ?_;cases o with
 |nil=>refine yU aN (qJ ?_);refine qK (qQ (qX H1 (b:=x) .here rfl ?_));refine qK (qQ ?_);refine qw H1 (b:=x) .here ⟨rfl,rfl⟩ (by show 16<19;omega) λh3 H3=>?_;refine qK (qQ ?_);refine qw H3 (b:=x) .here ⟨rfl,rfl⟩ (by show 5<19;omega) λh4 H4=>?_;subst hD;exact qx (qY ⟨rfl,aJ.I (s:={ s with bg:=[] }) (c:=c) (mv:=mv) (ov:=ov) (o:=q) H4⟩)
 |cons p o=>
  refine y8 (by rw[List.length_cons];omega) (qZ ?_);refine qG (Jf (s:={ s with bg:=p::o }) (p:=p) (o:=o) omQ rfl (by simp at dt;omega) H) ?_;rintro _ h3 ⟨rfl,H3⟩;clear H H1;refine qI H3 rfl λb h4 H4=>qd H4 .here rfl (by show 0+11≤11;omega) rfl λh5 H5=>?_;have H5:HS g h5 (qy b (yF p)::aJ x v l bad mt { s with bg:=o } err 0 left (s.pc+1)::ab v V::R):=H5;clear H3 H4;obtain⟨c,mv,ov,q,H6⟩:=aJ.E (H5.aI (P:=aJ x v l bad mt { s with bg:=o } err 0 left (s.pc+1)) e_1)
  have H6:HS g h5 (qy x (vm c mv ov v q bad err 0 left (s.pc+1) s.pc s.aw)::qD 26 5 l.length c (l.flatMap zD)::qD 3 1 mt.length mv (mt.map (.int .i64))::bu q s.out::
   qD 289 11 o.length ov (o.reverse.flatMap yF)::qy b (yF p)::ab v V::R):=H6
  refine qK (qQ (qX H6 (b:=x) .here rfl ?_));clear H6;refine qG (Nd omQ (H5.aI (P:=ab v V) e_2) G.ok) ?_;rintro _ h6 ⟨rfl,H6⟩;have GD:=G.cT;clear H5;unfold ye at hD;by_cases h0:(xC V).1=0
  ·rw[iJ h0]at hD;refine jJ h0 (qJ ?_);refine qQ (qX H6 (b:=b) e_1 rfl ?_);by_cases ou:p.op=17
   ·rw[iJ ou]at hD;refine qk ou (qZ ?_);refine qE H6 (b:=b) (off:=0) e_1 rfl omQ (l:=yF p) rfl ?_;have H7:=H6.sub (L':=aJ x v l bad mt { s with bg:=o } err 0 left (s.pc+1)::ab v (xC V).2::qy b (yF p)::R) (.cons e_2 (.cons .here (.cons .here .refl)));refine qG (OI (s:={ s with bg:=o }) (p:=p) omQ told.1 fm H7) ?_;intro _ h8 H8;clear H6 H7;obtain⟨c,mv,ov,q,H9⟩:=aJ.E H8
    have H9:HS g h8 (qy x (vm c mv ov v q bad err 0 left (s.pc+1) s.pc p.aw)::qD 26 5 l.length c (l.flatMap zD)::qD 3 1 mt.length mv (mt.map (.int .i64))::bu q (s.out.take p.told)::
     qD 289 11 o.length ov (o.reverse.flatMap yF)::ab v (xC V).2::qy b (yF p)::R):=H9
    clear H8;obtain⟨kk,lP,z,mX,DF,LX⟩:=hm p (iK ..) ou;rw[eh.num lP mX]at hD;refine qK (qQ (qX H9 (b:=x) .here rfl ?_));refine qQ (qX H9 (b:=b) e_6 rfl ?_);rw[lP];refine jb (H9.sl e_2) (eh.idx mX).1 ?_;refine qU omQ ?_;refine qK (qQ ?_);refine qw H9 (b:=x) .here ⟨rfl,rfl⟩ (by show 16<19;omega) λeu fK=>?_;have nk:HS g eu (aJ x v l bad mt { QZ s p with bg:=o } err 0 left (z+1)::ab v (xC V).2::qy b (yF p)::R):=aJ.I (s:={ QZ s p with bg:=o }) (c:=c) (mv:=mv) (ov:=ov) (o:=q) fK;clear H9 fK;refine qG (Vs (s:={ QZ s p with bg:=o }) (nx0:=z+1) omQ GD.1.ok (by simp at dt;show o.length≤100;omega) nk) ?_;rintro _ nS ⟨rfl,bT⟩;subst hD;have hb:(zf 18 z (z+1) { QZ s p with bg:=o } (xC V).2).br=false∧(zf 18 z (z+1) { QZ s p with bg:=o } (xC V).2).nx=z+1:=by unfold zf;split<;>exact⟨rfl,rfl⟩
    refine qx (qY ⟨rfl,?_⟩);rw[hb.1,hb.2];exact bT.sub (.cons .here (.cons .here (.drop .refl)))
   ·rw[iQ ou]at hD;refine qj ou (qJ ?_);exact bF o.length _ _ aN ⟨o,(xC V).2,rfl,rfl,by simp at dt;omega,H6.sub (.cons e_2 (.cons .here (.drop .refl))),GD.1,told.tail,λr hr=>hm r (iX _ hr),hD⟩
  ·rw[iQ h0]at hD;refine jQ h0 (qZ ?_);subst hD;exact qx (qY ⟨rfl,H6.sub (.cons e_2 (.cons .here (.drop .refl)))⟩)
theorem qGT {n:Nat} (hn:9≤n) {V:VM} {i:qa} (G:jL V) (dt:s.bg.length≤100) (fm:s.out.length≤16) (told:cN s.out.length s.bg) (hm:∀p∈s.bg,p.op=17→eh mt p.pc) (LW:0≤s.pc∧s.pc≤100)
  (cx:i.1=15∨i.1=19∨i.1=18∨i.1=16→s.bg≠[]) (ur:i.1=18∨i.1=16→eh mt s.pc) (H:HS g h (aJ x v l bad mt s err 0 left (s.pc+1)::ab v V::R)) :
  aA n 192 [.ptr x 0,.agg (zD i)] h λr h'=>r=.int .i64 (kZ mt s V i.1).e∧
   HS g h' (aJ x v l bad mt (kZ mt s V i.1).s err (if(kZ mt s V i.1).br=true then 3 else 0) left (kZ mt s V i.1).nx::ab v (kZ mt s V i.1).v::R):=by
 refine ba (S:=S192) rfl omQ λk hk=>?_;unfold S192;try simp only[iZ]
 refine qI H rfl λb h1 H1=>?_;clear H;have H1:HS g h1 (qy b (zD i)::aJ x v l bad mt s err 0 left (s.pc+1)::ab v V::R):=H1;refine qQ (qX H1 (b:=b) .here rfl ?_);refine qW ?_
 try dsimp only
 unfold kZ;have HB:=H1.sub (L':=aJ x v l bad mt s err 0 left (s.pc+1)::ab v V::qy b (zD i)::R) (.cons e_1 (.cons e_1 (.cons .here .refl)));by_cases c1:i.1=14∨i.1=17
 ·rw[iJ c1]
  have key:wp (qn (.ptr b 0) 0 λv8=>jB h1 v8 λv9=>xM (.ptr x 0) λv10=>qn v10 15 λv11=>jB h1 v11 λv12=>
    zA (callT tab qz k) (.fn 228 [] []) [.ptr x 0,v9,v12] h1 λpz ue=>zo [] ue λmg=>some (pz,mg)) λr h'=>r=.int .i64 (zf i.1 s.pc (s.pc+1) s V).e∧
   HS g h' (aJ x v l bad mt (zf i.1 s.pc (s.pc+1) s V).s err (if(zf i.1 s.pc (s.pc+1) s V).br=true then 3 else 0) left (zf i.1 s.pc (s.pc+1) s V).nx::ab v (zf i.1 s.pc (s.pc+1) s V).v::R):=by
   refine qQ (qX H1 (b:=b) .here rfl ?_);obtain⟨c,mv,ov,q,H2⟩:=aJ.E HB;refine qK (qQ (qX H2 (b:=x) .here rfl ?_));refine qG (Vs (nx0:=s.pc+1) omQ G.ok dt HB) ?_;rintro _ nS ⟨rfl,bT⟩;have hb:(zf i.1 s.pc (s.pc+1) s V).br=false∧(zf i.1 s.pc (s.pc+1) s V).nx=s.pc+1:=by unfold zf;split<;>exact⟨rfl,rfl⟩
   refine qx (qY ⟨rfl,?_⟩);rw[hb.1,hb.2];exact bT.sub (.cons .here (.cons .here (.drop .refl)))
  by_cases c2:i.1=14
  ·refine qk c2 (qZ (qZ ?_));exact key
  ·refine qj c2 (qJ ?_);refine qk omQ (qZ ?_);exact key
 ·rw[iQ c1];refine qj omQ (qJ ?_);refine qj omQ (qJ ?_);refine qW ?_
  try dsimp only
  by_cases c3:i.1=15∨i.1=19
  ·rw[iJ c3]
   have key:wp (zA (callT tab qz k) (.fn 229 [] []) [.ptr x 0] h1 λ_ DE=>xM (.ptr x 0) λv22=>qn v22 1 λrq=>jB DE rq λv24=>
     zA (callT tab qz k) (.fn 230 [] []) [v24] DE λoo DN=>zo [] DN λui=>some (oo,ui)) λr h'=>r=.int .i64 (y9 V).1∧
    HS g h' (aJ x v l bad mt { s with bg:=s.bg.tail } err (if false=true then 3 else 0) left (s.pc+1)::ab v (y9 V).2::R):=by
    obtain⟨p,o,ho⟩:∃p o,s.bg=p::o:=List.exists_cons_of_ne_nil (cx omQ);refine qG (Jf (p:=p) (o:=o) omQ ho (by rw[ho]at dt;simp at dt;omega) HB) ?_;rintro _ h3 ⟨-,H3⟩;obtain⟨c,mv,ov,q,H4⟩:=aJ.E H3;refine qK (qQ (qX H4 (b:=x) .here rfl ?_));refine qG (ZL omQ (H3.aI (P:=ab v V) e_1) G.ok) ?_;rintro _ h5 ⟨rfl,H5⟩;refine qx (qY ⟨rfl,?_⟩);rw[ho];exact H5.sub (.cons e_1 (.cons .here (.drop .refl)))
   by_cases c4:i.1=15
   ·refine qk c4 (qZ (qZ ?_));exact key
   ·refine qj c4 (qJ ?_);refine qk omQ (qZ ?_);exact key
  ·rw[iQ c3];refine qj omQ (qJ ?_);refine qj omQ (qJ ?_);by_cases c5:i.1=18
   ·rw[iJ c5];refine qk c5 (qZ ?_);obtain⟨p,o,ho⟩:∃p o,s.bg=p::o:=List.exists_cons_of_ne_nil (cx omQ);refine qG (Jf (p:=p) (o:=o) omQ ho (by rw[ho]at dt;simp at dt;omega) HB) ?_;rintro _ h3 ⟨-,H3⟩;obtain⟨c,mv,ov,q,H4⟩:=aJ.E H3
    have H4:HS g h3 (qy x (vm c mv ov v q bad err 0 left (s.pc+1) s.pc s.aw)::qD 26 5 l.length c (l.flatMap zD)::qD 3 1 mt.length mv (mt.map (.int .i64))::bu q s.out::
     qD 289 11 o.length ov (o.reverse.flatMap yF)::ab v V::qy b (zD i)::R):=H4
    obtain⟨kk,lP,z,mX,DF,LX⟩:=ur (.inl c5);rw[eh.num lP mX,ho];refine qK (qQ (qX H4 (b:=x) .here rfl ?_));refine qK (qQ (qX H4 (b:=x) .here rfl ?_));rw[lP];refine jb (H4.sl e_2) (eh.idx mX).1 ?_;refine qU omQ ?_;refine qK (qQ ?_);rw[← lP];refine qw H4 (b:=x) .here ⟨rfl,rfl⟩ (by show 16<19;omega) λeu fK=>?_;refine qK (qQ (qX fK (b:=x) .here rfl ?_));have nk:HS g eu (aJ x v l bad mt { s with bg:=o } err 0 left (z+1)::ab v V::qy b (zD i)::R):=aJ.I (s:={ s with bg:=o }) (c:=c) (mv:=mv) (ov:=ov) (o:=q) fK;refine qG (ZL omQ (nk.aI (P:=ab v V) e_1) G.ok) ?_;rintro _ h5 ⟨rfl,H5⟩;exact qx (qY ⟨rfl,H5.sub (.cons e_1 (.cons .here (.drop .refl)))⟩)
   ·rw[iQ c5];refine qj c5 (qJ ?_);by_cases c6:i.1=16
    ·rw[iJ c6];refine qk c6 (qZ ?_);obtain⟨p,o,ho⟩:∃p o,s.bg=p::o:=List.exists_cons_of_ne_nil (cx omQ);refine qG (Jf (p:=p) (o:=o) omQ ho (by rw[ho]at dt;simp at dt;omega) HB) ?_;rintro _ h3 ⟨rfl,H3⟩;rw[ho]at told;refine qG (OI (s:={ s with bg:=o }) (p:=p) omQ told.1 fm H3) ?_;intro _ h4 H4';obtain⟨c,mv,ov,q,H4⟩:=aJ.E H4'
     have H4:HS g h4 (qy x (vm c mv ov v q bad err 0 left (s.pc+1) s.pc p.aw)::qD 26 5 l.length c (l.flatMap zD)::qD 3 1 mt.length mv (mt.map (.int .i64))::bu q (s.out.take p.told)::
      qD 289 11 o.length ov (o.reverse.flatMap yF)::ab v V::qy b (zD i)::R):=H4
     obtain⟨kk,lP,z,mX,DF,LX⟩:=ur (.inr c6);rw[eh.num lP mX,ho];refine qK (qQ (qX H4 (b:=x) .here rfl ?_));refine qK (qQ (qX H4 (b:=x) .here rfl ?_));rw[lP];refine jb (H4.sl e_2) (eh.idx mX).1 ?_;refine qU omQ ?_;refine qK (qQ ?_);refine qw H4 (b:=x) .here ⟨rfl,rfl⟩ (by show 16<19;omega) λeu fK=>?_;refine qK (qQ (qX fK (b:=x) .here rfl ?_));have nk:HS g eu (aJ x v l bad mt { QZ s p with bg:=o } err 0 left (z+1)::ab v V::qy b (zD i)::R):=aJ.I (s:={ QZ s p with bg:=o }) (c:=c) (mv:=mv) (ov:=ov) (o:=q) fK;refine qG (Nd omQ (nk.aI (P:=ab v V) e_1) G.ok) ?_;rintro _ h5 ⟨rfl,H5⟩;exact qx (qY ⟨rfl,H5.sub (.cons e_1 (.cons .here (.drop .refl)))⟩)
    ·rw[iQ c6];refine qj c6 (qJ ?_);refine qG (qKh omQ G dt fm told hm LW HB) ?_;rintro _ h3 ⟨rfl,H3⟩;exact qx (qY ⟨rfl,H3.sub (.cons .here (.cons .here (.drop .refl)))⟩)
end
end
section
variable {g h:AH} {L R:List SP}
section
variable {x v:Nat} {l:List qa} {bad:Int} {mt:List Int} {s:IM} {err fin left nx:Int}
theorem F6 {c mv ov:AV} {q a:Nat} {z:Int} {ai:Int} (hr:s.aw.length=8) (ha:a<8) (F7:ai=a)
  (H:HS g h (qy x ((vm c mv ov v q bad err fin left nx s.pc s.aw).set (6+a*1) (.int .u64 z))::qD 26 5 l.length c (l.flatMap zD)::qD 3 1 mt.length mv (mt.map (.int .i64))::bu q s.out::
  qD 289 11 s.bg.length ov (s.bg.reverse.flatMap yF)::R)):HS g h (aJ x v l bad mt (dw s ai z) err fin left nx::R):=by
 rw[qkC hr ha]at H;have e:s.aw.set a z=(dw s ai z).aw:=by unfold dw;rw[F7,Int.toNat_natCast]
 rw[e]at H;exact aJ.I (s:=dw s ai z) H
theorem qX3 {n:Nat} (hn:12≤n) {V:VM} {i:qa} {a:Nat} (G:jL V) (ro:Q3 s.aw) (lG:i.1=8∨i.1=9∨i.1=10∨i.1=11) (ha:a<8) (F7:i.2.1=a) (hc:0≤i.2.2.2.1∧i.2.2.2.1≤100)
  (H:HS g h (aJ x v l bad mt s err fin left nx::ab v V::R)) :
  aA n 191 [.ptr x 0,.agg (zD i),.ptr x (6+a*1),.int .u64 (qO s.aw i.2.2.1)] h λr h'=>r=.int .i64 (zk s V i).1∧
   HS g h' (aJ x v l bad mt (zk s V i).2.1 err fin left nx::ab v (zk s V i).2.2::R):=by
 refine pu (S:=S191) rfl omQ λk hk=>?_;unfold S191;try simp only[iZ]
 refine qI H rfl λb h1 H1=>?_;clear H;have H1:HS g h1 (qy b (zD i)::aJ x v l bad mt s err fin left nx::ab v V::R):=H1;have HB:=H1.sub (L':=aJ x v l bad mt s err fin left nx::ab v V::qy b (zD i)::R) (.cons e_1 (.cons e_1 (.cons .here .refl)));obtain⟨c,mv,ov,q,H2⟩:=aJ.E HB;refine qQ (qX H1 (b:=b) .here rfl ?_);have hra:=ro.at (a:Int);have hrb:=ro.at i.2.2.1;unfold zk;rw[F7];by_cases c8:i.1=8
 ·rw[iJ c8];refine qk c8 (qZ ?_);refine qQ (qX H1 (b:=b) .here rfl ?_);refine qG (Va omQ hrb hc) ?_;rintro _ _ ⟨rfl,rfl⟩;refine qB rfl (qB rfl ?_);by_cases h0:(yj (qO s.aw i.2.2.1) i.2.2.2.1).2=0
  ·rw[iJ h0];refine jJ h0 (qJ ?_);refine qK (qQ (qX H2 (b:=x) .here rfl ?_));refine qG (QU omQ (HB.aI (P:=ab v V) e_1) G.ok) ?_;rintro _ h3 ⟨rfl,H3⟩;refine qB rfl (qB rfl ?_);refine qW ?_
   try dsimp only
   by_cases h4:(qe V (yj (qO s.aw i.2.2.1) i.2.2.2.1).1).1.2=0
   ·rw[iJ h4];refine qk h4 (qZ ?_);obtain⟨c,mv,ov,q,H5⟩:=aJ.E (H3.aI (P:=aJ x v l bad mt s err fin left nx) e_1);refine qK (qw H5 (b:=x) .here ⟨rfl,rfl⟩ (by show 6+a*1<19;omega) λh6 H6=>?_);refine qx (qY ⟨by rw[h4],?_⟩);exact(F6 ro.len ha rfl H6).sub (.cons .here (.cons .here (.drop .refl)))
   ·rw[iQ h4];refine qj h4 (qJ ?_);exact qx (qY ⟨rfl,H3.sub (.cons e_1 (.cons .here (.drop .refl)))⟩)
  ·rw[iQ h0];refine jQ h0 (qZ ?_);refine qY ⟨?_,HB.sub (.cons .here (.cons .here (.drop .refl)))⟩;unfold yj at h0 ⊢
   split
   ·rfl
   ·rename_i hh;rw[iQ hh]at h0;exact absurd rfl h0
 ·rw[iQ c8];refine qj c8 (qJ ?_);by_cases c9:i.1=9
  ·rw[iJ c9];refine qk c9 (qZ ?_);refine qK (qX H2 (b:=x) .here (Xn ha) ?_);refine qQ (qX H1 (b:=b) .here rfl ?_);refine qG (Va omQ hra hc) ?_;rintro _ _ ⟨rfl,rfl⟩;refine qB rfl (qB rfl ?_);by_cases h0:(yj (qO s.aw (a:Int)) i.2.2.2.1).2=0
   ·rw[iJ h0];refine jJ h0 (qJ ?_);refine qK (qQ (qX H2 (b:=x) .here rfl ?_));refine qG (qKA omQ (HB.aI (P:=ab v V) e_1) G.ok) ?_;rintro _ h3 ⟨rfl,H3⟩;exact qY ⟨rfl,H3.sub (.cons e_1 (.cons .here (.drop .refl)))⟩
   ·rw[iQ h0];refine jQ h0 (qZ ?_);refine qY ⟨?_,HB.sub (.cons .here (.cons .here (.drop .refl)))⟩;unfold yj at h0 ⊢
    split
    ·rfl
    ·rename_i hh;rw[iQ hh]at h0;exact absurd rfl h0
  ·rw[iQ c9];refine qj c9 (qJ ?_);by_cases DO:i.1=10
   ·rw[iJ DO];refine qk DO (qZ ?_);by_cases h0:2147483648≤qO s.aw i.2.2.1
    ·rw[iJ h0];refine zy omQ (qZ ?_);exact qY ⟨rfl,HB.sub (.cons .here (.cons .here (.drop .refl)))⟩
    ·rw[iQ h0];refine zY omQ (qJ ?_);refine qK (qQ (qX H2 (b:=x) .here rfl ?_));refine xV omQ ?_;refine qG (qZn omQ (HB.aI (P:=ab v V) e_1) G.ok G.wd) ?_;rintro _ h3 ⟨rfl,H3⟩;refine qB rfl (qB rfl ?_);refine qW ?_
     try dsimp only
     by_cases h4:(zd V (qO s.aw i.2.2.1)).1.2=0
     ·rw[iJ h4];have hb:=LR (x:=qO s.aw i.2.2.1) G.wd h4;refine qk h4 (qZ ?_);obtain⟨c,mv,ov,q,H5⟩:=aJ.E (H3.aI (P:=aJ x v l bad mt s err fin left nx) e_1);refine gc omQ (qK ?_);refine qw H5 (b:=x) .here ⟨rfl,rfl⟩ (by show 6+a*1<19;omega) λh6 H6=>?_;refine qx (qY ⟨by rw[h4],?_⟩);exact(F6 ro.len ha rfl H6).sub (.cons .here (.cons .here (.drop .refl)))
     ·rw[iQ h4];refine qj h4 (qJ ?_);exact qx (qY ⟨rfl,H3.sub (.cons e_1 (.cons .here (.drop .refl)))⟩)
   ·rw[iQ DO];refine qj DO (qJ ?_);refine qK (qX H2 (b:=x) .here (Xn ha) ?_);by_cases h0:2147483648≤qO s.aw (a:Int)
    ·rw[iJ h0];refine zy omQ (qZ ?_);exact qY ⟨rfl,HB.sub (.cons .here (.cons .here (.drop .refl)))⟩
    ·rw[iQ h0];refine zY omQ (qJ ?_);refine qK (qQ (qX H2 (b:=x) .here rfl ?_));refine qK (qX H2 (b:=x) .here (Xn ha) ?_);refine xV omQ ?_;refine qG (qVt omQ (HB.aI (P:=ab v V) e_1) G.ok) ?_;rintro _ h3 ⟨rfl,H3⟩;exact qY ⟨rfl,H3.sub (.cons e_1 (.cons .here (.drop .refl)))⟩
structure LY (l:List qa) (mt:List Int) (s:IM) (V:VM) (i:qa):Prop where
  aH:jL V
  aw:Q3 s.aw
  out:s.out.length≤16
  lo:s.bg.length≤100
  told:cN s.out.length s.bg
  ways:∀p∈s.bg,p.op=17→eh mt p.pc
  pc:0≤s.pc∧s.pc≤100
  op:1≤i.1∧i.1<23
  a:0≤i.2.1∧i.2.1≤7
  b:0≤i.2.2.1∧i.2.2.1≤7
  c:0≤i.2.2.2.1∧i.2.2.2.1≤100
  c7:3≤i.1∧i.1≤7→i.2.2.2.1≤7
  ne:i.1=15∨i.1=19∨i.1=18∨i.1=16→s.bg≠[]
  mt:i.1=18∨i.1=16→eh mt s.pc
theorem qgA {n:Nat} (hn:13≤n) {V:VM} {i:qa} (P:LY l mt s V i) (H:HS g h (aJ x v l bad mt s err 0 left (s.pc+1)::ab v V::R)) :
  aA n 160 [.ptr x 0,.agg (zD i)] h λr h'=>r=.int .i64 (b8 mt s V i).e∧
   HS g h' (aJ x v l bad mt (b8 mt s V i).s err (if(b8 mt s V i).br=true then 3 else 0) left (b8 mt s V i).nx::ab v (b8 mt s V i).v::R):=by
 refine ba (S:=S160) rfl omQ λk hk=>?_;unfold S160;try simp only[iZ]
 refine qI H rfl λb h1 H1=>?_;clear H;have H1:HS g h1 (qy b (zD i)::aJ x v l bad mt s err 0 left (s.pc+1)::ab v V::R):=H1;have HB:=H1.sub (L':=aJ x v l bad mt s err 0 left (s.pc+1)::ab v V::qy b (zD i)::R) (.cons e_1 (.cons e_1 (.cons .here .refl)));obtain⟨c,mv,ov,q,H2⟩:=aJ.E HB;obtain⟨a,ha1,Ck,Al⟩:=F5 P.a.1;obtain⟨bb,fw,dS,lu⟩:=F5 P.b.1;obtain⟨cc,hc1,oN,mI⟩:=F5 P.c.1;have Al:=Al (by have:=P.a.2;omega);have lu:=lu (by have:=P.b.2;omega);have ro:=P.aw;have lG:=P.op;have Cm:=P.c7;refine qQ (qX H1 (b:=b) .here rfl (Jv od ?_));rw[ha1];refine qK (qQ (Ny Ck ?_));refine qQ (qX H1 (b:=b) .here rfl (Jv od ?_));rw[fw];refine qK (qQ (Ny dS ?_));refine qX H2 (b:=x) .here (Xn dS) ?_;refine qQ (qX H1 (b:=b) .here rfl (Jv od ?_));rw[hc1];refine qK (qQ (Ny oN ?_));refine qX H2 (b:=x) .here (Xn oN) ?_;refine qQ (qX H1 (b:=b) .here rfl ?_);refine qW ?_
 try dsimp only
 have fin:∀(z:Int) (D:SM) (h0:AH),D=⟨0,s.pc+1,false,dw s i.2.1 z,V⟩→HS g h0 (aJ x v l bad mt s err 0 left (s.pc+1)::ab v V::qy b (zD i)::R)→
   wp (xM (.ptr x (6+a*1)) λBV=>jU h0 BV (.int .u64 z) 1 λh33=>zo [] h33 λh28=>some (.int .i64 ((0:Nat):Int),h28)) λr h'=>r=.int .i64 D.e∧
    HS g h' (aJ x v l bad mt D.s err (if D.br=true then 3 else 0) left D.nx::ab v D.v::R):=by
  rintro z D h0 rfl H0;obtain⟨c,mv,ov,q,H5⟩:=aJ.E H0;refine qK (qw H5 (b:=x) .here ⟨rfl,rfl⟩ (by show 6+a*1<19;omega) λh6 H6=>?_);refine qx (qY ⟨rfl,?_⟩);exact(F6 ro.len Ck Al H6).sub (.cons .here (.cons .here (.drop .refl)))
 by_cases c1:i.1=1
 ·refine qk c1 (qZ ?_);refine qQ (qX H1 (b:=b) .here rfl ?_);exact fin _ _ _ (by unfold b8;rw[iJ c1]) HB
 refine qj c1 (qJ ?_);by_cases c2:i.1=2
 ·refine qk c2 (qZ ?_);exact fin _ _ _ (by unfold b8;rw[iQ c1,iJ c2,lu]) HB
 refine qj c2 (qJ ?_);by_cases c3:i.1=3
 ·refine qk c3 (qZ (NU ?_));have mI:=mI (by have:=Cm omQ;omega);exact fin _ _ _ (by unfold b8;rw[iQ c1,iQ c2,iJ c3,lu,mI]) HB
 refine qj c3 (qJ ?_);by_cases c4:i.1=4
 ·refine qk c4 (qZ (Fh ?_));have mI:=mI (by have:=Cm omQ;omega);exact fin _ _ _ (by unfold b8;rw[iQ c1,iQ c2,iQ c3,iJ c4,lu,mI]) HB
 refine qj c4 (qJ ?_);by_cases c5:i.1=5
 ·refine qk c5 (qZ (I4 ?_));have mI:=mI (by have:=Cm omQ;omega);exact fin _ _ _ (by unfold b8;rw[iQ c1,iQ c2,iQ c3,iQ c4,iJ c5,lu,mI]) HB
 refine qj c5 (qJ ?_);by_cases c6:i.1=6
 ·refine qk c6 (qZ (JG ?_));have mI:=mI (by have:=Cm omQ;omega);refine qG (MK omQ) ?_;rintro _ _ ⟨rfl,rfl⟩;exact fin _ _ _ (by unfold b8;rw[iQ c1,iQ c2,iQ c3,iQ c4,iQ c5,iJ c6,lu,mI]) HB
 refine qj c6 (qJ ?_);by_cases c7:i.1=7
 ·refine qk c7 (qZ (JR ?_));have mI:=mI (by have:=Cm omQ;omega);refine qG (MK omQ) ?_;rintro _ _ ⟨rfl,rfl⟩;exact fin _ _ _ (by unfold b8;rw[iQ c1,iQ c2,iQ c3,iQ c4,iQ c5,iQ c6,iJ c7,lu,mI]) HB
 refine qj c7 (qJ ?_);by_cases nX:i.1=12
 ·refine qk nX (qZ ?_);have e:b8 mt s V i=⟨0,i.2.2.2.1,false,s,V⟩:=by unfold b8;rw[iQ c1,iQ c2,iQ c3,iQ c4,iQ c5,iQ c6,iQ c7,iJ nX]
  rw[e];refine qQ (qX H1 (b:=b) .here rfl ?_);refine qK (qQ ?_);refine qw H2 (b:=x) .here ⟨rfl,rfl⟩ (by show 16<19;omega) λh6 H6=>?_;exact qx (qY ⟨rfl,(aJ.I (c:=c) (mv:=mv) (ov:=ov) (o:=q) H6).sub (.cons .here (.cons .here (.drop .refl)))⟩)
 refine qj nX (qJ ?_);by_cases nY:i.1=13
 ·refine qk nY (qZ ?_);have e:b8 mt s V i=⟨0,if qO s.aw i.2.1=0 then i.2.2.2.1 else s.pc+1,false,s,V⟩:=by unfold b8;rw[iQ c1,iQ c2,iQ c3,iQ c4,iQ c5,iQ c6,iQ c7,iQ nX,iJ nY]
  rw[e,Al];refine qK (qX H2 (b:=x) .here (Xn Ck) ?_);by_cases hz:qO s.aw (a:Int)=0
  ·rw[iJ hz];refine qk hz (qZ ?_);refine qQ (qX H1 (b:=b) .here rfl ?_);refine qK (qQ ?_);refine qw H2 (b:=x) .here ⟨rfl,rfl⟩ (by show 16<19;omega) λh6 H6=>?_;exact qx (qY ⟨rfl,(aJ.I (c:=c) (mv:=mv) (ov:=ov) (o:=q) H6).sub (.cons .here (.cons .here (.drop .refl)))⟩)
  ·rw[iQ hz];refine qj hz (qJ ?_);exact qx (qY ⟨rfl,HB.sub (.cons .here (.cons .here (.drop .refl)))⟩)
 refine qj nY (qJ ?_);by_cases rB:i.1=21
 ·refine qk rB (qZ ?_);refine qK (qQ (qX H2 (b:=x) .here rfl ?_));refine qK (qX H2 (b:=x) .here (Xn Ck) ?_);refine qG (qjP omQ (H2.aI (P:=bu q s.out) e_3) P.out) ?_;rintro _ h3 ⟨rfl,H3⟩;by_cases sZ:16≤s.out.length
  ·have e:b8 mt s V i=⟨5,s.pc+1,false,s,V⟩:=by unfold b8;rw[iQ c1,iQ c2,iQ c3,iQ c4,iQ c5,iQ c6,iQ c7,iQ nX,iQ nY,iJ rB,iJ sZ]
   rw[e];rw[iQ omQ]at H3;rw[iV omQ];refine jF (qZ ?_);exact qY ⟨rfl,(aJ.I (c:=c) (mv:=mv) (ov:=ov) (o:=q) (R:=ab v V::qy b (zD i)::R) (H3.sub (.cons e_1 (.cons e_1 (.cons e_1 (.cons .here (.cons .here .refl))))))).sub (.cons .here (.cons .here (.drop .refl)))⟩
  ·have e:b8 mt s V i=⟨0,s.pc+1,false,{ s with out:=s.out++[(1,qO s.aw i.2.1)] },V⟩:=by unfold b8;rw[iQ c1,iQ c2,iQ c3,iQ c4,iQ c5,iQ c6,iQ c7,iQ nX,iQ nY,iJ rB,iQ sZ]
   rw[e,Al];rw[iJ omQ]at H3;rw[iG omQ];refine jA (qJ ?_);exact qx (qY ⟨rfl,(aJ.I (s:={ s with out:=s.out++[(1,qO s.aw (a:Int))] }) (c:=c) (mv:=mv) (ov:=ov) (o:=q) (R:=ab v V::qy b (zD i)::R) (H3.sub (.cons e_1 (.cons e_1 (.cons e_1 (.cons .here (.cons .here .refl))))))).sub (.cons .here (.cons .here (.drop .refl)))⟩)
 refine qj rB (qJ ?_);by_cases td:i.1=22
 ·refine qk td (qZ ?_);have e:b8 mt s V i=⟨13,s.pc+1,false,s,V⟩:=by unfold b8;rw[iQ c1,iQ c2,iQ c3,iQ c4,iQ c5,iQ c6,iQ c7,iQ nX,iQ nY,iQ rB,iJ td]
  rw[e];exact qY ⟨rfl,HB.sub (.cons .here (.cons .here (.drop .refl)))⟩
 refine qj td (qJ ?_);refine qj omQ (qJ ?_);refine qW ?_
 try dsimp only
 by_cases ct:i.1=8∨i.1=9∨i.1=10∨i.1=11
 ·have e:b8 mt s V i=⟨(zk s V i).1,s.pc+1,false,(zk s V i).2.1,(zk s V i).2.2⟩:=by unfold b8;rw[iQ c1,iQ c2,iQ c3,iQ c4,iQ c5,iQ c6,iQ c7,iQ nX,iQ nY,iQ rB,iQ td,iJ ct]
  rw[e];have key:wp (zc h1 (.ptr b 0) 5 λv94=>zA (callT tab qz k) (.fn 191 [] []) [.ptr x 0,v94,.ptr x (6+a*1),.int .u64 (qO s.aw (bb:Int))] h1 λv95 h96=>zo [] h96 λh97=>some (v95,h97)) λr h'=>
    r=.int .i64 (zk s V i).1∧HS g h' (aJ x v l bad mt (zk s V i).2.1 err (if false=true then 3 else 0) left (s.pc+1)::ab v (zk s V i).2.2::R):=by
   refine qE H1 (b:=b) (off:=0) .here rfl omQ (l:=zD i) rfl ?_;rw[← lu];refine qG (qX3 omQ P.aH ro ct Ck Al P.c HB) ?_;rintro _ h3 ⟨rfl,H3⟩;exact qx (qY ⟨rfl,H3.sub (.cons .here (.cons .here (.drop .refl)))⟩)
  by_cases t8:i.1=8
  ·refine qk t8 (qZ (qZ ?_));exact key
  refine qj t8 (qJ ?_);by_cases t9:i.1=9
  ·refine qk t9 (qZ (qZ ?_));exact key
  refine qj t9 (qJ ?_);by_cases t10:i.1=10
  ·refine qk t10 (qZ (qZ ?_));exact key
  refine qj t10 (qJ ?_);refine qk omQ (qZ ?_);exact key
 ·have e:b8 mt s V i=kZ mt s V i.1:=by unfold b8;rw[iQ c1,iQ c2,iQ c3,iQ c4,iQ c5,iQ c6,iQ c7,iQ nX,iQ nY,iQ rB,iQ td,iQ ct]
  rw[e];refine qj omQ (qJ ?_);refine qj omQ (qJ ?_);refine qj omQ (qJ ?_);refine qj omQ (qJ ?_);refine qE H1 (b:=b) (off:=0) .here rfl omQ (l:=zD i) rfl ?_;refine qG (qGT omQ P.aH P.lo P.out P.told P.ways P.pc P.ne P.mt HB) ?_;rintro _ h3 ⟨rfl,H3⟩;exact qx (qY ⟨rfl,H3.sub (.cons .here (.cons .here (.drop .refl)))⟩)
end
end
section
variable {g h:AH} {L R:List SP}
theorem wq {a:List Int} {k:Nat} (h:k<a.length):a[k]? =some (qO a (k:Int)):=by unfold qO;rw[Int.toNat_natCast,iW h];rfl
theorem Cn {x:qa} (h:Qy x=true) (hx:x.1≠23):(1≤x.1∧x.1<23)∧(0≤x.2.1∧x.2.1≤7)∧(0≤x.2.2.1∧x.2.2.1≤7)∧(0≤x.2.2.2.1∧x.2.2.2.1≤40)∧(3≤x.1∧x.1≤7→x.2.2.2.1≤7):=by
 unfold Qy QK at h;simp only[Bool.and_eq_true,decide_eq_true_eq]at h;obtain⟨⟨⟨⟨h1,h2⟩,h3⟩,h4⟩,_⟩:=h;unfold ji at h2 h3 h4;by_cases c1:x.1=1∨x.1=11∨x.1=21
 ·rw[iJ c1]at h2 h3 h4;dsimp only at h2 h3 h4;omega
 rw[iQ c1]at h2 h3 h4;by_cases c2:x.1=2∨x.1=10
 ·rw[iJ c2]at h2 h3 h4;dsimp only at h2 h3 h4;omega
 rw[iQ c2]at h2 h3 h4;by_cases c3:x.1=3∨x.1=4∨x.1=5∨x.1=6∨x.1=7
 ·rw[iJ c3]at h2 h3 h4;dsimp only at h2 h3 h4;omega
 rw[iQ c3]at h2 h3 h4;by_cases c4:x.1=8∨x.1=9
 ·rw[iJ c4]at h2 h3 h4;dsimp only at h2 h3 h4;omega
 rw[iQ c4]at h2 h3 h4;by_cases c5:x.1=12
 ·rw[iJ c5]at h2 h3 h4;dsimp only at h2 h3 h4;omega
 rw[iQ c5]at h2 h3 h4;by_cases c6:x.1=13
 ·rw[iJ c6]at h2 h3 h4;dsimp only at h2 h3 h4;omega
 rw[iQ c6,iQ hx]at h2 h3 h4;dsimp only at h2 h3 h4;omega
theorem Nl {l:List qa} (F:Fit l) {k:Nat} (hk:k<l.length) (ho:(qT l k).1=14∨(qT l k).1=17∨(qT l k).1=18∨(qT l k).1=16):eh (qp l) (k:Int):=by
 have hl:=F.le;refine⟨k,rfl,_,wq (by rw[qX7];exact hk),?_⟩;by_cases h:(qT l k).1=16
 ·obtain⟨e,e1,e2,_⟩:=UQ F hk h;rw[e1];omega
 ·obtain⟨e,e1,_,e2,_⟩:=JE F hk omQ;rw[e1];omega
theorem qvs {l:List qa} {s:IM} {V:VM} (F:Fit l) (G:GI l s V) {i:Nat} (hi:s.pc=i) (ap:i<l.length) (hx:(qT l i).1≠23):LY l (qp l) s V (qT l i):=by
 have hw:=gR (F.ok i ap);have DM:=xc (F.ok i ap);have hb:=Cn hw.1 hx;have fB:=KQ G;have h5:=Ki F i omQ;have hl:=F.le;rw[hi,Int.toNat_natCast]at fB;refine⟨G.aH,G.gb.aw,G.gb.out,by omega,G.told,?_,by omega,hb.1,hb.2.1,hb.2.2.1,by omega,hb.2.2.2.2,?_,?_⟩
 ·intro p hp lG;obtain⟨q,hq,FV⟩:=(G.ly p hp).pc;have:=(G.ly p hp).op.2;rw[lG,hq]at this;rw[hq];exact Nl F FV omQ
 ·intro ho h0;rw[h0]at fB;have he:0<jt (qT l i).1∨(qT l i).1=16:=by
   rcases ho with h |h |h |h
   ·exact .inl (by rw[h];decide)
   ·exact .inl (by rw[h];decide)
   ·exact .inl (by rw[h];decide)
   ·exact .inr h
  exact DM.2.1 he (iA fB.symm)
 ·intro ho;rw[hi];exact Nl F ap omQ
def Quiet (l:List qa):Prop:=∀x∈l,x.1≠23∧0≤x.2.2.2.2∧x.2.2.2.2<18446744073709551616
theorem Quiet.at {l:List qa} (Q:Quiet l) {i:Nat} (h:i<l.length):(qT l i).1≠23∧0≤(qT l i).2.2.2.2∧(qT l i).2.2.2.2<18446744073709551616:=by rw[ve h];exact Q _ (List.getElem_mem h)
structure F8 (V:VM) (r:RM):Prop where
  gb:GB r.s
  aH:jL r.v
  sz:r.v.sz=V.sz
  K:r.v.K=V.K
  most:r.v.most=V.most
theorem qvL {l:List qa} (F:Fit l) (Q:Quiet l):∀(n:Nat) {s:IM} {V:VM},GI l s V→bK V.lv+n<9000→F8 V (zp l (qp l) n s V)∧bK (zp l (qp l) n s V).v.lv≤bK V.lv+n∧
  ((zp l (qp l) n s V).kind=2→(zp l (qp l) n s V).v.lv.length=1)∧
  ((zp l (qp l) n s V).kind=1→GI l (zp l (qp l) n s V).s (zp l (qp l) n s V).v∧1≤(zp l (qp l) n s V).v.aC∧(zp l (qp l) n s V).v.aC<V.sz∧zU (zp l (qp l) n s V).v.aC V.K=none)∧
  ((zp l (qp l) n s V).kind=1∨(zp l (qp l) n s V).kind=2∨(zp l (qp l) n s V).kind=3∨(zp l (qp l) n s V).kind=4):=by
 intro n
 induction n with
 |zero=>
  intro s V G hf;rw[XT]
  split
  ·rename_i h0;refine⟨⟨G.gb,G.aH,rfl,rfl,rfl⟩,by simp,λ_=>?_,λh=>(by cases h),by simp⟩;have:=KQ G;rw[h0,Int.toNat_natCast,F.nil]at this;have hl:=G.lv;show V.lv.length=1;rw[hl,this];rfl
  ·exact⟨⟨G.gb,G.aH,rfl,rfl,rfl⟩,by simp,λh=>(by cases h),λh=>(by cases h),by simp⟩
 |succ n ih=>
  intro s V G hf;rw[YY]
  split
  ·rename_i h0;refine⟨⟨G.gb,G.aH,rfl,rfl,rfl⟩,by simp,λ_=>?_,λh=>(by cases h),by simp⟩;have:=KQ G;rw[h0,Int.toNat_natCast,F.nil]at this;have hl:=G.lv;show V.lv.length=1;rw[hl,this];rfl
  ·rename_i h0;obtain⟨i,hi,sV⟩:=G.pc;have ap:i<l.length:=by omega
   rw[hi];have S:=ND F G hi ap omQ (Q.at ap).2 (Q.at ap).1;generalize b8 (qp l) s V (qT l i)=D at*
   split
   ·rename_i h1
    split
    ·exact⟨⟨⟨S.gb.aw,S.gb.out,S.gb.its⟩,S.aH,S.sz,S.K,S.most⟩,by have:=S.fr;dsimp only;omega,λh=>(by cases h),λh=>(by cases h),by simp⟩
    ·rename_i h2;have G2:=S.next h1 (by simpa using h2);have uq:=S.fr;obtain⟨a,b,c,d,e⟩:=ih G2 omQ;refine⟨⟨a.gb,a.aH,a.sz.trans S.sz,a.K.trans S.K,a.most.trans S.most⟩,by omega,c,λh=>?_,e⟩;have:=d h;rw[S.sz,S.K]at this;exact this
   ·split
    ·rename_i dq;obtain⟨n1,n2,n3,n4,n5⟩:=S.aC dq;refine⟨⟨S.gb,S.aH,S.sz,S.K,S.most⟩,by have:=S.fr;dsimp only;omega,λh=>(by cases h),λ_=>⟨?_,n3,n4,n5⟩,by simp⟩;show GI l D.s D.v;rw[n1];exact⟨G.gb,G.pc,G.ly,G.told,G.Cg,by rw[n2];exact G.lv,S.aH⟩
    ·exact⟨⟨S.gb,S.aH,S.sz,S.K,S.most⟩,by have:=S.fr;dsimp only;omega,λh=>(by cases h),λh=>(by cases h),by simp⟩
section
variable {x v:Nat} {l:List qa} {bad:Int} {mt:List Int} {s:IM} {err fin left nx:Int}
theorem qx1 {n:Nat} (hn:14≤n) (F:Fit l) (Q:Quiet l) {left:Nat} {V:VM} (G:GI l s V) (hf:bK V.lv+left<9000) (hl:left≤1000) (H:HS g h (aJ x v l 0 (qp l) s 0 0 left nx::ab v V::R)) :
  aA n 133 [.ptr x 0] h λr h'=>r=.int .i64 (zp l (qp l) left s V).kind∧
   ∃uu,HS g h' (aJ x v l 0 (qp l) (zp l (qp l) left s V).s (zp l (qp l) left s V).err (if(zp l (qp l) left s V).kind=1 then 0 else(zp l (qp l) left s V).kind) ((zp l (qp l) left s V).left:Int) uu::ab v (zp l (qp l) left s V).v::R):=by
 refine aB (S:=S133) rfl omQ λk hk=>?_;unfold S133;try simp only[iZ]
 generalize lf:zp l (qp l) left s V=RM
 refine jR (λm st h'=>st=(.ptr x 0,())∧((∃(s':IM) (V':VM) (lZ:Nat) (uu:Int),m=lZ+1∧lZ≤1000∧GI l s' V'∧bK V'.lv+lZ<9000∧zp l (qp l) lZ s' V'=RM∧HS g h' (aJ x v l 0 (qp l) s' 0 0 lZ uu::ab v V'::R))∨
   (m=0∧RM.kind≠0∧RM.kind≠1∧∃uu,HS g h' (aJ x v l 0 (qp l) RM.s RM.err RM.kind RM.left uu::ab v RM.v::R))))
  ?_ (m:=left+1) (by show _<1000000000;omega) ⟨rfl,.inl ⟨s,V,left,nx,rfl,hl,G,hf,lf,H⟩⟩
 clear H G hf lf hl;rintro m ih st h2 bF ⟨rfl,⟨s,V,left,nx,rfl,hl,G,hf,lf,H⟩ |⟨rfl,hk0,lP,nx,H⟩⟩
 rotate_left
 ·dsimp only;obtain⟨c,mv,ov,q,H1⟩:=aJ.E H;refine qK (qQ (qX H1 (b:=x) .here rfl ?_));refine qj hk0 (qJ ?_);refine qK (qQ (qX H1 (b:=x) .here rfl ?_));refine qx (qY ⟨rfl,nx,?_⟩);rw[iQ lP];exact H
 dsimp only;obtain⟨i,hi,sV⟩:=G.pc;have hlen:=F.le;obtain⟨c,mv,ov,q,H1⟩:=aJ.E H;refine qK (qQ (qX H1 (b:=x) .here rfl ?_));refine qk rfl (qZ ?_);refine qW ?_
 try dsimp only
 refine qK (qQ (qX H1 (b:=x) .here rfl ?_));refine jJ rfl (qJ ?_);refine qK (qQ (qX H1 (b:=x) .here rfl ?_));refine qK (qQ (qQ (qX H1 (b:=x) .here rfl ?_)));refine qm H1 e_1 ?_;by_cases h0:s.pc=l.length
 ·refine qk h0 (qZ ?_);rw[qY9 h0]at lf;subst lf;refine qK (qQ ?_);refine qw H1 (b:=x) .here ⟨rfl,rfl⟩ (by show 5<19;omega) λh3 H3=>?_;exact bF 0 _ _ omQ ⟨rfl,.inr ⟨rfl,by show(2:Int)≠0;decide,by show(2:Int)≠1;decide,nx,aJ.I (c:=c) (mv:=mv) (ov:=ov) (o:=q) H3⟩⟩
 refine qj h0 (qJ ?_);refine qK (qQ (qX H1 (b:=x) .here rfl ?_));cases left with
 |zero=>refine qk rfl (qZ ?_);rw[XT,iQ h0]at lf;subst lf;refine qG (OJ omQ H) ?_;intro _ h3 H3;exact bF 0 _ _ omQ ⟨rfl,.inr ⟨rfl,by show(4:Int)≠0;decide,by show(4:Int)≠1;decide,nx,H3⟩⟩
 |succ left=>
  refine qj omQ (qJ ?_);rw[YY,iQ h0]at lf;have ap:i<l.length:=by omega
  have S:=ND F G hi ap omQ (Q.at ap).2 (Q.at ap).1;have P:=qvs F G hi ap (Q.at ap).1;refine qK (qQ (qX H1 (b:=x) .here rfl ?_));rw[hi];refine qU omQ (qK (qQ ?_));refine qw H1 (b:=x) .here ⟨rfl,rfl⟩ (by show 16<19;omega) λh3 H3=>?_;refine qK (qQ (qQ (qX H3 (b:=x) .here rfl ?_)));refine qK (qQ (qX H3 (b:=x) .here rfl ?_));rw[hi];refine zS (l:=zD l[i]) (H3.sl e_1) ap omQ (Xq ap) ?_;have H4:HS g h3 (aJ x v l 0 (qp l) s 0 0 ((left+1:Nat):Int) (s.pc+1)::ab v V::R):=aJ.I (c:=c) (mv:=mv) (ov:=ov) (o:=q) (by rw[hi]at H3 ⊢;exact H3);clear H H1 H3;rw[← ve ap];refine qG (qgA omQ P H4) ?_;rintro _ h5 ⟨rfl,H5⟩;rw[hi]at lf;generalize b8 (qp l) s V (qT l i)=D at*;refine qW ?_
  try dsimp only
  obtain⟨c,mv,ov,q,H6⟩:=aJ.E H5;by_cases h1:D.e=0
  ·refine qk h1 (qZ ?_);rw[iJ h1]at lf;refine qK (qQ (qX H6 (b:=x) .here rfl ?_));refine qK (qQ ?_);refine qw H6 (b:=x) .here ⟨rfl,rfl⟩ (by show 15<19;omega) λh7 H7=>?_;refine qK (qQ (qX H7 (b:=x) .here rfl ?_));refine zB omQ (qK (qQ ?_));rw[show((left+1:Nat):Int)-((1:Nat):Int)=(left:Int) by omega];refine qw H7 (b:=x) .here ⟨rfl,rfl⟩ (by show 17<19;omega) λh8 H8=>?_;have H9:HS g h8 (aJ x v l 0 (qp l) { D.s with pc:=D.nx } 0 (if D.br=true then 3 else 0) left D.nx::ab v D.v::R):=aJ.I (s:={ D.s with pc:=D.nx }) (c:=c) (mv:=mv) (ov:=ov) (o:=q) H8;clear H6 H7 H8 H5;cases h2:D.br with
   |true=>rw[h2,iJ rfl]at lf;rw[h2,iJ rfl]at H9;subst lf;exact bF 0 _ _ omQ ⟨rfl,.inr ⟨rfl,by show(3:Int)≠0;decide,by show(3:Int)≠1;decide,D.nx,H9⟩⟩
   |false=>rw[h2,iQ aN]at lf;rw[h2,iQ aN]at H9;have:=S.fr;exact bF (left+1) _ _ omQ ⟨rfl,.inl ⟨_,D.v,left,D.nx,rfl,by omega,S.next h1 h2,by omega,lf,H9⟩⟩
  ·refine qj h1 (qJ ?_);rw[iQ h1]at lf;have hb:D.br=false:=by
    cases hb:D.br with
    |false=>rfl
    |true=>exact absurd (S.bl hb) h1
   rw[hb,iQ aN]at H5;by_cases dq:D.e=11
   ·rw[iJ dq]at lf;subst lf;refine qk dq (qZ ?_);refine qx (qY ⟨rfl,D.nx,?_⟩);rw[iJ rfl];exact H5
   ·rw[iQ dq]at lf;subst lf;refine qj dq (qJ ?_);refine qG (OJ omQ H5) ?_;intro _ h7 H7;exact bF 0 _ _ omQ ⟨rfl,.inr ⟨rfl,by show(4:Int)≠0;decide,by show(4:Int)≠1;decide,D.nx,H7⟩⟩
end
end
section
variable {g h:AH} {L R:List SP}
def KF (l:List qa):List Int:=if(xZ l).2=0 then qp l else[]
theorem Zb {n:Nat} (hn:7≤n) {l:List qa} {sv:AV} (H:HS g h R) (S:Rd g R 5 l.length sv (l.flatMap zD)) (hl:l.length≤100) :
  aA n 131 [.agg [sv]] h λv h'=>HS g h' (qD 3 1 (KF l).length v ((KF l).map (.int .i64))::R):=by
 refine aB (S:=S131) rfl omQ λk hk=>?_;unfold S131;try simp only[iZ]
 refine qI H (yl (km (S.sl H))) λb0 h1 H1=>?_;have DI:=(S.sl H).rR;clear H;refine qE H1 (b:=b0) (off:=0) .here rfl omQ rfl ?_;refine qG (MY omQ H1 S.more hl) ?_;rintro _ h2 ⟨rfl,H2⟩;clear H1;refine qB rfl ?_;refine qB rfl ?_;by_cases c0:(xZ l).2=0
 rotate_left
 ·refine jQ c0 ?_;refine qZ ?_;unfold KF;rw[iQ c0];exact qY H2.drop.ak
 have hG:=UY c0;have F:=M2 c0;have hnr:=λ{j:Nat} (h:j<l.length)=>gU F h;have hrg:=λ{j:Nat} (h:j<l.length)=>F.rA j h;unfold KF;rw[iJ c0];have hM:qp l=ie l (vE l 0 []) l.length:=rfl;rw[hM];clear hM;refine jJ c0 ?_;refine qJ (qE H2 (b:=b0) (off:=0) .here rfl omQ rfl ?_);refine qG (GF omQ H2 S.more hG hl) ?_;intro av h3 H3;clear H2;refine qQ (qX ‹_› e_1 rfl ?_);refine x9 ‹_› ?_;refine JO (n:=l.length) H3 omQ λev h4 H4=>?_;refine qm H4 .here ?_;clear H3;have hA:(vE l 0 []).length=l.length:=Kz;have dl:=λ{i:Nat}=>qgL (i:=i) hG;generalize vE l 0 []=A at*
 refine jR (λm s h'=>∃(i:Nat),s=(.int .i64 (i:Int),.int .i64 (l.length:Int),ev,av,.ptr b0 0,())∧i≤l.length∧m=l.length-i∧
  HS g h' (qD 3 1 l.length ev ((List.replicate i (-1:Int)++List.replicate (l.length-i) 0).map (.int .i64))::qD 3 1 l.length av (A.map (.int .i64))::qy b0 [sv]::R))
  ?_ (m:=l.length) (by show _<1000000000;omega) ⟨0,rfl,by omega,by omega,by rw[List.replicate_zero,List.nil_append,Nat.sub_zero,List.map_replicate];exact H4⟩
 clear H4;rintro m ih s h5 bF ⟨i,rfl,hi,rfl,H⟩;dsimp only;by_cases ap:i<l.length
 ·refine jH omQ ?_;refine qZ (XR H ap ⟨rfl,rfl⟩ λh6 H6=>?_);refine qU omQ ?_;have h0:(AV.int .i64 (Int.negSucc 0))=.int .i64 (-1):=rfl;rw[h0,← List.map_set]at H6;have es:(List.replicate i (-1:Int)++List.replicate (l.length-i) 0).set i (-1)=List.replicate (i+1) (-1:Int)++List.replicate (l.length-(i+1)) 0:=by
   rw[show l.length-i=(l.length-(i+1))+1 by omega,List.replicate_succ,List.set_append_right _ _ aN,List.length_replicate,Nat.sub_self,List.set_cons_zero,List.replicate_succ' (n:=i),List.append_assoc];rfl
  rw[es]at H6;exact bF (l.length-(i+1)) _ _ omQ ⟨i+1,rfl,by omega,rfl,H6⟩
 obtain rfl:i=l.length:=by omega
 clear bF;rw[Nat.sub_self,List.replicate_zero,List.append_nil]at H;have hL1:∀i,(lY l A i).length=l.length:=λi=>M4 i;have LZ:∀i,(ie l A i).length=l.length:=λi=>Mh i;refine jz omQ ?_;refine qJ (qQ (qX ‹_› e_2 rfl ?_));refine x9 ‹_› ?_
 refine jR (λm s h'=>∃(i:Nat),s=(.int .i64 (i:Int),.int .i64 (l.length:Int),sv,ev,av,.ptr b0 0,())∧i≤l.length∧m=l.length-i∧
  HS g h' (qD 3 1 l.length ev ((lY l A i).map (.int .i64))::qD 3 1 l.length av (A.map (.int .i64))::qy b0 [sv]::R))
  ?_ (m:=l.length) (by show _<1000000000;omega) ⟨0,rfl,by omega,by omega,H⟩
 clear H;rintro m ih s h6 bF ⟨i,rfl,hi,rfl,H⟩;dsimp only;by_cases ap:i<l.length
 ·have fC:=Xq ap;have uv:=dl ap;have hrgi:=hrg ap;have hnri:=hnr ap;have dM:lY l A (i+1)=if 0<jt (qT l (i:Int)).1 then(lY l A i).set (qO A (i:Int)).toNat i else lY l A i:=rfl
  rw[ve ap]at dM;generalize l[i]=x at*;refine jH omQ (qZ ?_)
  refine jm [] (λs h'=>s=(.int .i64 (i:Int),.int .i64 (l.length:Int),sv,ev,av,.ptr b0 0,())∧
   HS g h' (qD 3 1 l.length ev ((lY l A (i+1)).map (.int .i64))::qD 3 1 l.length av (A.map (.int .i64))::qy b0 [sv]::R)) ?_ ?_
  rotate_left
  ·rintro s h7 ⟨rfl,H7⟩;refine qU omQ ?_;exact bF (l.length-(i+1)) _ _ omQ ⟨i+1,rfl,by omega,rfl,H7⟩
  intro j hj;refine zS (S.sl H.drop.drop.drop) ap omQ fC ?_;refine qI H rfl λb h7 H7=>?_;refine qd H7 (b:=b) .here rfl (by simp[zD]) rfl λh8 H8=>?_;have H8:HS g h8 (qy b [.int .i64 x.1,.int .i64 x.2.1,.int .i64 x.2.2.1,.int .i64 x.2.2.2.1,.int .u64 x.2.2.2.2]::qD 3 1 l.length ev ((lY l A i).map (.int .i64))::qD 3 1 l.length av (A.map (.int .i64))::qy b0 [sv]::R):=H8;clear H H7;refine qQ (qX ‹_› .here rfl ?_);refine qG (Yb omQ) ?_;rintro _ h8 ⟨rfl,rfl⟩;by_cases he:0<jt x.1
  ·obtain⟨p,hp,nD⟩:=uv (.inl he);refine y8 he (qZ ?_);refine jb (H8.sl e_2) (x:=.int .i64 (p:Int)) (by rw[List.getElem?_map,hp];rfl) ?_;refine XR (H8.aI e_1) nD ⟨rfl,rfl⟩ λh9 H9=>?_;rw[← List.map_set]at H9;have F9:qO A (i:Int)=p:=by unfold qO;rw[Int.toNat_natCast,hp];rfl
   rw[iJ he,F9,Int.toNat_natCast]at dM;rw[← dM]at H9;exact hj _ _ ⟨rfl,H9.sub (.cons .here (.cons e_1 (.cons e_1 (.drop .refl))))⟩
  ·refine yU he (qJ ?_);rw[iQ he]at dM;exact hj _ _ ⟨rfl,by rw[dM];exact H8.drop⟩
 obtain rfl:i=l.length:=by omega
 clear bF;refine jz omQ ?_;refine qJ (qQ (qX ‹_› e_2 rfl ?_));refine x9 ‹_› ?_
 refine jR (λm s h'=>∃(i:Nat),s=(.int .i64 (i:Int),.int .i64 (l.length:Int),sv,ev,av,())∧i≤l.length∧m=l.length-i∧
  HS g h' (qD 3 1 l.length ev ((ie l A i).map (.int .i64))::qD 3 1 l.length av (A.map (.int .i64))::qy b0 [sv]::R))
  ?_ (m:=l.length) (by show _<1000000000;omega) ⟨0,rfl,by omega,by omega,H⟩
 clear H;rintro m ih s h6 bF ⟨i,rfl,hi,rfl,H⟩;dsimp only;by_cases ap:i<l.length
 ·have fC:=Xq ap;have uv:=dl ap;have dM:ie l A (i+1)=if(qT l (i:Int)).1=16 then(ie l A i).set i (qO (ie l A i) (qO A (i:Int)))else ie l A i:=rfl
  rw[ve ap]at dM;generalize l[i]=x at*;refine jH omQ (qZ ?_)
  refine jm [] (λs h'=>s=(.int .i64 (i:Int),.int .i64 (l.length:Int),sv,ev,av,())∧
   HS g h' (qD 3 1 l.length ev ((ie l A (i+1)).map (.int .i64))::qD 3 1 l.length av (A.map (.int .i64))::qy b0 [sv]::R)) ?_ ?_
  rotate_left
  ·rintro s h7 ⟨rfl,H7⟩;refine qU omQ ?_;exact bF (l.length-(i+1)) _ _ omQ ⟨i+1,rfl,by omega,rfl,H7⟩
  intro j hj;refine zS (S.sl H.drop.drop.drop) ap omQ fC ?_;refine qI H rfl λb h7 H7=>?_;refine qd H7 (b:=b) .here rfl (by simp[zD]) rfl λh8 H8=>?_;have H8:HS g h8 (qy b [.int .i64 x.1,.int .i64 x.2.1,.int .i64 x.2.2.1,.int .i64 x.2.2.2.1,.int .u64 x.2.2.2.2]::qD 3 1 l.length ev ((ie l A i).map (.int .i64))::qD 3 1 l.length av (A.map (.int .i64))::qy b0 [sv]::R):=H8;clear H H7;refine qQ (qX ‹_› .here rfl ?_);by_cases he:x.1=16
  ·obtain⟨p,hp,nD⟩:=uv (.inr he);refine qk he (qZ ?_);refine jb (H8.sl e_2) (x:=.int .i64 (p:Int)) (by rw[List.getElem?_map,hp];rfl) ?_;refine jb (H8.sl e_1) (x:=.int .i64 (qO (ie l A i) (p:Int))) (by rw[List.getElem?_map,wq (by rw[LZ];exact nD)];rfl) ?_;refine XR (H8.aI e_1) ap ⟨rfl,rfl⟩ λh9 H9=>?_;rw[← List.map_set]at H9;have F9:qO A (i:Int)=p:=by unfold qO;rw[Int.toNat_natCast,hp];rfl
   rw[iJ he,F9]at dM;rw[← dM]at H9;exact hj _ _ ⟨rfl,H9.sub (.cons .here (.cons e_1 (.cons e_1 (.drop .refl))))⟩
  ·refine qj he (qJ ?_);rw[iQ he]at dM;exact hj _ _ ⟨rfl,by rw[dM];exact H8.drop⟩
 obtain rfl:i=l.length:=by omega
 refine jz omQ ?_;refine qJ (qx (qY ?_));rw[LZ];exact H.sub (.cons .here (.drop (.drop .refl)))
def Qc:IM:=⟨[0,0,0,0,0,0,0,0],[],0,[]⟩
theorem L0 {l:List qa} {V:VM} (h1:V.lv.length=1) (G:jL V):GI l Qc V :=
 ⟨⟨⟨rfl,by intro z hz;simp[Qc]at hz;subst hz;omega⟩,Nat.zero_le _,λx hx=>by cases hx⟩,⟨0,rfl,Nat.zero_le _⟩,(λp hp=>by cases hp),trivial,rfl,h1,G⟩
def XB (fuel:Int):Nat:=(max 0 (min fuel 400)).toNat
theorem qxp {n:Nat} (hn:8≤n) {l:List qa} {sv:AV} {v:Nat} {fuel:Int} (H:HS g h R) (S:Rd g R 5 l.length sv (l.flatMap zD)) (hl:l.length≤100) :
  aA n 108 [.agg [sv],.ptr v 0,.int .i64 fuel] h λr h'=>∃x,r=.ptr x 0∧HS g h' (aJ x v l (xZ l).2 (KF l) Qc 0 0 (XB fuel:Nat) 0 ::R):=by
 refine cL (S:=S108) rfl omQ λk hk=>?_;unfold S108;try simp only[iZ]
 refine qI H (yl (km (S.sl H))) λb0 h1 H1=>?_;refine qQ (qX ‹_› .here rfl ?_);refine ju (H1.ak) (S.sl H1.drop) omQ omQ (OC l) λcv h2 H2=>?_;rw[List.nil_append,Nat.zero_add]at H2;have oc:=H2.one .here;refine qQ (qw H2 (b:=b0) e_1 oc aN λh3 H3=>?_);have H3:HS g h3 (qy b0 [cv]::qD 26 5 l.length cv (l.flatMap zD)::R):=H3;refine qE H3 (b:=b0) (off:=0) .here rfl omQ rfl ?_;refine qG (MY omQ H3 (Rd.own e_1) hl) ?_;rintro _ h4 ⟨rfl,H4⟩;refine qB rfl ?_;refine qB rfl ?_;refine qW ?_;(try dsimp only)
 refine qE H4 (b:=b0) (off:=0) .here rfl omQ rfl ?_;refine qE H4 (b:=b0) (off:=0) .here rfl omQ rfl ?_;refine qG (Zb omQ H4 (Rd.own e_1) hl) ?_;intro mv h5 H5;have om:=H5.one .here;refine qG (Q':=λr h'=>∃o,r=.ptr o 0∧HS g h' (qy o [.ak]::qD 3 1 (KF l).length mv ((KF l).map (.int .i64))::qy b0 [cv]::qD 26 5 l.length cv (l.flatMap zD)::R)) ?_ ?_
 ·refine ud (S:=S132) rfl omQ λk hk=>?_;unfold S132;try simp only[iZ]
  refine qL rfl ?_;exact qI H5 rfl λo h6 H6=>qY ⟨o,rfl,H6⟩
 rintro _ h6 ⟨o,rfl,H6⟩;refine zz (zh ?_);rw[show max ((0:Nat):Int) (min fuel ((400:Nat):Int))=((XB fuel:Nat):Int) by unfold XB;omega]
 refine qL (l:=vm cv mv .ak v o (xZ l).2 0 0 (XB fuel:Nat) 0 0 [0,0,0,0,0,0,0,0]) (by
  have e:(AV.agg (List.take 1 (List.drop 0 [cv]))).cells=[cv]:=rfl
  simp only[xT,e,om.1];rfl) ?_
 refine qI H6 (by unfold vm;simp only[ql,List.all_cons,oc.2,om.2];rfl) λx h7 H7=>?_;refine zO H5 (b:=b0) e_1 rfl H6 e_2 rfl rfl omQ (HS.lt H4 .here) ?_;refine zO H4 (b:=b0) .here rfl H5 e_1 rfl rfl omQ (HS.lt H4 .here) ?_
 skip
 refine qY ⟨x,rfl,?_⟩;have H8:=(H7.ak (e:=20) (sz:=1)).ak (e:=289) (sz:=11)
 have H9:HS g h7 (bu o []::qD 289 11 0 .ak []::qy x (vm cv mv .ak v o (xZ l).2 0 0 (XB fuel:Nat) 0 0 [0,0,0,0,0,0,0,0])::qD 3 1 (KF l).length mv ((KF l).map (.int .i64))::qy b0 [cv]::
  qD 26 5 l.length cv (l.flatMap zD)::R):=bu.I (l:=[]) (sv:=.ak) (H8.sub (.cons e_3 (.cons e_1 (.cons .here (.cons .here .refl)))))
 exact aJ.I (s:=Qc) (c:=cv) (mv:=mv) (ov:=.ak) (o:=o) (H9.sub (.cons e_2 (.cons e_4 (.cons e_2 (.cons .here (.cons .here (.drop .refl)))))))
section
variable {x v:Nat} {l:List qa} {bad:Int} {mt:List Int} {s:IM} {err fin left nx:Int}
end
end
end Go.Proofs.YthmopakmcboghaaGreatDoor
