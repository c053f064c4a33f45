/- Lemmas for 'quietus/quietuslaw26.AttemptAlone': Blocks of words: by the program;Blocks of words: by the documents own text;Numbers brought into bounds;Are two lists of numbers the same?;Are two lists of ... No condition. -/
import Derived.Test.YtnalffoigcmnnaaGreatDoorAttemptAloneM1
import Derived.Test.YtnalffoigcmnnaaGreatDoorAttemptAloneAe7
import Derived.Test.YtnalffoigcmnnaaGreatDoorAttemptAloneT
import Derived.KernelRfl
import Derived.Lib.ItoaLen
namespace Go.Proofs.YtnalffoigcmnnaaGreatDoor
open Go Go.Ae
set_option maxRecDepth 100000
variable {g h:AH} {L R:List SP}
def yt (x:Int):Int:=if x=1 then 2 else if x=2 then 4 else if x=3 then 8 else if x=4 then 16 else 0
def xX (x:Int):Int:=if x<1 then 0 else if x≤2 then 1 else if x≤4 then 2 else if x≤8 then 3 else if x≤16 then 4 else 0
theorem MJ (x:Int):0≤yt x∧yt x≤16:=by unfold yt;repeat' split<;>omega
theorem NM (x:Int):0≤xX x∧xX x≤4:=by unfold xX;repeat' split<;>omega
structure WdV (M:VM):Prop where
  k:∀c∈M.K,0≤c.2∧c.2<18446744073709551616
  l:∀x∈M.lv,∀c∈x.1,0≤c.2∧c.2<18446744073709551616
theorem Vg {P:Int→Prop} {p x:Int}:∀{l:List Cl},(∀c∈l,P c.2)→j0 p l=some x→P x:=by
 intro l
 induction l with
 |nil=>intro _ h;cases h
 |cons c l ih=>
  intro h e;unfold j0 at e
  split at e
  ·cases e;exact h c (iK ..)
  ·exact ih (λd hd=>h d (iX _ hd)) e
theorem qXF {P:Int→Prop} {p x:Int}:∀{lv:List LvM},(∀y∈lv,∀c∈y.1,P c.2)→YM p lv=some x→P x:=by
 intro lv
 induction lv with
 |nil=>intro _ h;cases h
 |cons y r ih=>
  intro h e;unfold YM at e
  split at e
  ·rename_i v hv;cases e;exact Vg (h y (iK ..)) hv
  ·exact ih (λz hz=>h z (iX _ hz)) e
theorem WdV.read {M:VM} {p:Int} (W:WdV M):0≤(qb M p).1.1∧(qb M p).1.1<18446744073709551616:=by
 unfold qb
 split
 ·split
  ·rename_i x hx;exact qXF (P:=λx=>0≤x∧x<18446744073709551616) W.l hx
  ·split
   ·rename_i x hx;exact Vg (P:=λx=>0≤x∧x<18446744073709551616) W.k hx
   ·show(0:Int)≤0∧(0:Int)<18446744073709551616;omega
 ·show(0:Int)≤0∧(0:Int)<18446744073709551616;omega
theorem WdV.read2 {M:VM} {p:Int} (W:WdV M):WdV (qb M p).2:=by
 unfold qb
 repeat' split
 all_goals exact⟨W.k,W.l⟩
def WdC (cs:List Cl):Prop:=∀c∈cs,0≤c.2∧c.2<18446744073709551616
theorem WdC.put {l:List Cl} {p v:Int} (h:WdC l) (hv:0≤v∧v<18446744073709551616):WdC (yz p v l):=by
 induction l with
 |nil=>intro c hc;simp[yz]at hc;subst hc;exact hv
 |cons a l ih=>
  unfold yz
  split
  ·intro c hc;rcases List.mem_cons.1 hc with rfl |hc
   ·exact hv
   ·exact h c (iX _ hc)
  ·intro c hc;rcases List.mem_cons.1 hc with rfl |hc
   ·exact h _ (iK ..)
   ·exact ih (λc hc=>h c (iX _ hc)) c hc
theorem WdC.puts:∀{cs l:List Cl},WdC l→WdC cs→WdC (yV l cs):=by
 intro cs
 induction cs with
 |nil=>intro l h _;exact h
 |cons c cs ih=>intro l h hc;exact ih (h.put (hc c (iK ..))) λd hd=>hc d (iX _ hd)
theorem qGu {most:Nat} {was:List LvM} (hw:∀x∈was,WdC x.1):∀{cs:List Cl} {lv:List LvM},WdC cs→(∀x∈lv,WdC x.1)→∀x∈(yr most was lv cs).2,WdC x.1:=by
 intro cs
 induction cs with
 |nil=>intro lv _ h;exact h
 |cons c cs ih=>
  intro lv hc h;rw[vw]
  split
  ·refine ih (λd hd=>hc d (iX _ hd)) ?_;cases lv with
   |nil=>exact h
   |cons y r=>
    unfold vk;dsimp only
    split
    ·exact h
    ·split
     ·exact h
     ·intro x hx;rcases List.mem_cons.1 hx with rfl |hx
      ·exact(show WdC y.1 from h y (iK ..)).put (hc c (iK ..))
      ·exact h x (iX _ hx)
  ·exact hw
theorem WdV.take {M:VM} {cs:List Cl} (W:WdV M) (hc:WdC cs):WdV (jr M cs).2:=by
 unfold jr
 split
 ·exact⟨W.k,qGu W.l hc W.l⟩
 ·exact W
def xH (M:VM) (c b:Int):(Int×Int)×VM :=
 if 2147483648≤b then((0,2),M)else
 if(qb M b).1.2=0 then
  (if(jr (qb M b).2 [(c,(qb M b).1.1),(b-1,c+8)]).1=0 then((b,0),(jr (qb M b).2 [(c,(qb M b).1.1),(b-1,c+8)]).2)
   else((0,(jr (qb M b).2 [(c,(qb M b).1.1),(b-1,c+8)]).1),(jr (qb M b).2 [(c,(qb M b).1.1),(b-1,c+8)]).2))
 else((0,(qb M b).1.2),(qb M b).2)
def xL (M:VM) (c:Int):(Int×Int)×VM :=
 if(qb M 5).1.2=0 then
  (if(qb M 5).1.1<14∨2147483648≤(qb M 5).1.1∨(M.sz:Int)<(qb M 5).1.1+1+yt c then((0,4),(qb M 5).2)
   else if(jr (qb M 5).2 [(5,(qb M 5).1.1+1+yt c),((qb M 5).1.1,c+8)]).1=0 then(((qb M 5).1.1+1,0),(jr (qb M 5).2 [(5,(qb M 5).1.1+1+yt c),((qb M 5).1.1,c+8)]).2)
   else((0,(jr (qb M 5).2 [(5,(qb M 5).1.1+1+yt c),((qb M 5).1.1,c+8)]).1),(jr (qb M 5).2 [(5,(qb M 5).1.1+1+yt c),((qb M 5).1.1,c+8)]).2))
 else((0,(qb M 5).1.2),(qb M 5).2)
def zH (M:VM) (n:Int):(Int×Int)×VM :=
 if xX n=0 then((0,3),M)else
 if(qb M (xX n)).1.2=0 then
  (if(qb M (xX n)).1.1=0 then xL (qb M (xX n)).2 (xX n)else xH (qb M (xX n)).2 (xX n) (qb M (xX n)).1.1)
 else((0,(qb M (xX n)).1.2),(qb M (xX n)).2)
def XQ (w:Int):Int×Bool:=if 1≤w∧w≤4 then(w,false)else if 9≤w∧w≤12 then(w-8,true)else(0,false)
def ja (M:VM) (b:Int):(Int×Bool×Int)×VM :=
 if b≤14∨M.sz≤b then((0,false,2),M)else
 if(qb M (b-1)).1.2=0 then
  (if(XQ (qb M (b-1)).1.1).1=0 then((0,false,2),(qb M (b-1)).2)else(((XQ (qb M (b-1)).1.1).1,(XQ (qb M (b-1)).1.1).2,0),(qb M (b-1)).2))
 else((0,false,(qb M (b-1)).1.2),(qb M (b-1)).2)
def yu (M:VM) (b:Int):Int×VM :=
 if(ja M b).1.2.2=0 then
  (if(ja M b).1.2.1=true then
   (if(jr (ja M b).2 [(b-1,(ja M b).1.1)]).1=0 then(0,freeV (jr (ja M b).2 [(b-1,(ja M b).1.1)]).2 b)else jr (ja M b).2 [(b-1,(ja M b).1.1)])
  else(2,(ja M b).2))
 else((ja M b).1.2.2,(ja M b).2)
def zv (M:VM) (b:Int):Int×VM :=
 if(ja M b).1.2.2=0 then
  (if(ja M b).1.2.1=true then(2,(ja M b).2)else
   if(qb (ja M b).2 (ja M b).1.1).1.2=0 then jr (qb (ja M b).2 (ja M b).1.1).2 [(b,(qb (ja M b).2 (ja M b).1.1).1.1),((ja M b).1.1,b)]
   else((qb (ja M b).2 (ja M b).1.1).1.2,(qb (ja M b).2 (ja M b).1.1).2))
 else((ja M b).1.2.2,(ja M b).2)
theorem qW9 {M:VM} {p:Int}:(qb M p).2.sz=M.sz:=by
 unfold qb
 repeat' split
 all_goals rfl
theorem qzL (w:Int):0≤(XQ w).1∧(XQ w).1≤4:=by
 unfold XQ
 repeat' split
 all_goals dsimp only
 all_goals omega
theorem Vr (M:VM) (b:Int):0≤(ja M b).1.1∧(ja M b).1.1≤4∧((ja M b).1.2.2=0→14<b∧b<M.sz):=by
 unfold ja
 split
 ·exact⟨Int.le_refl 0,by show(0:Int)≤4;omega,λh=>by cases h⟩
 ·split
  ·split
   ·exact⟨Int.le_refl 0,by show(0:Int)≤4;omega,λh=>by cases h⟩
   ·have:=qzL (qb M (b-1)).1.1;exact⟨this.1,this.2,λ_=>by omega⟩
  ·exact⟨Int.le_refl 0,by show(0:Int)≤4;omega,λ_=>by omega⟩
theorem JM {M:VM} {b:Int} (O:OkV M):OkV (ja M b).2:=by
 unfold ja
 split
 ·exact O
 ·split
  ·split<;>exact xw O
  ·exact xw O
theorem qzl {M:VM} {b:Int} (O:WdV M):WdV (ja M b).2:=by
 unfold ja
 split
 ·exact O
 ·split
  ·split<;>exact O.read2
  ·exact O.read2
theorem qKA {M:VM} {b:Int} (O:OkV M) (hf:∀x∈M.lv,x.2.length+1<100000):OkV (freeV M b):=by
 refine⟨O.lo,O.hi,qV8 O.lvs,O.ins,O.un,?_⟩;show∀x∈JY M.lv b,x.2.length<100000;cases hl:M.lv with
 |nil=>intro x hx;cases hx
 |cons y r=>
  rw[hl]at hf;intro x hx;rcases List.mem_cons.1 hx with rfl |hx
  ·have:=hf y (iK ..);simpa using this
  ·have:=hf x (iX _ hx);omega
theorem YK {n:Nat} (hn:1≤n) {x:Int}:t_w n 268 [.int .i64 x] h λv h'=>v=.int .i64 (yt x)∧h'=h:=by
 refine t_e1 (S:=S268) rfl omQ λk hk=>?_;unfold S268;try simp only[iZ]
 repeat' (first |with_reducible refine qX ?_ |with_reducible refine qJ ?_ |(with_reducible refine qR ?_;try dsimp only) |(with_reducible refine qf ?_;try dsimp only) |(with_reducible refine qT ?_;try dsimp only) |(with_reducible refine qa ?_;try dsimp only) |(with_reducible refine jc ?_;try dsimp only) |with_reducible refine qC ?_ |with_reducible refine qF ?_ |(with_reducible refine qV ?_;try dsimp only) |with_reducible refine qx ?_ |with_reducible refine qu ?_ |with_reducible refine jQ ?_ |with_reducible refine qU omQ ?_ |with_reducible refine jM omQ ?_ |with_reducible refine xJ omQ ?_ |with_reducible refine xS omQ ?_ |with_reducible refine jm ?_ |with_reducible refine zK ?_ |with_reducible refine jt (λhc=>?_) (λhc=>?_) |with_reducible refine gd (λhc=>?_) (λhc=>?_) |with_reducible refine yd (λhc=>?_) (λhc=>?_) |with_reducible refine xT (λhc=>?_) (λhc=>?_) |with_reducible refine vq (λhc=>?_) (λhc=>?_) |with_reducible refine xA (λhc=>?_) (λhc=>?_) |with_reducible refine vP (λhc=>?_) (λhc=>?_))
 ·refine qY ⟨?_,rfl⟩;unfold yt;congr 1;repeat' split<;>omega
 ·refine qY ⟨?_,rfl⟩;unfold yt;congr 1;repeat' split<;>omega
 ·refine ZL omQ ?_;refine qY ⟨?_,rfl⟩;rcases(show x=1∨x=2∨x=3∨x=4 by omega)with rfl |rfl |rfl |rfl<;>rfl
theorem qXU {n:Nat} (hn:2≤n) {x:Int}:t_w n 226 [.int .i64 x] h λv h'=>v=.int .i64 (xX x)∧h'=h:=by
 refine t_e1 (S:=S226) rfl omQ λk hk=>?_;unfold S226;try simp only[iZ]
 repeat' (first |with_reducible refine qX ?_ |with_reducible refine qJ ?_ |(with_reducible refine qR ?_;try dsimp only) |(with_reducible refine qf ?_;try dsimp only) |(with_reducible refine qT ?_;try dsimp only) |(with_reducible refine qa ?_;try dsimp only) |(with_reducible refine jc ?_;try dsimp only) |with_reducible refine qC ?_ |with_reducible refine qF ?_ |(with_reducible refine qV ?_;try dsimp only) |with_reducible refine qx ?_ |with_reducible refine qu ?_ |with_reducible refine jQ ?_ |with_reducible refine qU omQ ?_ |with_reducible refine jM omQ ?_ |with_reducible refine xJ omQ ?_ |with_reducible refine xS omQ ?_ |with_reducible refine jm ?_ |with_reducible refine zK ?_ |with_reducible refine jt (λhc=>?_) (λhc=>?_) |with_reducible refine gd (λhc=>?_) (λhc=>?_) |with_reducible refine yd (λhc=>?_) (λhc=>?_) |with_reducible refine xT (λhc=>?_) (λhc=>?_) |with_reducible refine vq (λhc=>?_) (λhc=>?_) |with_reducible refine xA (λhc=>?_) (λhc=>?_) |with_reducible refine vP (λhc=>?_) (λhc=>?_))
 ·refine qY ⟨?_,rfl⟩;unfold xX;congr 1;repeat' split<;>omega
 ·refine jP (λm s g=>∃i:Int,s=(.int .i64 i,.int .i64 x,())∧1≤i∧i≤5∧(m:Int)=5-i∧g=h∧(1<i→2<x)∧(2<i→4<x)∧(3<i→8<x)∧(4<i→16<x)) ?_ (m:=4) od ⟨1,rfl,by omega,by omega,by omega,rfl,by omega,by omega,by omega,by omega⟩;rintro m ih s g hih ⟨i,rfl,h1,h2,h3,rfl,h4,h5,h6,h7⟩;dsimp only
  repeat' (first |with_reducible refine qX ?_ |with_reducible refine qJ ?_ |(with_reducible refine qR ?_;try dsimp only) |(with_reducible refine qf ?_;try dsimp only) |(with_reducible refine qT ?_;try dsimp only) |(with_reducible refine qa ?_;try dsimp only) |(with_reducible refine jc ?_;try dsimp only) |with_reducible refine qC ?_ |with_reducible refine qF ?_ |(with_reducible refine qV ?_;try dsimp only) |with_reducible refine qx ?_ |with_reducible refine qu ?_ |with_reducible refine jQ ?_ |with_reducible refine qU omQ ?_ |with_reducible refine jM omQ ?_ |with_reducible refine xJ omQ ?_ |with_reducible refine xS omQ ?_ |with_reducible refine jm ?_ |with_reducible refine zK ?_ |with_reducible refine jt (λhc=>?_) (λhc=>?_) |with_reducible refine gd (λhc=>?_) (λhc=>?_) |with_reducible refine yd (λhc=>?_) (λhc=>?_) |with_reducible refine xT (λhc=>?_) (λhc=>?_) |with_reducible refine vq (λhc=>?_) (λhc=>?_) |with_reducible refine xA (λhc=>?_) (λhc=>?_) |with_reducible refine vP (λhc=>?_) (λhc=>?_))
  ·refine qW (YK omQ) ?_;rintro v g' ⟨rfl,rfl⟩
   repeat' (first |with_reducible refine qX ?_ |with_reducible refine qJ ?_ |(with_reducible refine qR ?_;try dsimp only) |(with_reducible refine qf ?_;try dsimp only) |(with_reducible refine qT ?_;try dsimp only) |(with_reducible refine qa ?_;try dsimp only) |(with_reducible refine jc ?_;try dsimp only) |with_reducible refine qC ?_ |with_reducible refine qF ?_ |(with_reducible refine qV ?_;try dsimp only) |with_reducible refine qx ?_ |with_reducible refine qu ?_ |with_reducible refine jQ ?_ |with_reducible refine qU omQ ?_ |with_reducible refine jM omQ ?_ |with_reducible refine xJ omQ ?_ |with_reducible refine xS omQ ?_ |with_reducible refine jm ?_ |with_reducible refine zK ?_ |with_reducible refine jt (λhc=>?_) (λhc=>?_) |with_reducible refine gd (λhc=>?_) (λhc=>?_) |with_reducible refine yd (λhc=>?_) (λhc=>?_) |with_reducible refine xT (λhc=>?_) (λhc=>?_) |with_reducible refine vq (λhc=>?_) (λhc=>?_) |with_reducible refine xA (λhc=>?_) (λhc=>?_) |with_reducible refine vP (λhc=>?_) (λhc=>?_))
   ·refine qY ⟨?_,rfl⟩;unfold yt at*;unfold xX;congr 1;repeat' split<;>omega
   ·refine hih (m-1) _ _ omQ ⟨i+1,rfl,by omega,by omega,by omega,rfl,?_,?_,?_,?_⟩<;>(unfold yt at*;repeat' split at* <;>omega)
  ·refine qY ⟨?_,rfl⟩;unfold xX;congr 1;repeat' split<;>omega
theorem Yg {n:Nat} (hn:1≤n) {c:Int} (hc:0≤c∧c≤4):t_w n 175 [.int .i64 c] h λv h'=>v=.int .i64 c∧h'=h:=by
 refine t_e1 (S:=S175) rfl omQ λk hk=>?_;unfold S175;try simp only[iZ]
 refine qU omQ ?_;exact qY ⟨by congr 1;omega,rfl⟩
theorem O6 {n:Nat} (hn:1≤n) {w:Int}:t_w n 242 [.int .u64 w] h λv h'=>v=.tup [.int .i64 (XQ w).1,.bool (XQ w).2]∧h'=h:=by
 refine t_e1 (S:=S242) rfl omQ λk hk=>?_;unfold S242;try simp only[iZ]
 unfold XQ;by_cases h1:1≤w∧w≤4
 ·rw[iJ h1];refine zz omQ ?_;refine qV ?_;(try dsimp only);refine qR ?_;(try dsimp only);refine JF omQ ?_;refine qC (qX (z7 omQ ?_))
  exact qY ⟨rfl,rfl⟩
 ·rw[iQ h1];by_cases h2:9≤w∧w≤12
  ·rw[iJ h2];refine zz omQ ?_;refine qV ?_;(try dsimp only);refine qR ?_;(try dsimp only);refine X0 omQ ?_;refine qC (qJ (zz omQ ?_));refine qV ?_;(try dsimp only);refine qR ?_;(try dsimp only);refine JF omQ ?_;refine qC (qX (xS omQ ?_));refine z7 omQ ?_
   exact qY ⟨rfl,rfl⟩
  ·rw[iQ h2]
   repeat' (first |with_reducible refine qX ?_ |with_reducible refine qJ ?_ |(with_reducible refine qR ?_;try dsimp only) |(with_reducible refine qf ?_;try dsimp only) |(with_reducible refine qT ?_;try dsimp only) |(with_reducible refine qa ?_;try dsimp only) |(with_reducible refine jc ?_;try dsimp only) |with_reducible refine qC ?_ |with_reducible refine qF ?_ |(with_reducible refine qV ?_;try dsimp only) |with_reducible refine qx ?_ |with_reducible refine qu ?_ |with_reducible refine jQ ?_ |with_reducible refine qU omQ ?_ |with_reducible refine jM omQ ?_ |with_reducible refine xJ omQ ?_ |with_reducible refine xS omQ ?_ |with_reducible refine jm ?_ |with_reducible refine zK ?_ |with_reducible refine qz omQ ?_ |with_reducible refine qZ omQ ?_ |with_reducible refine jq omQ ?_ |with_reducible refine jk omQ ?_ |with_reducible refine zq omQ ?_ |with_reducible refine jo omQ ?_ |with_reducible refine JF omQ ?_ |with_reducible refine X0 omQ ?_ |with_reducible refine xn omQ ?_ |with_reducible refine xc omQ ?_ |with_reducible refine zz omQ ?_ |with_reducible refine zB omQ ?_ |with_reducible refine jt (λhc=>?_) (λhc=>?_) |with_reducible refine gd (λhc=>?_) (λhc=>?_) |with_reducible refine yd (λhc=>?_) (λhc=>?_) |with_reducible refine xT (λhc=>?_) (λhc=>?_) |with_reducible refine vq (λhc=>?_) (λhc=>?_) |with_reducible refine xA (λhc=>?_) (λhc=>?_) |with_reducible refine vP (λhc=>?_) (λhc=>?_))
   all_goals exact qY ⟨rfl,rfl⟩
theorem Vv {n:Nat} (hn:10≤n) {v:Nat} {M:VM} {b:Int} (H:HS g h (ViewC v M::R)) (O:OkV M) :
  t_w n 174 [.ptr v 0,.int .i64 b] h λr h'=>r=.tup [.int .i64 (ja M b).1.1,.bool (ja M b).1.2.1,.int .i64 (ja M b).1.2.2]∧HS g h' (ViewC v (ja M b).2::R):=by
 refine t_e2 (S:=S174) rfl omQ λk hk=>?_;unfold S174;try simp only[iZ]
 unfold ja;by_cases h1:b≤14
 ·rw[iJ (.inl h1)];refine JF omQ ?_;refine qV ?_;(try dsimp only);refine qf ?_;(try dsimp only);refine qC (qX ?_)
  exact qY ⟨rfl,H⟩
 ·refine X0 omQ ?_;refine qV ?_;(try dsimp only);refine qa ?_;(try dsimp only)
  refine qW (Xs omQ H) ?_;rintro _ _ ⟨rfl,rfl⟩;by_cases h2:(M.sz:Int)≤b
  ·rw[iJ (.inr h2)];refine zz omQ ?_;refine qF (qX ?_);exact qY ⟨rfl,H⟩
  ·rw[iQ omQ];refine zB omQ ?_;refine qF (qJ ?_);have:=O.hi;refine jM omQ (qW (kp omQ H O) ?_);rintro _ h3 ⟨rfl,H3⟩;simp only[show((1:Nat):Int)=1 from rfl]at H3 ⊢;refine qw rfl ?_;refine qw rfl ?_;by_cases h4:(qb M (b-1)).1.2=0
   ·rw[iJ h4];refine jk omQ ?_;refine qJ (qW (O6 omQ) ?_);rintro _ _ ⟨rfl,rfl⟩;refine qw rfl ?_;refine qw rfl ?_;by_cases h5:(XQ (qb M (b-1)).1.1).1=0
    ·rw[iJ h5];refine qz omQ ?_;refine qX ?_;exact qY ⟨rfl,H3⟩
    ·rw[iQ h5];refine qZ omQ ?_;refine qJ ?_;exact qY ⟨rfl,H3⟩
   ·rw[iQ h4];refine jq omQ ?_;refine qX ?_;exact qY ⟨rfl,H3⟩
theorem qYD {n:Nat} (hn:11≤n) {v:Nat} {M:VM} {b:Int} (H:HS g h (ViewC v M::R)) (O:OkV M) :
  t_w n 162 [.ptr v 0,.int .i64 b] h λr h'=>r=.int .i64 (yu M b).1∧HS g h' (ViewC v (yu M b).2::R):=by
 refine t_e2 (S:=S162) rfl omQ λk hk=>?_;unfold S162;try simp only[iZ]
 refine qW (Vv omQ H O) ?_;rintro _ h1 ⟨rfl,H1⟩;have hb:=Vr M b;have hO:=JM (b:=b) O;have:=O.hi;unfold yu;refine qw rfl ?_;refine qw rfl ?_;refine qw rfl ?_;refine qV ?_;(try dsimp only)
 by_cases h2:(ja M b).1.2.2=0
 ·rw[iJ h2];refine qz omQ ?_;refine qV ?_;(try dsimp only);refine qR ?_;(try dsimp only)
  cases h3:(ja M b).1.2.1
  ·rw[iQ osQ];refine jQ (qC (qX (qV ?_)));(try dsimp only);refine qZ omQ ?_;refine qJ (qV ?_);(try dsimp only);refine qZ omQ ?_;refine qJ (qx ?_)
   exact qY ⟨rfl,H1⟩
  ·rw[iJ rfl];refine qu (qC (qJ (qV ?_)));(try dsimp only);refine qz omQ ?_;refine qX (jM omQ ?_);refine xN omQ ?_;refine qI rfl ?_
   simp only[show((1:Nat):Int)=1 from rfl];refine(qr (n:=1) (l:=[.int .i64 (b-1),.int .u64 (ja M b).1.1]) (sz:=2) H1 rfl rfl rfl rfl λv3 h3 H3=>?_);refine qW (Xr (cs:=[(b-1,(ja M b).1.1)]) omQ (H3.sel e_1) hO (.own .here) osQ) ?_;rintro _ h4 ⟨rfl,H4⟩;by_cases h5:(jr (ja M b).2 [(b-1,(ja M b).1.1)]).1=0
   ·rw[iJ h5];refine qV ?_;(try dsimp only);refine qz omQ ?_;refine qX ?_
    refine qW (qW1 omQ H4 (Ni hO)) ?_;intro _ h6 H6;refine qx ?_;exact qY ⟨by rw[h5],H6.sub (.cons .here (.drop (.refl)))⟩
   ·rw[iQ h5];refine qV ?_;(try dsimp only);refine qZ omQ ?_;refine qJ (qx ?_)
    exact qY ⟨rfl,H4.sub (.cons .here (.drop (.refl)))⟩
 ·rw[iQ h2];refine qZ omQ ?_;refine qV ?_;(try dsimp only);refine qT ?_;(try dsimp only);refine qF (qJ (qV ?_));(try dsimp only);refine qZ omQ ?_;refine qJ (qV ?_);(try dsimp only);refine qZ omQ ?_;refine qJ (qx ?_)
  exact qY ⟨rfl,H1⟩
theorem qVp {n:Nat} (hn:11≤n) {v:Nat} {M:VM} {b:Int} (H:HS g h (ViewC v M::R)) (O:OkV M) :
  t_w n 125 [.ptr v 0,.int .i64 b] h λr h'=>r=.int .i64 (zv M b).1∧HS g h' (ViewC v (zv M b).2::R):=by
 refine t_e2 (S:=S125) rfl omQ λk hk=>?_;unfold S125;try simp only[iZ]
 refine qW (Vv omQ H O) ?_;rintro _ h1 ⟨rfl,H1⟩;have hb:=Vr M b;have hO:=JM (b:=b) O;have:=O.hi;unfold zv;refine qw rfl ?_;refine qw rfl ?_;refine qw rfl ?_;refine qV ?_;(try dsimp only)
 by_cases h2:(ja M b).1.2.2=0
 ·rw[iJ h2];refine qz omQ ?_;refine qV ?_;(try dsimp only);refine qR ?_;(try dsimp only);refine qC ?_
  cases h3:(ja M b).1.2.1
  ·rw[iQ osQ];refine qJ (jk omQ ?_);refine qJ (qW (Yg omQ omQ) ?_);rintro _ _ ⟨rfl,rfl⟩;refine qW (kp omQ H1 hO) ?_;rintro _ h4 ⟨rfl,H4⟩;refine qw rfl ?_;refine qw rfl ?_;by_cases h5:(qb (ja M b).2 (ja M b).1.1).1.2=0
   ·rw[iJ h5];refine jk omQ ?_;refine qJ (qI rfl ?_);refine qW (Yg omQ omQ) ?_;rintro _ _ ⟨rfl,rfl⟩;refine xN omQ ?_;refine qI rfl (qr (n:=2) (l:=[.int .i64 b,.int .u64 (qb (ja M b).2 (ja M b).1.1).1.1,.int .i64 (ja M b).1.1,.int .u64 b]) (sz:=2) H4 rfl rfl rfl rfl λv5 h5 H5=>?_);refine qW (Xr (cs:=[(b,(qb (ja M b).2 (ja M b).1.1).1.1),((ja M b).1.1,b)]) omQ (H5.sel e_1) (xw hO) (.own .here) osQ) ?_;rintro _ h6 ⟨rfl,H6⟩;refine qx ?_;exact qY ⟨rfl,H6.sub (.cons .here (.drop (.refl)))⟩
   ·rw[iQ h5];refine jq omQ ?_;refine qX (qx ?_);exact qY ⟨rfl,H4⟩
  ·rw[iJ rfl];refine qX (jq omQ ?_);refine qX (qx ?_);exact qY ⟨rfl,H1⟩
 ·rw[iQ h2];refine qZ omQ ?_;refine qV ?_;(try dsimp only);refine qT ?_;(try dsimp only);refine qF (qJ (jq omQ ?_));refine qX (qx ?_)
  exact qY ⟨rfl,H1⟩
theorem qJ0 {n:Nat} (hn:10≤n) {v:Nat} {M:VM} {c b:Int} (H:HS g h (ViewC v M::R)) (O:OkV M) (hc:1≤c∧c≤4) (hb:0≤b) :
  t_w n 227 [.ptr v 0,.int .i64 c,.int .u64 b] h λr h'=>r=.tup [.int .i64 (xH M c b).1.1,.int .i64 (xH M c b).1.2]∧HS g h' (ViewC v (xH M c b).2::R):=by
 refine t_e3 (S:=S227) rfl omQ λk hk=>?_;unfold S227;try simp only[iZ]
 unfold xH;by_cases h1:2147483648≤b
 ·rw[iJ h1];refine zz omQ ?_;refine qX ?_;exact qY ⟨rfl,H⟩
 ·rw[iQ h1];refine zB omQ ?_;refine qJ (z7 omQ ?_);refine qW (kp omQ H O) ?_;rintro _ h3 ⟨rfl,H3⟩;refine qw rfl ?_;refine qw rfl ?_;refine qV ?_;(try dsimp only)
  by_cases h4:(qb M b).1.2=0
  ·rw[iJ h4];refine qz omQ ?_;refine qX (qW (Yg omQ omQ) ?_);rintro _ _ ⟨rfl,rfl⟩;refine qI rfl (jM omQ (qU omQ (xN omQ (qI rfl ?_))));refine qr (n:=2) (l:=[.int .i64 c,.int .u64 (qb M b).1.1,.int .i64 (b-1),.int .u64 (c+8)]) (sz:=2) H3 rfl rfl rfl rfl λv5 h5 H5=>?_;refine qW (Xr (cs:=[(c,(qb M b).1.1),(b-1,c+8)]) omQ (H5.sel e_1) (xw O) (.own .here) osQ) ?_;rintro _ h6 ⟨rfl,H6⟩;by_cases h7:(jr (qb M b).2 [(c,(qb M b).1.1),(b-1,c+8)]).1=0
   ·rw[iJ h7];refine jk omQ ?_;refine qJ (qx ?_);exact qY ⟨rfl,H6.sub (.cons .here (.drop (.refl)))⟩
   ·rw[iQ h7];refine jq omQ ?_;refine qX (qx ?_);exact qY ⟨rfl,H6.sub (.cons .here (.drop (.refl)))⟩
  ·rw[iQ h4];refine qZ omQ ?_;refine qJ (jq omQ ?_);refine qX (qx ?_);exact qY ⟨rfl,H3⟩
theorem qJh {n:Nat} (hn:10≤n) {v:Nat} {M:VM} {c:Int} (H:HS g h (ViewC v M::R)) (O:OkV M) (W:WdV M) (hc:1≤c∧c≤4) :
  t_w n 228 [.ptr v 0,.int .i64 c] h λr h'=>r=.tup [.int .i64 (xL M c).1.1,.int .i64 (xL M c).1.2]∧HS g h' (ViewC v (xL M c).2::R):=by
 refine t_e2 (S:=S228) rfl omQ λk hk=>?_;unfold S228;try simp only[iZ]
 unfold xL;refine qW (kp omQ H O) ?_;rintro _ h3 ⟨rfl,H3⟩;have hw:=W.read (p:=5);simp only[show((5:Nat):Int)=5 from rfl]at H3 ⊢;have hs:=MJ c;have hO:=O.hi;refine qw rfl ?_;refine qw rfl ?_;by_cases h4:(qb M 5).1.2=0
 ·rw[iJ h4];refine jk omQ ?_;refine qJ ?_;have hsz:(qb M 5).2.sz=M.sz:=qW9;by_cases h5:(qb M 5).1.1<14∨2147483648≤(qb M 5).1.1∨(M.sz:Int)<(qb M 5).1.1+1+yt c
  ·rw[iJ h5];by_cases h6:(qb M 5).1.1<14
   ·refine zq omQ ?_;refine qV ?_;(try dsimp only);refine qf ?_;(try dsimp only);refine qC (qV ?_);(try dsimp only);refine qf ?_;(try dsimp only);refine qC (qX ?_)
    exact qY ⟨rfl,H3⟩
   ·by_cases h7:2147483648≤(qb M 5).1.1
    ·refine jo omQ ?_;refine qV ?_;(try dsimp only);refine qa ?_;(try dsimp only);refine zz omQ ?_;refine qF (qV ?_);(try dsimp only);refine qf ?_;(try dsimp only);refine qC (qX ?_)
     exact qY ⟨rfl,H3⟩
    ·refine jo omQ ?_;refine qV ?_;(try dsimp only);refine qa ?_;(try dsimp only);refine zB omQ ?_;refine qF (qV ?_);(try dsimp only);refine qa ?_;(try dsimp only);refine z7 omQ ?_;refine qU omQ ?_
     refine qW (YK omQ) ?_;rintro _ _ ⟨rfl,rfl⟩;refine qU omQ ?_;refine qW (Xs omQ H3) ?_;rintro _ _ ⟨rfl,rfl⟩;rw[hsz];refine xn omQ ?_;refine qF (qX ?_);exact qY ⟨rfl,H3⟩
  ·rw[iQ h5];refine jo omQ ?_;refine qV ?_;(try dsimp only);refine qa ?_;(try dsimp only);refine zB omQ ?_;refine qF (qV ?_);(try dsimp only);refine qa ?_;(try dsimp only);refine z7 omQ ?_;refine qU omQ ?_
   refine qW (YK omQ) ?_;rintro _ _ ⟨rfl,rfl⟩;refine qU omQ ?_;refine qW (Xs omQ H3) ?_;rintro _ _ ⟨rfl,rfl⟩;rw[hsz];refine xc omQ ?_;refine qF (qJ (z7 omQ ?_));refine qU omQ ?_;refine qW (YK omQ) ?_;rintro _ _ ⟨rfl,rfl⟩;refine qU omQ (xN omQ (qI rfl (qU omQ (xN omQ (qI rfl ?_)))));refine qr (n:=2) (l:=[.int .i64 5,.int .u64 ((qb M 5).1.1+1+yt c),.int .i64 (qb M 5).1.1,.int .u64 (c+8)]) (sz:=2) H3 rfl rfl rfl rfl λv5 h5 H5=>?_;refine qW (Xr (cs:=[(5,(qb M 5).1.1+1+yt c),((qb M 5).1.1,c+8)]) omQ (H5.sel e_1) (xw O) (.own .here) osQ) ?_;rintro _ h6 ⟨rfl,H6⟩;by_cases h7:(jr (qb M 5).2 [(5,(qb M 5).1.1+1+yt c),((qb M 5).1.1,c+8)]).1=0
   ·rw[iJ h7];refine jk omQ ?_;refine qJ (qU omQ ?_);exact qY ⟨rfl,H6.sub (.cons .here (.drop (.refl)))⟩
   ·rw[iQ h7];refine jq omQ ?_;refine qX ?_;exact qY ⟨rfl,H6.sub (.cons .here (.drop (.refl)))⟩
 ·rw[iQ h4];refine jq omQ ?_;refine qX ?_;exact qY ⟨rfl,H3⟩
theorem qXh {n:Nat} (hn:11≤n) {v:Nat} {M:VM} {x:Int} (H:HS g h (ViewC v M::R)) (O:OkV M) (W:WdV M) :
  t_w n 161 [.ptr v 0,.int .i64 x] h λr h'=>r=.tup [.int .i64 (zH M x).1.1,.int .i64 (zH M x).1.2]∧HS g h' (ViewC v (zH M x).2::R):=by
 refine t_e2 (S:=S161) rfl omQ λk hk=>?_;unfold S161;try simp only[iZ]
 refine qW (qXU omQ) ?_;rintro _ _ ⟨rfl,rfl⟩;have hc:=NM x;unfold zH;by_cases h1:xX x=0
 ·rw[iJ h1];refine qz omQ ?_;refine qX ?_;exact qY ⟨rfl,H⟩
 ·rw[iQ h1];refine qZ omQ ?_;refine qJ (qW (Yg omQ hc) ?_);rintro _ _ ⟨rfl,rfl⟩;refine qW (kp omQ H O) ?_;rintro _ h3 ⟨rfl,H3⟩;have hw:=W.read (p:=xX x);refine qw rfl ?_;refine qw rfl ?_;by_cases h4:(qb M (xX x)).1.2=0
  ·rw[iJ h4];by_cases h5:(qb M (xX x)).1.1=0
   ·rw[iJ h5];refine jk omQ ?_;refine qJ (jk omQ ?_);refine qJ (qW (qJh omQ H3 (xw O) W.read2 omQ) ?_);rintro _ h6 ⟨rfl,H6⟩;refine qw rfl ?_;refine qw rfl ?_;exact qY ⟨rfl,H6⟩
   ·rw[iQ h5];refine jk omQ ?_;refine qJ (jq omQ ?_);refine qX (qW (qJ0 omQ H3 (xw O) omQ hw.1) ?_);rintro _ h6 ⟨rfl,H6⟩;refine qw rfl ?_;refine qw rfl ?_;exact qY ⟨rfl,H6⟩
  ·rw[iQ h4];refine jq omQ ?_;refine qX ?_;exact qY ⟨rfl,H3⟩
end Go.Proofs.YtnalffoigcmnnaaGreatDoor
namespace Go.Proofs.YtnalffoigcmnnaaGreatDoor
open Go Go.Ae
set_option maxRecDepth 100000
variable {g h:AH} {L R:List SP}
end Go.Proofs.YtnalffoigcmnnaaGreatDoor
namespace Go.Proofs.YtnalffoigcmnnaaGreatDoor
open Go Go.Ae
set_option maxRecDepth 100000
def jI (x lo hi:Int):Int:=lo+(if x.tmod (hi-lo+1)<0 then x.tmod (hi-lo+1)+(hi-lo+1)else x.tmod (hi-lo+1))
theorem Qf (x:Int) {m:Int} (hm:0<m):-m<x.tmod m∧x.tmod m<m:=by refine⟨?_,Int.tmod_lt_of_pos x hm⟩;have:=Int.tmod_lt_of_pos (-x) hm;rw[Int.neg_tmod]at this;omega
theorem zJ (x:Int) {lo hi:Int} (h:lo≤hi):lo≤jI x lo hi∧jI x lo hi≤hi:=by
 have:=Qf x (show 0<hi-lo+1 by omega);unfold jI
 split<;>omega
theorem xQ {n:Nat} (hn:1≤n) {x lo hi:Int} {h:AH} (h1:lo≤hi) (h2:-1000000000≤lo) (h3:hi≤1000000000) :
  t_w n 32 [.int .i64 x,.int .i64 lo,.int .i64 hi] h λv h'=>v=.int .i64 (jI x lo hi)∧h'=h:=by
 refine t_e3 (S:=S32) rfl omQ λk hk=>?_;unfold S32;try simp only[iZ]
 simp only[show((1:Nat):Int)=1 from rfl,show((0:Nat):Int)=0 from rfl];have hb:=Qf x (show 0<hi-lo+1 by omega);unfold jI
 repeat' (first |(first |with_reducible refine qX ?_ |with_reducible refine qJ ?_ |(with_reducible refine qR ?_;try dsimp only) |(with_reducible refine qf ?_;try dsimp only) |(with_reducible refine qT ?_;try dsimp only) |(with_reducible refine qa ?_;try dsimp only) |(with_reducible refine jc ?_;try dsimp only) |with_reducible refine qC ?_ |with_reducible refine qF ?_ |(with_reducible refine qV ?_;try dsimp only) |with_reducible refine qx ?_ |with_reducible refine qu ?_ |with_reducible refine jQ ?_ |with_reducible refine qU omQ ?_ |with_reducible refine jM omQ ?_ |with_reducible refine xJ omQ ?_ |with_reducible refine xS omQ ?_ |with_reducible refine jm ?_ |with_reducible refine zK ?_) |with_reducible refine kM omQ ?_ |(first |with_reducible refine jt (λhc=>?_) (λhc=>?_) |with_reducible refine gd (λhc=>?_) (λhc=>?_) |with_reducible refine yd (λhc=>?_) (λhc=>?_) |with_reducible refine xT (λhc=>?_) (λhc=>?_) |with_reducible refine vq (λhc=>?_) (λhc=>?_) |with_reducible refine xA (λhc=>?_) (λhc=>?_) |with_reducible refine vP (λhc=>?_) (λhc=>?_)))
 all_goals refine qY ⟨?_,rfl⟩
 all_goals congr 1
 all_goals (first |rw[iJ omQ] |rw[iQ omQ])
 all_goals omega
end Go.Proofs.YtnalffoigcmnnaaGreatDoor
namespace Go.Proofs.YtnalffoigcmnnaaGreatDoor
open Go Go.Ae
set_option maxRecDepth 100000
theorem qWp {D1 D2:Nat→Prop} {n p q:Nat} (hn:1≤n) {a b:AV} {xs ys:List Int} {h:AH} (S1:Sl D1 h 1 p a (xs.map (.int .i64))) (S2:Sl D2 h 1 q b (ys.map (.int .i64))) (hp:p<1000000000) :
  t_w n 21 [a,b] h λv h'=>v=.bool (decide (xs=ys))∧h'=h:=by
 have hxl:xs.length=p:=by simpa using S1.len
 have hyl:ys.length=q:=by simpa using S2.len
 refine t_e2 (S:=S21) rfl omQ λk hk=>?_;unfold S21;try simp only[iZ]
 refine zD S1 (zD S2 (xA (λhne=>?_) λheq=>?_))
 ·refine qX (qY ⟨?_,rfl⟩);rw[iV];rintro rfl;exact hne omQ
 ·refine qJ (jP (λm s g=>∃i:Nat,s=(.int .i64 (i:Int),b,a,())∧i≤p∧m=p-i∧g=h∧xs.take i=ys.take i) ?_ (m:=p) (by show p<1000000000;omega) ⟨0,rfl,by omega,by omega,rfl,rfl⟩);rintro m ih s g hih ⟨i,rfl,h1,rfl,rfl,h2⟩;dsimp only;refine zD S1 (jt (λhlt=>qX ?_) λhge=>qJ (qx (qY ⟨?_,rfl⟩)))
  ·have hi:i<p:=by omega
   refine jA S1 (x:=.int .i64 xs[i]) (by rw[List.getElem?_map,iW omQ];rfl) ?_;refine jA S2 (x:=.int .i64 ys[i]) (by rw[List.getElem?_map,iW omQ];rfl) ?_;refine xA (λhne=>qX (qx (qY ⟨?_,rfl⟩))) λhe=>qJ (qU omQ ?_)
   ·rw[iV];rintro rfl;exact hne rfl
   ·refine hih (p-(i+1)) _ _ omQ ⟨i+1,rfl,by omega,rfl,rfl,?_⟩;rw[List.take_succ_eq_append_getElem omQ,List.take_succ_eq_append_getElem omQ,h2,he]
  ·rw[iG];rw[List.take_of_length_le omQ,List.take_of_length_le omQ]at h2;exact h2
end Go.Proofs.YtnalffoigcmnnaaGreatDoor
namespace Go.Proofs.YtnalffoigcmnnaaGreatDoor
open Go Go.Ae
set_option maxRecDepth 100000
theorem qVf {D1 D2:Nat→Prop} {n p q:Nat} (hn:1≤n) {a b:AV} {xs ys:List Int} {h:AH} (S1:Sl D1 h 1 p a (xs.map (.int .u64))) (S2:Sl D2 h 1 q b (ys.map (.int .u64))) (hp:p<1000000000) :
  t_w n 23 [a,b] h λv h'=>v=.bool (decide (xs=ys))∧h'=h:=by
 have hxl:xs.length=p:=by simpa using S1.len
 have hyl:ys.length=q:=by simpa using S2.len
 refine t_e2 (S:=S23) rfl omQ λk hk=>?_;unfold S23;try simp only[iZ]
 refine zD S1 (zD S2 (xA (λhne=>?_) λheq=>?_))
 ·refine qX (qY ⟨?_,rfl⟩);rw[iV];rintro rfl;exact hne omQ
 ·refine qJ (jP (λm s g=>∃i:Nat,s=(.int .i64 (i:Int),b,a,())∧i≤p∧m=p-i∧g=h∧xs.take i=ys.take i) ?_ (m:=p) (by show p<1000000000;omega) ⟨0,rfl,by omega,by omega,rfl,rfl⟩);rintro m ih s g hih ⟨i,rfl,h1,rfl,rfl,h2⟩;dsimp only;refine zD S1 (jt (λhlt=>qX ?_) λhge=>qJ (qx (qY ⟨?_,rfl⟩)))
  ·have hi:i<p:=by omega
   refine jA S1 (x:=.int .u64 xs[i]) (by rw[List.getElem?_map,iW omQ];rfl) ?_;refine jA S2 (x:=.int .u64 ys[i]) (by rw[List.getElem?_map,iW omQ];rfl) ?_;refine xA (λhne=>qX (qx (qY ⟨?_,rfl⟩))) λhe=>qJ (qU omQ ?_)
   ·rw[iV];rintro rfl;exact hne rfl
   ·refine hih (p-(i+1)) _ _ omQ ⟨i+1,rfl,by omega,rfl,rfl,?_⟩;rw[List.take_succ_eq_append_getElem omQ,List.take_succ_eq_append_getElem omQ,h2,he]
  ·rw[iG];rw[List.take_of_length_le omQ,List.take_of_length_le omQ]at h2;exact h2
end Go.Proofs.YtnalffoigcmnnaaGreatDoor
namespace Go.Proofs.YtnalffoigcmnnaaGreatDoor
open Go Go.Ae
set_option maxRecDepth 100000
theorem Vh {l:List ES} {a b:List AV} {K:AV→Go.Ae.R} {Q:AV→AH→Prop} {neg:Bool} {p:Prop} [Decidable p] (e:ze l a b=some (decide p)) (h1:p→wp (K (.bool (!neg))) Q) (h2:¬p→wp (K (.bool neg)) Q):wp (J6 l neg (.agg a) (.agg b) K) Q:=by
 unfold J6;simp only[e,ob];by_cases h:p
 ·have:=h1 h;simpa[h]using this
 ·have:=h2 h;simpa[h]using this
theorem qYt (x y:Cl):ze [.bas .int 0,.bas .int 1] (jU x) (jU y)=some (decide (x=y)):=by obtain⟨a,b⟩:=x;obtain⟨a',b'⟩:=y;show(bif ieq a a' then(bif ieq b b' then some true else some false)else some false)=_;rw[kB,kB];by_cases h1:a=a'<;>by_cases h2:b=b'<;>simp[h1,h2]
theorem qKP {D1 D2:Nat→Prop} {n p q:Nat} (hn:1≤n) {a b:AV} {xs ys:List Cl} {h:AH} (S1:Sl D1 h 2 p a (xs.flatMap jU)) (S2:Sl D2 h 2 q b (ys.flatMap jU)) (hp:p<100000000) :
  t_w n 19 [a,b] h λv h'=>v=.bool (decide (xs=ys))∧h'=h:=by
 have hxl:xs.length=p:=by have:=S1.len;rw[wo (sz:=2) jU (λ_=>rfl)]at this;omega
 have hyl:ys.length=q:=by have:=S2.len;rw[wo (sz:=2) jU (λ_=>rfl)]at this;omega
 (refine qy (g:=W19) rfl omQ λk hk=>?_;show wp (S19 (callT tab qj k) _ _ _) _;unfold S19;try simp only[iI,uU,iZ])
 refine zD S1 (zD S2 (xA (λhne=>?_) λheq=>?_))
 ·refine qX (qY ⟨?_,rfl⟩);rw[iV];rintro rfl;exact hne omQ
 ·refine qJ (jP (λm s g=>∃i:Nat,s=(.int .i64 (i:Int),b,a,())∧i≤p∧m=p-i∧g=h∧xs.take i=ys.take i) ?_ (m:=p) (by show p<1000000000;omega) ⟨0,rfl,by omega,by omega,rfl,rfl⟩);rintro m ih s g hih ⟨i,rfl,h1,rfl,rfl,h2⟩;dsimp only;refine zD S1 (jt (λhlt=>qX ?_) λhge=>qJ (qx (qY ⟨?_,rfl⟩)))
  ·have hi:i<p:=by omega
   refine zf (l:=jU xs[i]) S1 hi omQ ?_ ?_
   ·rw[gk (sz:=2) jU (λ_=>rfl),List.drop_eq_getElem_cons omQ,List.flatMap_cons];rfl
   refine zf (l:=jU ys[i]) S2 omQ omQ ?_ ?_
   ·rw[gk (sz:=2) jU (λ_=>rfl),List.drop_eq_getElem_cons omQ,List.flatMap_cons];rfl
   refine Vh (qYt _ _) (λhe=>qJ (qU omQ ?_)) (λhne=>qX (qx (qY ⟨?_,rfl⟩)))
   ·refine hih (p-(i+1)) _ _ omQ ⟨i+1,rfl,by omega,rfl,rfl,?_⟩;rw[List.take_succ_eq_append_getElem omQ,List.take_succ_eq_append_getElem omQ,h2,he]
   ·rw[iV];rintro rfl;exact hne rfl
  ·rw[iG];rw[List.take_of_length_le omQ,List.take_of_length_le omQ]at h2;exact h2
end Go.Proofs.YtnalffoigcmnnaaGreatDoor
namespace Go.Proofs.YtnalffoigcmnnaaGreatDoor
open Go Go.Ae
set_option maxRecDepth 100000
variable {g h:AH} {L R:List SP}
def AskP (M M':VM):Prop:=M'.sz=M.sz∧M'.K=M.K∧M'.most=M.most∧(M'.need=M.need∨M'.lv=M.lv∧1≤M'.need∧M'.need<M.sz∧j0 M'.need M.K=none)
theorem AskP.refl (M:VM):AskP M M:=⟨rfl,rfl,rfl,.inl rfl⟩
theorem Yb {M:VM} {p:Int} (h:(qb M p).1.2=0):(qb M p).2=M:=by
 unfold qb at h ⊢
 split
 ·rename_i h1;rw[iJ h1]at h
  split
  ·rfl
  ·rename_i h2;rw[h2]at h;dsimp only at h ⊢
   split
   ·rfl
   ·rename_i h3;rw[h3]at h;cases h
 ·rfl
theorem K4 (M:VM) (p:Int):AskP M (qb M p).2:=by
 unfold qb
 split
 ·rename_i h1
  split
  ·exact .refl M
  ·split
   ·exact .refl M
   ·rename_i h3;exact⟨rfl,rfl,rfl,.inr ⟨rfl,h1.1,h1.2,h3⟩⟩
 ·exact .refl M
theorem qqI (M:VM) (b:Int):AskP M (ja M b).2∧((ja M b).1.2.2=0→(ja M b).2=M):=by
 unfold ja
 split
 ·exact⟨.refl M,λ_=>rfl⟩
 ·split
  ·rename_i h1
   split
   ·exact⟨K4 M _,λ_=>Yb h1⟩
   ·exact⟨K4 M _,λ_=>Yb h1⟩
  ·rename_i h1;exact⟨K4 M _,λh=>absurd h h1⟩
theorem frS_put {most:Nat} {lv:List LvM} {p v:Int}:frS (vk most lv p v).2=frS lv:=by
 cases lv with
 |nil=>rfl
 |cons x r=>obtain⟨c,hc⟩:=Y5 (most:=most) (x:=x) (r:=r) (p:=p) (v:=v);rw[hc,kV,kV]
theorem qJS {most:Nat} {was:List LvM}:∀{cs:List Cl} {lv:List LvM},frS lv=frS was→frS (yr most was lv cs).2=frS was:=by
 intro cs
 induction cs with
 |nil=>intro lv h;exact h
 |cons c cs ih=>
  intro lv h;rw[vw]
  split
  ·exact ih (frS_put.trans h)
  ·rfl
theorem gQ {M:VM} {cs:List Cl}:frS (jr M cs).2.lv=frS M.lv:=by
 unfold jr
 split
 ·exact qJS rfl
 ·rfl
theorem xg {M:VM} {p:Int}:frS (qb M p).2.lv=frS M.lv:=by
 unfold qb
 repeat' split
 all_goals rfl
theorem wA {M:VM} {b:Int}:frS (ja M b).2.lv=frS M.lv:=by
 unfold ja
 repeat' split
 all_goals first |rfl |exact xg
theorem qJT {lv:List LvM} {b:Int}:frS (JY lv b)≤frS lv+1:=by
 cases lv with
 |nil=>simp[JY]
 |cons x r=>show frS ((x.1,x.2++[b])::r)≤_;rw[kV,kV,List.length_append];simp;omega
theorem qz5:∀{lv:List LvM} {x:LvM},x∈lv→x.2.length≤frS lv:=by
 intro l
 induction l with
 |nil=>intro x hx;cases hx
 |cons y r ih=>
  intro x hx;rw[kV];rcases List.mem_cons.1 hx with rfl |hx
  ·omega
  ·have:=ih hx;omega
structure jX (M:VM):Prop where
  ok:OkV M
  wd:WdV M
theorem jX.read {M:VM} {p:Int} (G:jX M):jX (qb M p).2:=⟨xw G.ok,G.wd.read2⟩
theorem jX.take {M:VM} {cs:List Cl} (G:jX M) (h:WdC cs):jX (jr M cs).2:=⟨Ni G.ok,G.wd.take h⟩
theorem jX.ask {M:VM} {b:Int} (G:jX M):jX (ja M b).2:=⟨JM G.ok,qzl G.wd⟩
theorem WdC.two {a b:Cl} (ha:0≤a.2∧a.2<18446744073709551616) (hb:0≤b.2∧b.2<18446744073709551616):WdC [a,b]:=by
 intro c hc;rcases List.mem_cons.1 hc with rfl |hc
 ·exact ha
 ·rw[List.mem_singleton]at hc;subst hc;exact hb
theorem WdC.one1 {a:Cl} (ha:0≤a.2∧a.2<18446744073709551616):WdC [a]:=by intro c hc;rw[List.mem_singleton]at hc;subst hc;exact ha
theorem jX.freeV {M:VM} {b:Int} (G:jX M) (hf:frS M.lv<90000):jX (freeV M b):=by
 refine⟨qKA G.ok λx hx=>by have:=qz5 hx;omega,G.wd.k,?_⟩;show∀x∈JY M.lv b,∀c∈x.1,0≤c.2∧c.2<18446744073709551616;have:=G.wd.l;cases hl:M.lv with
 |nil=>intro x hx;cases hx
 |cons y r=>
  rw[hl]at this;intro x hx;rcases List.mem_cons.1 hx with rfl |hx
  ·exact this y (iK ..)
  ·exact this x (iX _ hx)
theorem jX.free {M:VM} {b:Int} (G:jX M) (hf:frS M.lv<90000):jX (yu M b).2∧frS (yu M b).2.lv≤frS M.lv+1:=by
 have hb:=Vr M b;have hc:WdC [(b-1,(ja M b).1.1)]:=.one1 ⟨hb.1,by dsimp only;omega⟩;unfold yu
 repeat' split
 ·refine⟨(G.ask.take hc).freeV (by rw[gQ,wA];exact hf),?_⟩;have:=qJT (lv:=(jr (ja M b).2 [(b-1,(ja M b).1.1)]).2.lv) (b:=b);rw[gQ,wA]at this;exact this
 ·exact⟨G.ask.take hc,by rw[gQ,wA];omega⟩
 ·exact⟨G.ask,by rw[wA];omega⟩
 ·exact⟨G.ask,by rw[wA];omega⟩
theorem jX.give {M:VM} {b:Int} (G:jX M):jX (zv M b).2∧frS (zv M b).2.lv=frS M.lv:=by
 have hb:=Vr M b;have hO:=G.ok.hi;unfold zv
 split
 ·rename_i h1;have hbb:=hb.2.2 h1
  split
  ·exact⟨G.ask,wA⟩
  ·split
   ·refine⟨(G.ask.read).take (.two G.ask.wd.read ⟨by dsimp only;omega,by dsimp only;omega⟩),by rw[gQ,xg,wA]⟩
   ·exact⟨G.ask.read,by rw[xg,wA]⟩
 ·exact⟨G.ask,wA⟩
theorem jX.again {M:VM} {c b:Int} (G:jX M) (hc:0≤c∧c≤4):jX (xH M c b).2∧frS (xH M c b).2.lv=frS M.lv:=by
 have ht:WdC [(c,(qb M b).1.1),(b-1,c+8)]:=.two G.wd.read ⟨by dsimp only;omega,by dsimp only;omega⟩;unfold xH
 repeat' split
 ·exact⟨G,rfl⟩
 ·exact⟨G.read.take ht,by rw[gQ,xg]⟩
 ·exact⟨G.read.take ht,by rw[gQ,xg]⟩
 ·exact⟨G.read,xg⟩
theorem jX.grown {M:VM} {c:Int} (G:jX M) (hc:0≤c∧c≤4):jX (xL M c).2∧frS (xL M c).2.lv=frS M.lv:=by
 have hs:=MJ c;have hw:=G.wd.read (p:=5);unfold xL
 split
 ·split
  ·exact⟨G.read,xg⟩
  ·rename_i h1;have ht:WdC [(5,(qb M 5).1.1+1+yt c),((qb M 5).1.1,c+8)]:=.two ⟨by dsimp only;omega,by dsimp only;omega⟩ ⟨by dsimp only;omega,by dsimp only;omega⟩
   split
   ·exact⟨G.read.take ht,by rw[gQ,xg]⟩
   ·exact⟨G.read.take ht,by rw[gQ,xg]⟩
 ·exact⟨G.read,xg⟩
theorem jX.alloc {M:VM} {x:Int} (G:jX M):jX (zH M x).2∧frS (zH M x).2.lv=frS M.lv:=by
 have hc:=NM x;unfold zH
 repeat' split
 ·exact⟨G,rfl⟩
 ·exact⟨(G.read.grown hc).1,by rw[(G.read.grown hc).2,xg]⟩
 ·exact⟨(G.read.again hc).1,by rw[(G.read.again hc).2,xg]⟩
 ·exact⟨G.read,xg⟩
theorem jX.openG {M:VM} (G:jX M):jX (yg M).2∧frS (yg M).2.lv=frS M.lv:=by
 have e:(w9 M.lv).2=M.lv∨(w9 M.lv).2=([],[])::M.lv:=by unfold w9;split<;>simp
 refine⟨⟨⟨G.ok.lo,G.ok.hi,qVB G.ok.lvs,G.ok.ins,G.ok.un,?_⟩,G.wd.k,?_⟩,?_⟩
 ·show∀x∈(w9 M.lv).2,_;rcases e with e |e
  ·rw[e];exact G.ok.fr
  ·rw[e];intro x hx;rcases List.mem_cons.1 hx with rfl |hx
   ·simp
   ·exact G.ok.fr x hx
 ·show∀x∈(w9 M.lv).2,_;rcases e with e |e
  ·rw[e];exact G.wd.l
  ·rw[e];intro x hx;rcases List.mem_cons.1 hx with rfl |hx
   ·intro c hc;cases hc
   ·exact G.wd.l x hx
 ·show frS (w9 M.lv).2=_;rcases e with e |e
  ·rw[e]
  ·rw[e,kV];simp
theorem jX.dropG {M:VM} (G:jX M):jX (xY M).2∧frS (xY M).2.lv≤frS M.lv:=by
 have e:(kX M.lv).2=M.lv∨(kX M.lv).2=M.lv.tail:=by unfold kX;split<;>simp
 have hs:∀x∈(kX M.lv).2,x∈M.lv:=by
  rcases e with e |e
  ·rw[e];exact λx hx=>hx
  ·rw[e];exact λx hx=>List.mem_of_mem_tail hx
 refine⟨⟨⟨G.ok.lo,G.ok.hi,qVN G.ok.lvs,G.ok.ins,G.ok.un,λx hx=>G.ok.fr x (hs x hx)⟩,G.wd.k,λx hx=>G.wd.l x (hs x hx)⟩,?_⟩;show frS (kX M.lv).2≤_;rcases e with e |e
 ·rw[e];exact Nat.le_refl _
 ·rw[e];cases M.lv with
  |nil=>exact Nat.le_refl _
  |cons x r=>rw[kV];show frS r≤_;omega
theorem jX.keepG {M:VM} (G:jX M) (hf:frS M.lv<90000):jX (yh M).2∧frS (yh M).2.lv=frS M.lv:=by
 have hd:=qWa G.ok.lvs;have hfr:=λx (hx:x∈(kf M.lv).2)=>qz5 hx;obtain⟨sz,K,most,lv,need⟩:=M;rcases lv with _ |⟨x,_ |⟨y,r⟩⟩
 ·exact⟨G,rfl⟩
 ·exact⟨G,rfl⟩
 ·have e:=qYE (x:=x) (y:=y) (r:=r);refine⟨⟨⟨G.ok.lo,G.ok.hi,hd,G.ok.ins,G.ok.un,λz hz=>?_⟩,G.wd.k,λz hz=>?_⟩,e⟩
  ·have:=hfr z hz;rw[e]at this;have hf:frS (x::y::r)<90000:=hf;omega
  ·have hl:=G.wd.l;have hx:WdC x.1:=hl x osQ;have hy:WdC y.1:=hl y osQ;have hz:z∈(yV y.1 x.1,y.2++x.2)::r:=hz;rcases List.mem_cons.1 hz with rfl |hz
   ·exact hy.puts hx
   ·exact hl z (by simp[hz])
end Go.Proofs.YtnalffoigcmnnaaGreatDoor
namespace Go.Proofs.YtnalffoigcmnnaaGreatDoor
open Go Go.Ae
set_option maxRecDepth 100000
variable {g h:AH} {L R:List SP}
abbrev ItT:Type:=Int×Int
def itS (x:ItT):List UInt8:=if x.1=1 then Lib.decDigits x.2.toNat else if x.1=2 then(if x.2=1 then[121,101,115]else[110,111])else[110,111,110,101]
def kC (x:ItT):AV:=if x.1=1 then .iface 24 (.int .u64 x.2)else if x.1=2 then .iface 4 (.bool (decide (x.2=1)))else .iface 301 (.agg [])
def qV7 (x:ItT):Prop:=0≤x.2∧x.2<18446744073709551616
def Nv (l:List ItT):List UInt8:=Lib.join (l.map itS) [32]
theorem Jc (x:ItT):One (kC x):=by unfold kC;(repeat' split)<;>exact⟨rfl,rfl⟩
theorem KQ (l:List ItT):ql (l.map kC)=true:=by unfold ql;rw[List.all_eq_true];intro v hv;obtain⟨x,_,rfl⟩:=List.mem_map.1 hv;exact(Jc x).2
theorem VU {s:List UInt8} {k1 k2:IntKind} {lo hi:Nat} {K:AV→Go.Ae.R} {Q:AV→AH→Prop} (h1:lo≤hi) (h2:hi≤s.length) (w:wp (K (.str ((s.drop lo).take (hi-lo)))) Q):wp (vY (.str s) (some (.int k1 (lo:Int))) (some (.int k2 (hi:Int))) K) Q:=by unfold vY;simp only[xk h2,xk h1,ob,gt];rw[vp (by rw[List.length_drop];omega)];exact w
theorem qKa {n:Nat} (hn:1≤n) {i:Nat} (hi:i<100):t_w n 235 [.int .i64 (i:Int)] h λr h'=>r=.str (Lib.decDigits i)∧h'=h:=by
 (refine qy (g:=W235) rfl omQ λk hk=>?_;show wp (S235 (callT tab qj k) _ _) _;unfold S235;try simp only[iI,uU,iZ])
 by_cases h1:i<10
 ·refine zq omQ (qX ?_);refine qU omQ ?_;rw[show(i:Int)+((1:Nat):Int)=((i+1:Nat):Int) by omega];refine VU omQ (by show i+1≤36;omega) (qY ⟨?_,rfl⟩);rw[← Lib.digits36_piece h1]
  congr 2
 ·refine jo omQ (qJ ?_);refine MM omQ (MM omQ (qU omQ ?_));rw[show(i:Int)*((2:Nat):Int)+((2:Nat):Int)=((i*2+2:Nat):Int) by omega,show(i:Int)*((2:Nat):Int)=((i*2:Nat):Int) by omega];refine VU omQ (by show i*2+2≤200;omega) (qY ⟨?_,rfl⟩);rw[← Lib.smalls_piece h1 hi]
  congr 2
theorem nd_ok {n:Nat} (hn:1≤n) {u:Nat} (h1:1≤u) (h2:u<18446744073709551616):t_w n 236 [.int .u64 (u:Int)] h λr h'=>r=.int .i64 (Lib.nDigits u:Int)∧h'=h:=by refine qy (g:=W236) rfl omQ λk hk=>?_;show wp (xNd _ [.int .u64 (.ofNat u)] h) _;unfold xNd;dsimp only;rw[iY h1,iY (show u+1≤18446744073709551616 by omega)];exact⟨_,_,rfl,rfl,rfl⟩
theorem qKo:∀(bs:List UInt8),qJp (bs.map λc=>.int .u8 (.ofNat c.toNat))=some bs:=by
 intro bs
 induction bs with
 |nil=>rfl
 |cons b bs ih=>rw[List.map_cons];unfold qJp;rw[ih,iY (show b.toNat+1≤256 from b.toNat_lt)];simp
theorem fb_ok {n:Nat} (hn:1≤n) {b u nd:Nat} {bs:List UInt8} {ys:List AV} (H:HS g h (qk b ((bs.map λc=>.int .u8 (.ofNat c.toNat))++ys)::R)) (hb:bs.length=nd) (h1:u<10 ^ nd) (h2:u<18446744073709551616) (h3:nd≤100) (hys:ql ys=true) :
  t_w n 237 [.slice b 0 nd 24 false,.int .u64 (u:Int)] h λr h'=>HS g h' (qk b (dgs nd u++ys)::R):=by
 refine qy (g:=W237) rfl omQ λk hk=>?_;show wp (xFb _ [.slice b 0 nd 24 false,.int .u64 (.ofNat u)] h) _;obtain⟨D,⟨hD,e,A⟩,hb2,kk⟩:=H.act;obtain⟨c,c1,c2,c3⟩:=A.blk;unfold xFb;simp only[c1,c2];rw[List.take_append_of_le_length (by simp;omega),List.take_of_length_le (by simp;omega),qKo];simp only[];rw[show Nat.beq bs.length nd=true from by rw[hb];exact Nat.beq_refl _,iY (show u+1≤10 ^ nd by omega),iY (show u+1≤18446744073709551616 by omega),iY h3];simp only[Bool.and_self,cond_true];rw[List.drop_append_of_le_length (by simp;omega),List.drop_of_length_le (by simp;omega),List.nil_append];refine⟨_,_,rfl,kk _ (qk b (dgs nd u++ys)) D ⟨by simp,λa ha hn=>AH.get_put_ne h _ λe=>hn ((hD a).2 e.symm)⟩ ⟨hD,e,by simpa using A.lt,CT.ofList _,AH.get_put_same ..,CT.ofList_ok _,CT.full_ofList _⟩ λa ha=>⟨.inl ha,by simpa using(hb2 a ha).2⟩⟩
theorem O5:∀(xs:List (List UInt8)),Yt (xs.map .str)=some xs:=by
 intro xs
 induction xs with
 |nil=>rfl
 |cons x xs ih=>rw[List.map_cons];unfold Yt;rw[ih];rfl
theorem qzS {n:Nat} (hn:1≤n) {b m:Nat} {e:TypeId} {xs:List (List UInt8)} {sep:List UInt8} (H:HS g h (Cell b (xs.map .str) e false::R)) (hm:xs.length=m) (h1:m≤1000000) (h2:(Lib.join xs sep).length≤1000000) :
  t_w n 85 [.slice b 0 m m false,.str sep] h λr h'=>r=.str (Lib.join xs sep)∧h'=h:=by
 refine qy (g:=W85) rfl omQ λk hk=>?_;show wp (OV _ [.slice b 0 m m false,.str sep] h) _;obtain⟨D,hD,A⟩:=H.p .here;obtain⟨c,c1,c2,c3⟩:=A.blk;unfold OV;simp only[c1,c2,List.drop_zero];rw[List.take_of_length_le (by simp;omega),O5];simp only[];rw[show Nat.beq xs.length m=true from by rw[hm];exact Nat.beq_refl _,iY (Nat.le_refl m),iY h1,iY h2];exact⟨_,_,rfl,rfl,rfl⟩
theorem qZ1 (nd u:Nat):kI (dgs nd u)=some ((List.range nd).map λt=>Lib.dg u (nd-1-t)):=by
 unfold dgs;have key:∀l:List Nat,kI (l.map λt=>AV.int .u8 (.ofNat (Lib.dg u (nd-1-t)).toNat))=some (l.map λt=>Lib.dg u (nd-1-t)):=by
  intro l
  induction l with
  |nil=>rfl
  |cons a l ih=>rw[List.map_cons];unfold kI;rw[ih];simp
 exact key _
theorem qXM {n:Nat} (hn:2≤n) {u:Nat} (h2:u<18446744073709551616) (H:HS g h R):t_w n 169 [.int .u64 (u:Int),.int .i64 10] h λr h'=>r=.str (Lib.decDigits u)∧HS g h' R:=by
 refine t_e2 (S:=S169) rfl omQ λk hk=>?_;unfold S169;try simp only[iZ]
 refine qz rfl (qX ?_);by_cases h1:u<100
 ·refine zq omQ (qX ?_);refine z7 omQ ?_;refine qW (qKa omQ h1) ?_;rintro _ _ ⟨rfl,rfl⟩;exact qY ⟨rfl,H⟩
 ·refine jo omQ (qJ ?_);refine qM H rfl λb h3 H3=>?_;have hnd:=Lib.nDigits_le20 u h2;have hpos:=Lib.nDigits_pos u;have hlt:=Lib.lt_pow_nDigits u;have hdec:=Lib.decDigits_eq u;refine qW (nd_ok omQ omQ h2) ?_;generalize Lib.nDigits u=nd at*;have H4:HS g h3 (qk b (((List.replicate nd (0:UInt8)).map λc=>.int .u8 (.ofNat c.toNat))++List.replicate (24-nd) (.int .u8 (.ofNat 0)))::R):=by
   have e:(List.replicate nd (0:UInt8)).map (λc=>AV.int .u8 (.ofNat c.toNat))++List.replicate (24-nd) (AV.int .u8 (.ofNat 0))=List.replicate 24 (AV.int .u8 (.ofNat 0)):=by rw[List.map_replicate];show List.replicate nd (AV.int .u8 (.ofNat 0))++_=_;rw[List.replicate_append_replicate,show nd+(24-nd)=24 by omega]
   rw[e];exact H3
  rintro _ _ ⟨rfl,rfl⟩;have hcut:∀(K:AV→Go.Ae.R) (Q:AV→AH→Prop),wp (K (.slice b 0 nd 24 false)) Q→wp (vG 24 1 (.ptr b 0) none (some (.int .i64 (nd:Int))) K) Q:=by intro K Q w;unfold vG;simp only[xk (show nd≤24 by omega),ob,show x8 none nd 0=some 0 from rfl];exact w
  refine hcut _ _ ?_;refine qW (fb_ok omQ H4 osQ hlt h2 omQ (by unfold ql;rw[List.all_eq_true];intro y hy;rw[List.eq_of_mem_replicate hy];rfl)) ?_;intro _ h5 H5;refine hcut _ _ ?_;obtain⟨e,A⟩:=H5.obj .here;unfold G7;dsimp only;rw[Ux A (by simp[QH]),List.drop_zero,List.take_append_of_le_length (by rw[QH];exact Nat.le_refl _),List.take_of_length_le (by rw[QH];exact Nat.le_refl _)];simp only[ob,qZ1];exact qY ⟨by rw[hdec],H5.drop⟩
theorem Zg {n:Nat} (hn:3≤n) {u:Int} (h0:0≤u) (h2:u<18446744073709551616) (H:HS g h R):t_w n 117 [.int .u64 u,.int .i64 10] h λr h'=>r=.str (Lib.decDigits u.toNat)∧HS g h' R:=by
 refine t_e2 (S:=S117) rfl omQ λk hk=>?_;unfold S117;try simp only[iZ]
 obtain⟨m,rfl⟩:∃m:Nat,u=m:=⟨u.toNat,by omega⟩;refine qW (qXM omQ (u:=m) omQ H) ?_;rintro _ h3 ⟨rfl,H3⟩;exact qY ⟨rfl,H3⟩
theorem qQa {t:TypeId} {z x:AV} {K:AV→Go.Ae.R} {Q:AV→AH→Prop} (w:wp (K (.tup [x,.bool true])) Q):wp (xz t z (.iface t x) K) Q:=by show wp (bif Nat.beq t t then _ else _) Q;rw[Nat.beq_refl];exact w
theorem Mc {t u:TypeId} {z x:AV} {K:AV→Go.Ae.R} {Q:AV→AH→Prop} (h:Nat.beq u t=false) (w:wp (K (.tup [z,.bool false])) Q):wp (xz t z (.iface u x) K) Q:=by show wp (bif Nat.beq u t then _ else _) Q;rw[h];exact w
theorem qq2 {n:Nat} (hn:4≤n) {x:ItT} (hx:qV7 x) (H:HS g h R):t_w n 84 [kC x] h λr h'=>r=.str (itS x)∧HS g h' R:=by
 (refine qy (g:=W84) rfl omQ λk hk=>?_;show wp (S84 (callT tab qj k) _ _) _;unfold S84;try simp only[iI,uU,iZ])
 unfold kC itS;by_cases h1:x.1=1
 ·rw[iJ h1,iJ h1];refine qQa (qw rfl (qw rfl (qX ?_)));refine qW (Zg omQ hx.1 hx.2 H) ?_;rintro _ h3 ⟨rfl,H3⟩;exact qY ⟨rfl,H3⟩
 ·rw[iQ h1,iQ h1];by_cases h2:x.1=2
  ·rw[iJ h2,iJ h2];refine Mc rfl ?_;refine qw rfl (qw rfl (qJ ?_));refine qQa (qw rfl (qw rfl (qX ?_)));by_cases h3:x.2=1
   ·rw[iG h3,iJ h3];exact qX (qY ⟨rfl,H⟩)
   ·rw[iV h3,iQ h3];exact qJ (qY ⟨rfl,H⟩)
  ·rw[iQ h2,iQ h2];refine Mc rfl ?_;refine qw rfl (qw rfl (qJ ?_));refine Mc rfl ?_;exact qw rfl (qw rfl (qJ (qY ⟨rfl,H⟩)))
theorem qzo (x:ItT) (hx:qV7 x):(itS x).length≤20:=by
 unfold itS;have h1:=hx.1;have h2:=hx.2
 split
 ·rw[Lib.decDigits_length];exact Lib.nDigits_le20 _ omQ
 ·split
  ·split<;>decide
  ·decide
theorem qKN {m:Nat}:∀(xs:List (List UInt8)),(∀x∈xs,x.length≤m)→(Lib.join xs [32]).length≤xs.length*(m+1):=by
 intro xs hx;cases xs with
 |nil=>simp[Lib.join_nil]
 |cons x r=>
  rw[Lib.join_cons,List.length_append];have h1:=hx x (iK ..);have h2:∀r:List (List UInt8),(∀x∈r,x.length≤m)→(Lib.joinTail [32] r).length≤r.length*(m+1):=by
   intro r
   induction r with
   |nil=>intro _;simp[Lib.joinTail]
   |cons y r ih=>intro h;have a:=h y (iK ..);have b:=ih λz hz=>h z (iX _ hz);unfold Lib.joinTail at*;simp only[List.map_cons,List.flatten_cons,List.length_append,List.length_cons,List.length_nil,Nat.add_mul];omega
  have h3:=h2 r λz hz=>hx z (iX _ hz);rw[List.length_cons,Nat.add_mul];omega
theorem qzR {l:List ItT} (hl:l.length≤1000) (hi:∀x∈l,qV7 x):(Nv l).length≤1000000:=by unfold Nv;have:=qKN (m:=20) (l.map itS) (λy hy=>by obtain⟨x,hx,rfl⟩:=List.mem_map.1 hy;exact qzo x (hi x hx));rw[List.length_map]at this;omega
theorem qYS {e:TypeId} {z:AV} {n:Nat} {k1 k2:IntKind} {K2:AV→AH→Go.Ae.R} {Q:AV→AH→Prop} (H:HS g h L) (h2:n≤1073741824)
  (w:∀b h',HS g h' (Cell b (List.replicate n z) e false::L)→wp (K2 (.slice b 0 n n false) h') Q):wp (w7 h e [z] (.int k1 (n:Int)) (.int k2 (n:Int)) K2) Q:=by
 refine GP (Nat.le_refl n) h2 λb h' hb A F=>w b h' (H.add (D':=λa=>a=b) F.none ⟨λa=>Iff.rfl,by rw[YE]at A;exact A⟩ ?_);rintro a rfl;exact⟨hb,A.lt⟩
def SlaC (o:Nat) (l:List ItT):SP:=.ex λsv=>.all [qk o [sv],qD 20 1 l.length sv (l.map kC)]
theorem SlaC.E {o:Nat} {l:List ItT} (H:HS g h (SlaC o l::R)):∃sv,HS g h (qk o [sv]::qD 20 1 l.length sv (l.map kC)::R):=by obtain⟨sv,H⟩:=H.exE;exact⟨sv,H.allE⟩
theorem SlaC.I {o:Nat} {l:List ItT} {sv:AV} (H:HS g h (qk o [sv]::qD 20 1 l.length sv (l.map kC)::R)):HS g h (SlaC o l::R):=HS.exI sv H.allI
theorem qQf {n:Nat} (hn:5≤n) {o:Nat} {l:List ItT} (H:HS g h (SlaC o l::R)) (hl:l.length≤1000) (hi:∀x∈l,qV7 x) :
  t_w n 49 [.ptr o 0] h λr h'=>r=.str (Nv l)∧HS g h' (SlaC o l::R):=by
 (refine qy (g:=W49) rfl omQ λk hk=>?_;show wp (S49 (callT tab qj k) _ _) _;unfold S49;try simp only[iI,uU,iZ])
 obtain⟨sv,H⟩:=SlaC.E H;refine qq (qQ (qG ‹_› .here rfl ?_));refine qs ‹_› e_1 ?_;refine qYS (n:=l.length) H omQ λb h2 H2=>?_;refine qq (qQ (qG ‹_› e_1 rfl ?_));refine qs ‹_› e_2 ?_
 refine jP (λm s h'=>∃i:Nat,s=(.int .i64 (i:Int),.int .i64 (l.length:Int),sv,.slice b 0 l.length l.length false,())∧i≤l.length∧m=l.length-i∧
  HS g h' (Cell b (((l.take i).map λx=>.str (itS x))++List.replicate (l.length-i) (.str [])) 9 false::qk o [sv]::qD 20 1 l.length sv (l.map kC)::R))
  ?_ (m:=l.length) (by show _<1000000000;omega) ⟨0,rfl,by omega,by omega,H2⟩
 clear H H2;rintro m ih s h3 hih ⟨i,rfl,h1,rfl,H⟩;dsimp only;by_cases hlt:i<l.length
 ·refine zq omQ (qX ?_);refine jA (H.sl e_2) (x:=kC l[i]) (by rw[List.getElem?_map,iW hlt];rfl) ?_;refine qW (qq2 omQ (hi _ (List.getElem_mem hlt)) H) ?_;rintro _ h4 ⟨rfl,H4⟩;refine JE (k:=.i64) hlt ?_;refine qGN H4 rfl (by simp;omega) rfl λh5 H5=>?_;refine qU omQ (hih (l.length-(i+1)) _ _ omQ ⟨i+1,rfl,by omega,rfl,?_⟩);have e:gp (((l.take i).map λx=>AV.str (itS x))++List.replicate (l.length-i) (.str [])) (0+i*1) (AV.str (itS l[i])).cells=((l.take (i+1)).map λx=>AV.str (itS x))++List.replicate (l.length-(i+1)) (.str []):=by
   rw[Nat.zero_add,Nat.mul_one];show gp _ i [AV.str (itS l[i])]=_;rw[JC (by simp;omega),List.take_add_one,iW hlt,List.map_append,show l.length-i=(l.length-(i+1))+1 by omega,List.replicate_succ,List.set_append_right _ _ (by simp;omega)];have hz:i-((l.take i).map λx=>AV.str (itS x)).length=0:=by simp;omega
   rw[hz,List.set_cons_zero,List.append_assoc];rfl
  rw[e]at H5;exact H5
 ·obtain rfl:i=l.length:=by omega
  refine jo omQ (qJ ?_);rw[Nat.sub_self,List.take_length,List.replicate_zero,List.append_nil]at H;have H2:HS g h3 (Cell b ((l.map itS).map .str) 9 false::qk o [sv]::qD 20 1 l.length sv (l.map kC)::R):=by rw[List.map_map];exact H
  refine qW (qzS omQ H2 osQ omQ (qzR hl hi)) ?_;rintro _ _ ⟨rfl,rfl⟩;exact qx (qY ⟨rfl,SlaC.I H.drop⟩)
end Go.Proofs.YtnalffoigcmnnaaGreatDoor
namespace Go.Proofs.YtnalffoigcmnnaaGreatDoor
open Go Go.Ae
structure PtM where
  op:Int
  pc:Int
  regs:List Int
  told:Nat
structure IM where
  regs:List Int
  out:List ItT
  pc:Int
  opn:List PtM
structure SM where
  e:Int
  nx:Int
  blk:Bool
  s:IM
  v:VM
def setR (s:IM) (i v:Int):IM:={ s with regs:=s.regs.set i.toNat v }
def yK (b off:Int):Int×Int:=if 2147483648≤b∨2147483648≤b+off∨b+off<6 then(0,2)else(b+off,0)
def XL (p:Prop) [Decidable p]:Int:=if p then 1 else 0
def jB (s:IM) (V:VM) (x:qS):Int×IM×VM :=
 if x.1=8 then
  (if(yK (qB s.regs x.2.2.1) x.2.2.2.1).2=0 then
   (if(qb V (yK (qB s.regs x.2.2.1) x.2.2.2.1).1).1.2=0 then(0,setR s x.2.1 (qb V (yK (qB s.regs x.2.2.1) x.2.2.2.1).1).1.1,(qb V (yK (qB s.regs x.2.2.1) x.2.2.2.1).1).2)
    else((qb V (yK (qB s.regs x.2.2.1) x.2.2.2.1).1).1.2,s,(qb V (yK (qB s.regs x.2.2.1) x.2.2.2.1).1).2))
  else(2,s,V))
 else if x.1=9 then
  (if(yK (qB s.regs x.2.1) x.2.2.2.1).2=0 then((jr V [((yK (qB s.regs x.2.1) x.2.2.2.1).1,qB s.regs x.2.2.1)]).1,s,(jr V [((yK (qB s.regs x.2.1) x.2.2.2.1).1,qB s.regs x.2.2.1)]).2)
  else(2,s,V))
 else if x.1=10 then
  (if 2147483648≤qB s.regs x.2.2.1 then(3,s,V)
  else if(zH V (qB s.regs x.2.2.1)).1.2=0 then(0,setR s x.2.1 (zH V (qB s.regs x.2.2.1)).1.1,(zH V (qB s.regs x.2.2.1)).2)
  else((zH V (qB s.regs x.2.2.1)).1.2,s,(zH V (qB s.regs x.2.2.1)).2))
 else
  (if 2147483648≤qB s.regs x.2.1 then(2,s,V)else((yu V (qB s.regs x.2.1)).1,s,(yu V (qB s.regs x.2.1)).2))
def j4 (op at_ nx:Int) (s:IM) (V:VM):SM :=
 if(yg V).1=0 then⟨0,nx,false,{ s with opn:=⟨op,at_,s.regs,s.out.length⟩::s.opn },(yg V).2⟩else⟨(yg V).1,nx,false,s,(yg V).2⟩
def kz (s:IM) (p:PtM):IM:={ s with regs:=p.regs,out:=s.out.take p.told }
def yx (mt:List Int):List PtM→IM→VM→SM
 |[],s,V=>⟨0,s.pc,true,{ s with opn:=[] },V⟩
 |p::o,s,V=>
  if(xY V).1=0 then
   (if p.op=17 then j4 18 (qB mt p.pc) (qB mt p.pc+1) { kz s p with opn:=o } (xY V).2
   else yx mt o s (xY V).2)
  else⟨(xY V).1,s.pc+1,false,{ s with opn:=o },(xY V).2⟩
def Kk (o:List PtM):PtM:=(o.head?).getD ⟨0,0,[0,0,0,0,0,0,0,0],0⟩
def gV (mt:List Int) (s:IM) (V:VM) (op:Int):SM :=
 if op=14∨op=17 then j4 op s.pc (s.pc+1) s V
 else if op=15∨op=19 then⟨(yh V).1,s.pc+1,false,{ s with opn:=s.opn.tail },(yh V).2⟩
 else if op=18 then⟨(yh V).1,qB mt s.pc+1,false,{ s with opn:=s.opn.tail },(yh V).2⟩
 else if op=16 then⟨(xY V).1,qB mt s.pc+1,false,{ kz s (Kk s.opn)with opn:=s.opn.tail },(xY V).2⟩
 else yx mt s.opn s V
def doM (mt:List Int) (s:IM) (V:VM) (x:qS):SM :=
 if x.1=1 then⟨0,s.pc+1,false,setR s x.2.1 x.2.2.2.2,V⟩
 else if x.1=2 then⟨0,s.pc+1,false,setR s x.2.1 (qB s.regs x.2.2.1),V⟩
 else if x.1=3 then⟨0,s.pc+1,false,setR s x.2.1 (j6 .u64 (qB s.regs x.2.2.1+qB s.regs x.2.2.2.1)),V⟩
 else if x.1=4 then⟨0,s.pc+1,false,setR s x.2.1 (j6 .u64 (qB s.regs x.2.2.1-qB s.regs x.2.2.2.1)),V⟩
 else if x.1=5 then⟨0,s.pc+1,false,setR s x.2.1 (j6 .u64 (qB s.regs x.2.2.1*qB s.regs x.2.2.2.1)),V⟩
 else if x.1=6 then⟨0,s.pc+1,false,setR s x.2.1 (XL (qB s.regs x.2.2.1<qB s.regs x.2.2.2.1)),V⟩
 else if x.1=7 then⟨0,s.pc+1,false,setR s x.2.1 (XL (qB s.regs x.2.2.1=qB s.regs x.2.2.2.1)),V⟩
 else if x.1=12 then⟨0,x.2.2.2.1,false,s,V⟩
 else if x.1=13 then⟨0,if qB s.regs x.2.1=0 then x.2.2.2.1 else s.pc+1,false,s,V⟩
 else if x.1=21 then(if 16≤s.out.length then⟨5,s.pc+1,false,s,V⟩else⟨0,s.pc+1,false,{ s with out:=s.out++[(1,qB s.regs x.2.1)] },V⟩)
 else if x.1=22 then⟨13,s.pc+1,false,s,V⟩
 else if x.1=8∨x.1=9∨x.1=10∨x.1=11 then⟨(jB s V x).1,s.pc+1,false,(jB s V x).2.1,(jB s V x).2.2⟩
 else gV mt s V x.1
structure RM where
  kind:Int
  err:Int
  left:Nat
  s:IM
  v:VM
def jZ (l:List qS) (mt:List Int):Nat→IM→VM→RM
 | 0,s,V=>if s.pc=l.length then⟨2,0,0,s,V⟩else⟨4,6,0,s,V⟩
 |n+1,s,V=>
  if s.pc=l.length then⟨2,0,n+1,s,V⟩
  else if(doM mt s V (qL l s.pc)).e=0 then
   (if(doM mt s V (qL l s.pc)).blk=true then⟨3,0,n,{ (doM mt s V (qL l s.pc)).s with pc:=(doM mt s V (qL l s.pc)).nx },(doM mt s V (qL l s.pc)).v⟩
   else jZ l mt n { (doM mt s V (qL l s.pc)).s with pc:=(doM mt s V (qL l s.pc)).nx } (doM mt s V (qL l s.pc)).v)
  else if(doM mt s V (qL l s.pc)).e=11 then⟨1,0,n+1,(doM mt s V (qL l s.pc)).s,(doM mt s V (qL l s.pc)).v⟩
  else⟨4,(doM mt s V (qL l s.pc)).e,n+1,(doM mt s V (qL l s.pc)).s,(doM mt s V (qL l s.pc)).v⟩
theorem gJ {l:List qS} {mt:List Int} {s:IM} {V:VM}:jZ l mt 0 s V=if s.pc=l.length then⟨2,0,0,s,V⟩else⟨4,6,0,s,V⟩:=rfl
theorem vt {l:List qS} {mt:List Int} {n:Nat} {s:IM} {V:VM}:jZ l mt (n+1) s V=if s.pc=l.length then⟨2,0,n+1,s,V⟩
  else if(doM mt s V (qL l s.pc)).e=0 then
   (if(doM mt s V (qL l s.pc)).blk=true then⟨3,0,n,{ (doM mt s V (qL l s.pc)).s with pc:=(doM mt s V (qL l s.pc)).nx },(doM mt s V (qL l s.pc)).v⟩
   else jZ l mt n { (doM mt s V (qL l s.pc)).s with pc:=(doM mt s V (qL l s.pc)).nx } (doM mt s V (qL l s.pc)).v)
  else if(doM mt s V (qL l s.pc)).e=11 then⟨1,0,n+1,(doM mt s V (qL l s.pc)).s,(doM mt s V (qL l s.pc)).v⟩
  else⟨4,(doM mt s V (qL l s.pc)).e,n+1,(doM mt s V (qL l s.pc)).s,(doM mt s V (qL l s.pc)).v⟩:=rfl
theorem Uj {l:List qS} {mt:List Int} {s:IM} {V:VM} (h0:s.pc=l.length):∀n,jZ l mt n s V=⟨2,0,n,s,V⟩:=by
 intro n;cases n with
 |zero=>rw[gJ,iJ h0]
 |succ n=>rw[vt,iJ h0]
def qg (l:List qS):Nat→List Int
 | 0=>[]
 |i+1=>qt (qg l i) i (qL l i).1
theorem xx {l:List qS} {i:Nat} (h:i<l.length):qL l (i:Int)=l[i]:=by unfold qL;rw[Int.toNat_natCast,iW h];rfl
theorem jJ {l:List qS} {i:Nat}:qg l (i+1)=qt (qg l i) i (qL l i).1:=rfl
theorem qVF {l:List qS}:∀(d i:Nat) {st':List Int},i+d=l.length→goM l (l.drop i) i (qg l i)=.inr st'→(∀j,i≤j→j<l.length→zk l (qg l j) (qL l j)=0)∧qg l l.length=st':=by
 intro d
 induction d with
 |zero=>
  intro i st' hi h;obtain rfl:i=l.length:=by omega
  rw[List.drop_length]at h;cases h;exact⟨λj h1 h2=>by omega,rfl⟩
 |succ d ih=>
  intro i st' hi h;have hlt:i<l.length:=by omega
  rw[Yz hlt]at h
  split at h
  ·rename_i hw;obtain⟨a,b⟩:=ih (i+1) (st':=st') omQ (by rw[jJ,xx hlt];exact h);refine⟨λj h1 h2=>?_,b⟩;by_cases hj:j=i
   ·subst hj;rw[xx hlt];exact hw
   ·exact a j omQ h2
  ·cases h
theorem Vc {l:List qS}:∀(d i:Nat),i+d=l.length→∀k,i+k<l.length→(yn (l.drop i) i (qg l i))[k]? =some (qm (qg l (i+k))):=by
 intro d
 induction d with
 |zero=>intro i hi k hk;omega
 |succ d ih=>
  intro i hi k hk;have hlt:i<l.length:=by omega
  rw[Vz hlt];cases k with
  |zero=>rfl
  |succ k=>rw[List.getElem?_cons_succ];have:=ih (i+1) omQ k omQ;rw[jJ,xx hlt]at this;rw[show i+(k+1)=i+1+k by omega];exact this
structure Fit (l:List qS):Prop where
  pos:0<l.length
  le:l.length≤40
  ok:∀j,j<l.length→zk l (qg l j) (qL l j)=0
  nil:qg l l.length=[]
  reg:∀j,j<l.length→(yn l 0 [])[j]? =some (qm (qg l j))
  jump:∀j,j<l.length→¬JD l (yn l 0 []) j (qL l j)
theorem qXB {l:List qS} {a:List Int}:∀(d i:Nat),i+d=l.length→(Qo l a (l.drop i) i).2=0→∀j,i≤j→j<l.length→¬JD l a j (qL l j):=by
 intro d
 induction d with
 |zero=>intro i hi _ j h1 h2;omega
 |succ d ih=>
  intro i hi h j h1 h2;have hlt:i<l.length:=by omega
  rw[XS hlt]at h
  split at h
  ·cases h
  ·rename_i hn;by_cases hj:j=i
   ·subst hj;rw[xx hlt];exact hn
   ·exact ih (i+1) omQ h j omQ h2
theorem QF {l:List qS} (h:(yQ l).2=0):Fit l:=by
 have hg:=Uk h;obtain⟨a,b⟩:=qVF (l:=l) l.length 0 (st':=[]) omQ hg;unfold yQ at h
 split at h
 ·cases h
 ·rename_i h0;rw[hg]at h;dsimp only at h;rw[iJ rfl]at h
  exact⟨by omega,by omega,λj hj=>a j (Nat.zero_le _) hj,b,λj hj=>by
   have:=Vc (l:=l) l.length 0 omQ j omQ;rw[Nat.zero_add]at this
   exact this,λj hj=>qXB l.length 0 omQ h j (Nat.zero_le _) hj⟩
def Rises (i:Nat) (st:List Int):Prop:=StOk i st∧st.Pairwise (· < ·)
theorem GG {l:List qS}:∀i,Rises i (qg l i):=by
 intro i
 induction i with
 |zero=>exact⟨StOk.nil,List.Pairwise.nil⟩
 |succ i ih=>
  refine⟨ih.1.behind,?_⟩;rw[jJ];have hd:(qg l i).dropLast.Pairwise (· < ·):=ih.2.sublist (List.dropLast_sublist _);have hp:∀st:List Int,StOk i st→st.Pairwise (· < ·)→(st++[(i:Int)]).Pairwise (· < ·):=by intro st h1 h2;rw[List.pairwise_append];refine⟨h2,List.pairwise_singleton ..,λa ha b hb=>?_⟩;rw[List.mem_singleton]at hb;subst hb;exact(h1 a ha).2
  unfold qt
  repeat' split
  ·exact hp _ ih.1.dropLast hd
  ·exact hp _ ih.1 ih.2
  ·exact hd
  ·exact ih.2
theorem UI {l:List qS}:∀(i k p:Nat),(qg l i)[k]? =some (p:Int)→qg l (p+1)=(qg l i).take (k+1):=by
 intro i
 induction i with
 |zero=>intro k p h;simp[qg]at h
 |succ i ih=>
  intro k p h;have key:∀st:List Int,(∀k p:Nat,st[k]? =some (p:Int)→qg l (p+1)=st.take (k+1))→qg l (i+1)=st++[(i:Int)]→qg l (p+1)=(qg l (i+1)).take (k+1):=by
   intro st hst he;rw[he]at h ⊢;by_cases hk:k<st.length
   ·rw[List.getElem?_append_left hk]at h;rw[hst k p h,List.take_append_of_le_length omQ]
   ·have hk2:k=st.length:=by
     have:=(List.getElem?_eq_some_iff.1 h).1;simp at this;omega
    subst hk2;rw[List.getElem?_append_right (Nat.le_refl _),Nat.sub_self]at h;simp at h;have:p=i:=by omega
    subst this;rw[he,List.take_of_length_le osQ]
  have hdrop:∀k p:Nat,(qg l i).dropLast[k]? =some (p:Int)→qg l (p+1)=(qg l i).dropLast.take (k+1):=by
   intro k p h;have hk:=(List.getElem?_eq_some_iff.1 h).1;have hk2:k+1≤(qg l i).length-1:=by have:=hk;simp at this;omega
   have h2:(qg l i)[k]? =some (p:Int):=by
    rw[List.getElem?_dropLast]at h
    split at h
    ·exact h
    ·cases h
   rw[ih k p h2,List.dropLast_eq_take,List.take_take,Nat.min_eq_left hk2]
  by_cases hb:zR (qL l i).1=true∨(qL l i).1=18
  ·by_cases he:0<jO (qL l i).1
   ·exact key _ hdrop (by rw[jJ];unfold qt;rw[iJ hb,iJ he])
   ·exact key _ ih (by rw[jJ];unfold qt;rw[iJ hb,iQ he])
  ·by_cases he:0<jO (qL l i).1
   ·have e:qg l (i+1)=(qg l i).dropLast:=by rw[jJ];unfold qt;rw[iQ hb,iJ he]
    rw[e]at h ⊢;exact hdrop k p h
   ·have e:qg l (i+1)=qg l i:=by rw[jJ];unfold qt;rw[iQ hb,iQ he]
    rw[e]at h ⊢;exact ih k p h
theorem yP {l:List qS} {i:Nat} (h:qg l i≠[]):∃p:Nat,qm (qg l i)=p∧p<i∧(qg l i)[(qg l i).length-1]? =some (p:Int)∧qg l (p+1)=qg l i:=by
 have hb:=(GG (l:=l) i).1.inmost h;obtain⟨p,hp⟩:∃p:Nat,qm (qg l i)=p:=⟨(qm (qg l i)).toNat,by omega⟩;have hl:0<(qg l i).length:=List.length_pos_iff.2 h;have hk:(qg l i)[(qg l i).length-1]? =some (p:Int):=by rw[← hp];unfold qm;rw[← List.getLast?_eq_getElem?,List.getLast?_eq_some_getLast h];rfl
 refine⟨p,hp,by omega,hk,?_⟩;rw[UI i _ p hk,List.take_of_length_le omQ]
theorem qGt {l:List qS} {i j:Nat} (h:qm (qg l i)=qm (qg l j)):qg l i=qg l j:=by
 by_cases hi:qg l i=[]
 ·by_cases hj:qg l j=[]
  ·rw[hi,hj]
  ·obtain⟨p,h1,_⟩:=yP hj;rw[hi,XP,h1]at h;omega
 ·obtain⟨p,h1,_,_,h2⟩:=yP hi;by_cases hj:qg l j=[]
  ·rw[hj,XP,h1]at h;omega
  ·obtain⟨q,h3,_,_,h4⟩:=yP hj;have:p=q:=by omega
   subst this;rw[← h2,← h4]
def mt1 (l:List qS) (A:List Int):Nat→List Int
 | 0=>List.replicate l.length (-1)
 |i+1=>if 0<jO (qL l i).1 then(mt1 l A i).set (qB A i).toNat i else mt1 l A i
def mt2 (l:List qS) (A:List Int):Nat→List Int
 | 0=>mt1 l A l.length
 |i+1=>if(qL l i).1=16 then(mt2 l A i).set i (qB (mt2 l A i) (qB A i))else mt2 l A i
def qA (l:List qS):List Int:=mt2 l (yn l 0 []) l.length
theorem qxA {l:List qS} {A:List Int} {i:Nat}:mt1 l A (i+1)=if 0<jO (qL l i).1 then(mt1 l A i).set (qB A i).toNat i else mt1 l A i:=rfl
theorem qG9 {l:List qS} {A:List Int} {i:Nat}:mt2 l A (i+1)=if(qL l i).1=16 then(mt2 l A i).set i (qB (mt2 l A i) (qB A i))else mt2 l A i:=rfl
theorem MK {l:List qS} {A:List Int}:∀i,(mt1 l A i).length=l.length:=by
 intro i
 induction i with
 |zero=>simp[mt1]
 |succ i ih=>rw[qxA];split<;>simp[ih]
theorem MU {l:List qS} {A:List Int}:∀i,(mt2 l A i).length=l.length:=by
 intro i
 induction i with
 |zero=>exact MK _
 |succ i ih=>rw[qG9];split<;>simp[ih]
theorem qJc (l:List qS):(qA l).length=l.length:=MU _
theorem gw {l:List qS} (F:Fit l) {j:Nat} (h:j<l.length):qB (yn l 0 []) (j:Int)=qm (qg l j):=by unfold qB;rw[Int.toNat_natCast,F.reg j h];rfl
theorem qKD {l:List qS} {p:Nat}:∀(d i:Nat),p<i→(p:Int)∉qg l i→(p:Int)∉qg l (i+d):=by
 intro d
 induction d with
 |zero=>intro i _ h;exact h
 |succ d ih=>
  intro i hp h;have h2:=ih i hp h;rw[show i+(d+1)=i+d+1 by omega,jJ];have hd:(p:Int)∉(qg l (i+d)).dropLast:=λhm=>h2 ((List.dropLast_sublist _).subset hm);unfold qt
  repeat' split
  all_goals first |exact hd |exact h2 |skip
  ·intro hm;rcases List.mem_append.1 hm with hm |hm
   ·exact hd hm
   ·rw[List.mem_singleton]at hm;omega
  ·intro hm;rcases List.mem_append.1 hm with hm |hm
   ·exact h2 hm
   ·rw[List.mem_singleton]at hm;omega
theorem GE {st:List Int} {p:Int} (h:st.Pairwise (· < ·)) (hn:st≠[]) (hp:qm st=p):p∉st.dropLast:=by
 have e:st=st.dropLast++[p]:=by have:=List.dropLast_concat_getLast hn;rw[show st.getLast hn=p by rw[← hp];unfold qm;rw[List.getLast?_eq_some_getLast hn];rfl]at this;exact this.symm
 rw[e,List.pairwise_append]at h;intro hm;have:=h.2.2 p hm p (List.mem_singleton_self _);omega
theorem qVP {l:List qS} {p j:Nat} (he:0<jO (qL l j).1) (hn:qg l j≠[]) (hp:qm (qg l j)=p):(p:Int)∉qg l (j+1):=by
 have h1:=GE (GG (l:=l) j).2 hn hp;have h2:=(GG (l:=l) j).1.inmost hn;rw[jJ];unfold qt;rw[iJ he]
 split
 ·intro hm;rcases List.mem_append.1 hm with hm |hm
  ·exact h1 hm
  ·rw[List.mem_singleton]at hm;omega
 ·exact h1
theorem xf {l:List qS} {st:List Int} {x:qS} (h:zk l st x=0):vJ x=true∧(0<jO x.1→opM l st=jO x.1)∧(x.1=16→opM l st=14)∧(zR x.1=true→st.length<5):=by
 have h0:=zl h;unfold zk at h;rw[iQ (by rw[h0.1];simp)]at h
 split at h
 ·cases h
 ·rename_i h2
  split at h
  ·cases h
  ·rename_i h3;refine⟨h0.1,λhe=>?_,λhe=>?_,h0.2.2⟩
   ·exact Classical.not_not.1 λhh=>h2 ⟨he,hh⟩
   ·exact Classical.not_not.1 λhh=>h3 ⟨he,hh⟩
theorem Kz {l:List qS} {i:Nat} {p:Nat} (hn:qg l i≠[]) (hp:qm (qg l i)=p):opM l (qg l i)=(qL l p).1:=by unfold opM;rw[iQ hn,hp]
theorem Ge {l:List qS} (F:Fit l) {p:Nat} (hp:p<l.length) (ho:(qL l p).1=14∨(qL l p).1=17∨(qL l p).1=18) :
  ∃e:Nat,p<e∧e<l.length∧jO (qL l e).1=(qL l p).1∧qg l e≠[]∧qm (qg l e)=p∧
   ∀j,j<l.length→0<jO (qL l j).1→qm (qg l j)=p→j=e:=by
 have hin:(p:Int)∈qg l (p+1):=by rw[jJ];unfold qt;rw[iJ (by unfold zR;rcases ho with h |h |h<;>rw[h]<;>decide)];exact List.mem_append_right _ (List.mem_singleton_self _)
 have key:∀d i,p<i→i+d=l.length→(p:Int)∈qg l i→∃e,i≤e∧e<l.length∧(p:Int)∈qg l e∧(p:Int)∉qg l (e+1):=by
  intro d
  induction d with
  |zero=>
   intro i _ hi hm;obtain rfl:i=l.length:=by omega
   rw[F.nil]at hm;cases hm
  |succ d ih=>
   intro i hpi hi hm;by_cases h:(p:Int)∈qg l (i+1)
   ·obtain⟨e,h1,h2⟩:=ih (i+1) omQ omQ h;exact⟨e,by omega,h2⟩
   ·exact⟨i,Nat.le_refl _,by omega,hm,h⟩
 obtain⟨e,h1,h2,h3,h4⟩:=key (l.length-(p+1)) (p+1) omQ omQ hin;have hne:qg l e≠[]:=λh=>by rw[h]at h3;cases h3
 have hend:0<jO (qL l e).1:=by
  apply Classical.not_not.1;intro hn;apply h4;rw[jJ];unfold qt;rw[iQ hn]
  split
  ·exact List.mem_append_left _ h3
  ·exact h3
 have hinm:qm (qg l e)=p:=by
  apply Classical.not_not.1;intro hn;apply h4;have hd:(p:Int)∈(qg l e).dropLast:=by
   have hd:=List.dropLast_concat_getLast hne;rw[← hd]at h3;rcases List.mem_append.1 h3 with h |h
   ·exact h
   ·rw[List.mem_singleton]at h;exfalso;apply hn;unfold qm;rw[List.getLast?_eq_some_getLast hne,h];rfl
  rw[jJ];unfold qt;rw[iJ hend]
  split
  ·exact List.mem_append_left _ hd
  ·exact hd
 have hw:=(xf (F.ok e h2)).2.1 hend;rw[Kz hne hinm]at hw;refine⟨e,by omega,h2,hw.symm,hne,hinm,λj hj hje hjp=>?_⟩;have hjn:qg l j≠[]:=(zl (F.ok j hj)).2.1 (.inl hje);have hpj:p<j:=by have:=(GG (l:=l) j).1.inmost hjn;omega
 rcases Nat.lt_trichotomy j e with h |h |h
 ·exfalso;have:=qKD (l:=l) (e-(j+1)) (j+1) omQ (qVP hje hjn hjp);rw[show j+1+(e-(j+1))=e by omega]at this;exact this h3
 ·exact h
 ·exfalso;have h5:=qKD (l:=l) (j-(e+1)) (e+1) omQ h4;rw[show e+1+(j-(e+1))=j by omega]at h5;apply h5;rw[← hjp];unfold qm;rw[List.getLast?_eq_some_getLast hjn];exact List.getLast_mem hjn
theorem qWB {l:List qS} (F:Fit l) {p e:Nat} (hp:p<l.length) (he:e<l.length) (hee:0<jO (qL l e).1) (hi:qm (qg l e)=p)
  (hu:∀j,j<l.length→0<jO (qL l j).1→qm (qg l j)=p→j=e):∀i,e<i→i≤l.length→(mt1 l (yn l 0 []) i)[p]? =some (e:Int):=by
 intro i
 induction i with
 |zero=>intro h;omega
 |succ i ih=>
  intro h1 h2;rw[qxA];by_cases hie:i=e
  ·subst hie;rw[iJ hee,gw F he,hi,Int.toNat_natCast,List.getElem?_set_self (by rw[MK];exact hp)]
  ·split
   ·rename_i hx;rw[gw F omQ,List.getElem?_set_ne]
    ·exact ih omQ omQ
    ·intro hh;have hjn:qg l i≠[]:=(zl (F.ok i omQ)).2.1 (.inl hx);have:=(GG (l:=l) i).1.inmost hjn;exact hie (hu i omQ hx omQ)
   ·exact ih omQ omQ
theorem qYC {l:List qS} (F:Fit l) {p:Nat} (hp:(qL l p).1≠16):∀i,(mt2 l (yn l 0 []) i)[p]? =(mt1 l (yn l 0 []) l.length)[p]?:=by
 intro i
 induction i with
 |zero=>rfl
 |succ i ih=>
  rw[qG9]
  split
  ·rename_i hx;rw[List.getElem?_set_ne,ih];rintro rfl;exact hp hx
  ·exact ih
theorem qKH {l:List qS} (F:Fit l) {u:Nat} (hu:u<l.length) (ho:(qL l u).1=16):∀i,u<i→(mt2 l (yn l 0 []) i)[u]? =some (qB (mt2 l (yn l 0 []) u) (qm (qg l u))):=by
 intro i
 induction i with
 |zero=>intro h;omega
 |succ i ih=>
  intro h;rw[qG9];by_cases hi:i=u
  ·subst hi;rw[iJ ho,List.getElem?_set_self (by rw[MU];exact hu),gw F hu]
  ·split
   ·rw[List.getElem?_set_ne hi];exact ih omQ
   ·exact ih omQ
theorem vH {l:List qS} (F:Fit l) {p:Nat} (hp:p<l.length) (ho:(qL l p).1=14∨(qL l p).1=17∨(qL l p).1=18) :
  ∃e:Nat,qB (qA l) (p:Int)=e∧p<e∧e<l.length∧jO (qL l e).1=(qL l p).1∧qg l e=qg l (p+1):=by
 obtain⟨e,h1,h2,h3,h4,h5,h6⟩:=Ge F hp ho;refine⟨e,?_,h1,h2,h3,?_⟩
 ·unfold qB qA;rw[Int.toNat_natCast,qYC F (by rcases ho with h |h |h<;>rw[h]<;>decide),qWB F hp h2 (by rw[h3];rcases ho with h |h |h<;>rw[h]<;>decide) h5 h6 l.length h2 (Nat.le_refl _)];rfl
 ·obtain⟨q,g1,_,_,g2⟩:=yP h4;have:q=p:=by omega
  subst this;exact g2.symm
theorem w5 {l:List qS} (F:Fit l) {u:Nat} (hu:u<l.length) (ho:(qL l u).1=16) :
  ∃e:Nat,qB (qA l) (u:Int)=e∧e<l.length∧(qL l e).1=15∧qg l e=qg l u∧qg l u≠[]:=by
 have hn:qg l u≠[]:=(zl (F.ok u hu)).2.1 (.inr ho);obtain⟨q,g1,g2,_,g3⟩:=yP hn;have hw:=(xf (F.ok u hu)).2.2.1 ho;rw[Kz hn g1]at hw;obtain⟨e,h1,h2,h3,h4,h5,h6⟩:=Ge F (p:=q) omQ (.inl hw);have e0:qB (mt2 l (yn l 0 []) u) (q:Int)=e:=by unfold qB;rw[Int.toNat_natCast,qYC F (by rw[hw];decide),qWB F omQ h2 (by rw[h3,hw];decide) h5 h6 l.length h2 (Nat.le_refl _)];rfl
 refine⟨e,?_,h2,?_,?_,hn⟩
 ·unfold qA;rw[qB,Int.toNat_natCast,qKH F hu ho l.length hu,g1,e0];rfl
 ·rw[hw]at h3;unfold jO at h3
  repeat' split at h3
  all_goals first |assumption |omega
 ·obtain⟨q2,k1,_,_,k2⟩:=yP h4;have:q2=q:=by omega
  subst this;rw[← k2,g3]
end Go.Proofs.YtnalffoigcmnnaaGreatDoor
namespace Go.Proofs.YtnalffoigcmnnaaGreatDoor
open Go Go.Ae
structure QI (M M':VM):Prop where
  sz:M'.sz=M.sz
  K:M'.K=M.K
  most:M'.most=M.most
  len:M'.lv.length=M.lv.length
def QT (M M':VM):Prop:=M'.lv=M.lv∧1≤M'.need∧M'.need<M.sz∧j0 M'.need M.K=none
theorem QI.refl (M:VM):QI M M:=⟨rfl,rfl,rfl,rfl⟩
theorem QI.trans {M N Q:VM} (a:QI M N) (b:QI N Q):QI M Q:=⟨b.sz.trans a.sz,b.K.trans a.K,b.most.trans a.most,b.len.trans a.len⟩
theorem zn (M:VM) (p:Int):QI M (qb M p).2:=by
 unfold qb
 repeat' split
 all_goals exact⟨rfl,rfl,rfl,rfl⟩
theorem wO {M:VM} {p:Int} (h:(qb M p).1.2=11):QT M (qb M p).2:=by
 unfold qb at h ⊢
 split
 ·rename_i h1;rw[iJ h1]at h
  split
  ·rename_i h2;rw[h2]at h;cases h
  ·rename_i h2;rw[h2]at h;dsimp only at h ⊢
   split
   ·rename_i h3;rw[h3]at h;cases h
   ·rename_i h3;exact⟨rfl,h1.1,h1.2,h3⟩
 ·rename_i h1;rw[iQ h1]at h;cases h
theorem qYo {most:Nat} {lv:List LvM} {p v:Int}:(vk most lv p v).1=0∨(vk most lv p v).1=2∨(vk most lv p v).1=5:=by
 unfold vk
 repeat' split
 all_goals simp
theorem qXH {most:Nat} {was:List LvM}:∀{cs:List Cl} {lv:List LvM},(yr most was lv cs).1=0∨(yr most was lv cs).1=2∨(yr most was lv cs).1=5:=by
 intro cs
 induction cs with
 |nil=>intro lv;exact .inl rfl
 |cons c cs ih=>
  intro lv;rw[vw]
  split
  ·exact ih
  ·exact qYo
theorem qKe {M:VM} {cs:List Cl}:(jr M cs).1=0∨(jr M cs).1=2∨(jr M cs).1=5:=by
 unfold jr
 split
 ·exact qXH
 ·exact .inr (.inl rfl)
theorem Xo {M:VM} {cs:List Cl} (h:(jr M cs).1=11):False:=by have:=qKe (M:=M) (cs:=cs);omega
theorem vI {M:VM} {cs:List Cl} (O:OkV M):QI M (jr M cs).2:=by
 unfold jr
 split
 ·exact⟨rfl,rfl,rfl,(Ob O.lvs O.lvs rfl).2⟩
 ·exact .refl M
theorem Mt (M:VM) (b:Int):QI M (ja M b).2:=by
 unfold ja
 repeat' split
 all_goals first |exact .refl M |exact zn M _
theorem M7 {M:VM} {b:Int} (h:(ja M b).1.2.2=11):QT M (ja M b).2:=by
 unfold ja at h ⊢
 split
 ·rename_i h1;rw[iJ h1]at h;cases h
 ·rename_i h1;rw[iQ h1]at h
  split
  ·rename_i h2;rw[iJ h2]at h
   split
   ·rename_i h3;rw[iJ h3]at h;cases h
   ·rename_i h3;rw[iQ h3]at h;cases h
  ·rename_i h2;rw[iQ h2]at h;exact wO h
theorem freeL_len {lv:List LvM} {b:Int}:(JY lv b).length=lv.length:=by cases lv<;>rfl
theorem qJ1 {M:VM} {b:Int} (O:OkV M):QI M (yu M b).2:=by
 have ha:=Mt M b;unfold yu
 repeat' split
 ·have ht:=ha.trans (vI (cs:=[(b-1,(ja M b).1.1)]) (JM (b:=b) O));exact⟨ht.sz,ht.K,ht.most,freeL_len.trans ht.len⟩
 ·exact ha.trans (vI (JM O))
 ·exact ha
 ·exact ha
theorem qJ7 {M:VM} {b:Int} (h:(yu M b).1=11):QT M (yu M b).2:=by
 unfold yu at h ⊢
 split
 ·rename_i h1;rw[iJ h1]at h
  split
  ·rename_i h2;rw[iJ h2]at h
   split
   ·rename_i h3;rw[iJ h3]at h;cases h
   ·rename_i h3;rw[iQ h3]at h;exact(Xo h).elim
  ·rename_i h2;rw[iQ h2]at h;cases h
 ·rename_i h1;rw[iQ h1]at h;exact M7 h
theorem Ot {M:VM} {c b:Int} (O:OkV M):QI M (xH M c b).2:=by
 unfold xH
 repeat' split
 ·exact .refl M
 ·exact(zn M _).trans (vI (xw O))
 ·exact(zn M _).trans (vI (xw O))
 ·exact zn M _
theorem Zk {M:VM} {c b:Int} (h:(xH M c b).1.2=11):QT M (xH M c b).2:=by
 unfold xH at h ⊢
 split
 ·rename_i h1;rw[iJ h1]at h;cases h
 ·rename_i h1;rw[iQ h1]at h
  split
  ·rename_i h2;rw[iJ h2]at h
   split
   ·rename_i h3;rw[iJ h3]at h;cases h
   ·rename_i h3;rw[iQ h3]at h;exact(Xo h).elim
  ·rename_i h2;rw[iQ h2]at h;exact wO h
theorem ZA {M:VM} {c:Int} (O:OkV M):QI M (xL M c).2:=by
 unfold xL
 repeat' split
 ·exact zn M _
 ·exact(zn M _).trans (vI (xw O))
 ·exact(zn M _).trans (vI (xw O))
 ·exact zn M _
theorem Z0 {M:VM} {c:Int} (h:(xL M c).1.2=11):QT M (xL M c).2:=by
 unfold xL at h ⊢
 split
 ·rename_i h1;rw[iJ h1]at h
  split
  ·rename_i h2;rw[iJ h2]at h;cases h
  ·rename_i h2;rw[iQ h2]at h
   split
   ·rename_i h3;rw[iJ h3]at h;cases h
   ·rename_i h3;rw[iQ h3]at h;exact(Xo h).elim
 ·rename_i h1;rw[iQ h1]at h;exact wO h
theorem G8 {M:VM} {x:Int} (O:OkV M):QI M (zH M x).2:=by
 unfold zH
 repeat' split
 ·exact .refl M
 ·exact(zn M _).trans (ZA (xw O))
 ·exact(zn M _).trans (Ot (xw O))
 ·exact zn M _
theorem Of {M:VM} {x:Int} (h:(zH M x).1.2=11):QT M (zH M x).2:=by
 unfold zH at h ⊢
 split
 ·rename_i h1;rw[iJ h1]at h;cases h
 ·rename_i h1;rw[iQ h1]at h
  split
  ·rename_i h2;rw[iJ h2]at h;have e:=Yb h2
   split
   ·rename_i h3;rw[iJ h3,e]at h;rw[e];exact Z0 h
   ·rename_i h3;rw[iQ h3,e]at h;rw[e];exact Zk h
  ·rename_i h2;rw[iQ h2]at h;exact wO h
theorem qQu {M:VM} {x:Int} (W:WdV M) (h:(zH M x).1.2=0):0≤(zH M x).1.1∧(zH M x).1.1≤2147483648:=by
 have hs:=MJ (xX x);unfold zH at h ⊢
 split
 ·rename_i h1;rw[iJ h1]at h;cases h
 ·rename_i h1;rw[iQ h1]at h
  split
  ·rename_i h2;rw[iJ h2]at h;have hr:=W.read (p:=xX x)
   split
   ·rename_i h3;rw[iJ h3]at h;have hr2:=(W.read2 (p:=xX x)).read (p:=5);unfold xL at h ⊢
    split
    ·rename_i h4;rw[iJ h4]at h
     split
     ·rename_i h5;rw[iJ h5]at h;cases h
     ·rename_i h5
      split
      ·dsimp only;omega
      ·show(0:Int)≤0∧(0:Int)≤2147483648;omega
    ·show(0:Int)≤0∧(0:Int)≤2147483648;omega
   ·rename_i h3;rw[iQ h3]at h;unfold xH at h ⊢
    split
    ·rename_i h4;rw[iJ h4]at h;cases h
    ·split
     ·split
      ·dsimp only;omega
      ·show(0:Int)≤0∧(0:Int)≤2147483648;omega
     ·show(0:Int)≤0∧(0:Int)≤2147483648;omega
  ·show(0:Int)≤0∧(0:Int)≤2147483648;omega
structure QB (r:List Int):Prop where
  len:r.length=8
  bd:∀z∈r,0≤z∧z<18446744073709551616
theorem QB.at {r:List Int} (h:QB r) (i:Int):0≤qB r i∧qB r i<18446744073709551616:=by
 unfold qB;cases hi:r[i.toNat]? with
 |none=>show(0:Int)≤0∧(0:Int)<18446744073709551616;omega
 |some z=>exact h.bd z (List.mem_of_getElem? hi)
theorem QB.set {r:List Int} {i v:Int} (h:QB r) (hv:0≤v∧v<18446744073709551616):QB (r.set i.toNat v) :=
 ⟨by rw[List.length_set];exact h.len,λz hz=>by
  rcases List.mem_or_eq_of_mem_set hz with hz |rfl
  ·exact h.bd z hz
  ·exact hv⟩
structure PtOk (l:List qS) (p:PtM):Prop where
  regs:QB p.regs
  pc:∃k:Nat,p.pc=k∧k<l.length
  op:(p.op=14∨p.op=17∨p.op=18)∧(qL l p.pc).1=p.op
def ToldD:Nat→List PtM→Prop
 |_,[]=>True
 |n,p::r=>p.told≤n∧ToldD p.told r
theorem ToldD.mono:∀{o:List PtM} {n n':Nat},n≤n'→ToldD n o→ToldD n' o:=by
 intro o;cases o with
 |nil=>intro _ _ _ _;trivial
 |cons p r=>intro n n' h h2;exact⟨Nat.le_trans h2.1 h,h2.2⟩
structure GB (s:IM):Prop where
  regs:QB s.regs
  out:s.out.length≤16
  its:∀x∈s.out,qV7 x
structure GI (l:List qS) (s:IM) (V:VM):Prop where
  gb:GB s
  pc:∃k:Nat,s.pc=k∧k≤l.length
  pts:∀p∈s.opn,PtOk l p
  told:ToldD s.out.length s.opn
  stk:s.opn.map (·.pc)=(qg l s.pc.toNat).reverse
  lv:V.lv.length=s.opn.length+1
  good:jX V
theorem qQ2 (z:Int):0≤j6 .u64 z∧j6 .u64 z<18446744073709551616:=by
  cases z with
  | ofNat a => show (0 : Int) ≤ Int.ofNat (a % 18446744073709551616) ∧ Int.ofNat (a % 18446744073709551616) < 18446744073709551616
               rw[iZ];omega
  | negSucc a => show (0 : Int) ≤ Int.ofNat (18446744073709551615 - a % 18446744073709551616) ∧ Int.ofNat (18446744073709551615 - a % 18446744073709551616) < 18446744073709551616
                 rw[iZ];omega
theorem qQT (p:Prop) [Decidable p]:0≤XL p∧XL p<18446744073709551616:=by unfold XL;split<;>omega
theorem GB.setR {s:IM} {i v:Int} (h:GB s) (hv:0≤v∧v<18446744073709551616):GB (setR s i v):=⟨h.regs.set hv,h.out,h.its⟩
structure YD (l:List qS) (s:IM) (V:VM) (r:SM):Prop where
  gb:GB r.s
  good:jX r.v
  fr:frS r.v.lv≤frS V.lv+1
  sz:r.v.sz=V.sz
  K:r.v.K=V.K
  most:r.v.most=V.most
  next:r.e=0→r.blk=false→GI l { r.s with pc:=r.nx } r.v
  need:r.e=11→r.s=s∧QT V r.v
  bl:r.blk=true→r.e=0
theorem ZC {l:List qS} {i:Nat} (h1:zR (qL l i).1=false) (h2:(qL l i).1≠18) (h3:jO (qL l i).1=0):qg l (i+1)=qg l i:=by rw[jJ];unfold qt;rw[iQ (by rw[h1];simp[h2]),iQ omQ]
theorem GI.plain {l:List qS} {s s':IM} {V V':VM} {i:Nat} (G:GI l s V) (hi:s.pc=i) (hlt:i<l.length) (h1:zR (qL l i).1=false) (h2:(qL l i).1≠18) (h3:jO (qL l i).1=0)
  (gb:GB s') (ho:s'.opn=s.opn) (hl:s.out.length≤s'.out.length) (hv:V'.lv.length=V.lv.length) (hg:jX V'):GI l { s' with pc:=s.pc+1 } V':=by
 refine⟨⟨gb.regs,gb.out,gb.its⟩,⟨i+1,by show s.pc+1=_;omega,by omega⟩,by show∀p∈s'.opn,_;rw[ho];exact G.pts,by show ToldD s'.out.length s'.opn;rw[ho];exact G.told.mono hl,?_,by show V'.lv.length=s'.opn.length+1;rw[ho,hv];exact G.lv,hg⟩;show s'.opn.map _=(qg l (s.pc+1).toNat).reverse;rw[ho,hi,show((i:Int)+1).toNat=i+1 by omega,ZC h1 h2 h3,G.stk,hi,Int.toNat_natCast]
theorem KS {l:List qS} {s:IM} {V:VM} {op:Int} {p:Nat} {st:List Int} (gb:GB s) (hp:p<l.length) (ho:(op=14∨op=17∨op=18)∧(qL l (p:Int)).1=op) (pts:∀p∈s.opn,PtOk l p) (told:ToldD s.out.length s.opn)
  (hst:s.opn.map (·.pc)=st.reverse) (hs2:qg l (p+1)=st++[(p:Int)]) (lv:V.lv.length=s.opn.length+1) (hd:s.opn.length<5) (G:jX V) :
  (j4 op p ((p:Int)+1) s V).e=0∧(j4 op p ((p:Int)+1) s V).blk=false∧(j4 op p ((p:Int)+1) s V).nx=(p:Int)+1∧GI l { (j4 op p ((p:Int)+1) s V).s with pc:=(p:Int)+1 } (j4 op p ((p:Int)+1) s V).v∧
   (j4 op p ((p:Int)+1) s V).v=(yg V).2:=by
 have h0:(yg V).1=0∧(yg V).2.lv=([],[])::V.lv:=by unfold yg w9;rw[iQ omQ];exact⟨rfl,rfl⟩
 unfold j4;rw[iJ h0.1];refine⟨rfl,rfl,rfl,⟨⟨gb.regs,gb.out,gb.its⟩,⟨p+1,rfl,by omega⟩,?_,⟨Nat.le_refl _,told⟩,?_,?_,G.openG.1⟩,rfl⟩
 ·intro q hq;rcases List.mem_cons.1 hq with rfl |hq
  ·exact⟨gb.regs,⟨p,rfl,hp⟩,ho⟩
  ·exact pts q hq
 ·show(p:Int)::s.opn.map _=(qg l ((p:Int)+1).toNat).reverse;rw[hst,show((p:Int)+1).toNat=p+1 by omega,hs2,List.reverse_append];rfl
 ·show(yg V).2.lv.length=_;rw[h0.2,List.length_cons,lv];rfl
theorem U4 {V:VM} (h:2≤V.lv.length):(xY V).1=0∧(xY V).2.lv=V.lv.tail:=by unfold xY kX;rw[iQ omQ];exact⟨rfl,rfl⟩
theorem VH {V:VM} (h:2≤V.lv.length):(yh V).1=0∧(yh V).2.lv.length+1=V.lv.length:=by
 unfold yh
 match hl:V.lv,h with
 |[],h=>simp at h
 |[x],h=>simp at h
 |x::y::r,_=>exact⟨rfl,by simp[kf]⟩
theorem ToldD.tail {n:Nat} {p:PtM} {o:List PtM} (h:ToldD n (p::o)):ToldD n o:=h.2.mono h.1
theorem YD.plain {l:List qS} {s s':IM} {V V':VM} {i:Nat} {e:Int} (G:GI l s V) (hi:s.pc=i) (hlt:i<l.length) (h1:zR (qL l i).1=false) (h2:(qL l i).1≠18) (h3:jO (qL l i).1=0)
  (gb:GB s') (ho:s'.opn=s.opn) (hl:s.out.length≤s'.out.length) (hk:QI V V') (hg:jX V') (hf:frS V'.lv≤frS V.lv+1) (hn:e=11→s'=s∧QT V V'):YD l s V ⟨e,s.pc+1,false,s',V'⟩ :=
 ⟨gb,hg,hf,hk.sz,hk.K,hk.most,λ_ _=>G.plain hi hlt h1 h2 h3 gb ho hl hk.len hg,hn,λh=>(by cases h)⟩
theorem O3 {l:List qS} (F:Fit l) {i:Nat} (hlt:i<l.length) (ho:(qL l i).1=12∨(qL l i).1=13):∃c:Nat,(qL l i).2.2.2.1=c∧c≤l.length∧qg l c=qg l i:=by
 have hm:=(xf (F.ok i hlt)).1;have hj:=F.jump i hlt;generalize qL l i=x at*;have hc:0≤x.2.2.2.1∧x.2.2.2.1≤40:=by
  unfold vJ jY vK at hm;simp only[Bool.and_eq_true,decide_eq_true_eq]at hm;have:=hm.1.2;rcases ho with h |h
  ·rw[iQ omQ,iQ omQ,iQ omQ,iQ omQ,iJ h]at this;exact this
  ·rw[iQ omQ,iQ omQ,iQ omQ,iQ omQ,iQ omQ,iJ h]at this;exact this
 obtain⟨c,hcc⟩:∃c:Nat,x.2.2.2.1=c:=⟨x.2.2.2.1.toNat,by omega⟩;refine⟨c,hcc,?_⟩;unfold JD at hj;rw[hcc]at hj;have hle:c≤l.length:=by
  rcases Nat.lt_or_ge l.length c with h |h
  ·exact absurd ⟨ho,.inl omQ⟩ hj
  ·exact h
 refine⟨hle,?_⟩;by_cases he:c=l.length
 ·subst he;rw[F.nil];have:qB (yn l 0 []) (i:Int)= -1:=Classical.not_not.1 λh=>hj ⟨ho,.inr (.inl ⟨rfl,h⟩)⟩;rw[gw F hlt]at this
  exact(Classical.not_not.1 λh=>by
   have:=(GG (l:=l) i).1.inmost (λh'=>h h'.symm)
   omega:[]=qg l i)
 ·have:qB (yn l 0 []) (c:Int)=qB (yn l 0 []) (i:Int):=Classical.not_not.1 λh=>hj ⟨ho,.inr (.inr ⟨by omega,h⟩)⟩;rw[gw F hlt,gw F omQ]at this;exact qGt this
theorem Kd {l:List qS} (F:Fit l):∀i,i≤l.length→(qg l i).length≤5:=by
 intro i
 induction i with
 |zero=>intro _;simp[qg]
 |succ i ih=>
  intro h;have h1:=ih omQ;have hw:=xf (F.ok i omQ);rw[jJ];unfold qt
  repeat' split
  ·rename_i hb he;have hne:qg l i≠[]:=(zl (F.ok i omQ)).2.1 (.inl he);have:=List.length_pos_iff.2 hne;simp;omega
  ·rename_i hb he;rcases hb with hb |hb
   ·have:=hw.2.2.2 hb;simp;omega
   ·exact absurd (by rw[hb];decide) he
  ·simp;omega
  ·exact h1
theorem JG {o:List PtM} {p:PtM} {st:List Int} (h:(p::o).map (·.pc)=st.reverse):st=st.dropLast++[p.pc]∧o.map (·.pc)=st.dropLast.reverse:=by
 have e:st=o.reverse.map (·.pc)++[p.pc]:=by have:=congrArg List.reverse h;rw[List.reverse_reverse]at this;rw[← this,List.map_cons,List.reverse_cons,List.map_reverse]
 have e2:st.dropLast=o.reverse.map (·.pc):=by rw[e,List.dropLast_concat]
 refine⟨by rw[e2];exact e,?_⟩;rw[e2,List.map_reverse,List.reverse_reverse]
def PreP (l:List qS) (st:List Int):Prop:=∀k p:Nat,st[k]? =some (p:Int)→qg l (p+1)=st.take (k+1)
theorem PreP.dropLast {l:List qS} {st:List Int} (h:PreP l st):PreP l st.dropLast:=by
 intro k p hk;have h1:=(List.getElem?_eq_some_iff.1 hk).1;have h2:k+1≤st.length-1:=by have:=h1;simp at this;omega
 rw[List.getElem?_dropLast]at hk
 split at hk
 ·rw[h k p hk,List.dropLast_eq_take,List.take_take,Nat.min_eq_left h2]
 ·cases hk
theorem GB.back {l:List qS} {s:IM} {p:PtM} (g:GB s) (h:PtOk l p):GB (kz s p):=⟨h.regs,by
 show(s.out.take p.told).length≤16;have:=g.out
 simp;omega,λx hx=>g.its x (List.mem_of_mem_take hx)⟩
theorem qVr {l:List qS} {st:List Int} (hp:PreP l st) {o:List PtM} {p:PtM} {q:Nat} (h:(p::o).map (·.pc)=st.reverse) (hq:p.pc=q):qg l (q+1)=st:=by
 have e:=(JG h).1;have hl:st.length=st.dropLast.length+1:=by have:=congrArg List.length e;simpa using this
 have:=hp st.dropLast.length q (by rw[e,hq];simp);rw[this,List.take_of_length_le omQ]
theorem Zi {l:List qS} (F:Fit l) {s0:IM} {V0:VM}:∀(o:List PtM) (s:IM) (V:VM) (st:List Int),PreP l st→o.map (·.pc)=st.reverse→GB s→(∀p∈o,PtOk l p)→ToldD s.out.length o→V.lv.length=o.length+1→jX V→
  frS V.lv≤frS V0.lv→V.sz=V0.sz→V.K=V0.K→V.most=V0.most→YD l s0 V0 (yx (qA l) o s V):=by
 intro o
 induction o with
 |nil=>intro s V st hp hm gb _ _ hlv G hf h1 h2 h3;exact⟨⟨gb.regs,gb.out,gb.its⟩,G,by show frS V.lv≤_;omega,h1,h2,h3,λ_ h=>(by cases h),λh=>(by cases h),λ_=>rfl⟩
 |cons p o ih=>
  intro s V st hp hm gb pts told hlv G hf h1 h2 h3;have hd:=U4 (V:=V) (by rw[hlv];simp);have hdG:=G.dropG;have hlv2:(xY V).2.lv.length=o.length+1:=by rw[hd.2,List.length_tail,hlv];simp
  have hmt:=JG hm;unfold yx;rw[iJ hd.1]
  split
  ·rename_i hop;have P:=pts p (iK ..);obtain⟨q,hq,hql⟩:=P.pc;have hqo:(qL l (q:Int)).1=17:=by rw[← hq,P.op.2,hop]
   obtain⟨e,e1,e2,e3,e4,e5⟩:=vH F hql (.inr (.inl hqo));have hst:=qVr hp hm hq;have heo:(qL l (e:Int)).1=18:=by
    rw[hqo]at e4;unfold jO at e4
    repeat' split at e4
    all_goals first |assumption |omega
   have hst2:qg l (e+1)=st.dropLast++[(e:Int)]:=by rw[jJ,e5,hst];unfold qt;rw[iJ (.inr heo),iJ (by rw[heo];decide)]
   have h5:=Kd F e omQ;rw[e5,hst]at h5;have hl5:st.length=st.dropLast.length+1:=by have:=congrArg List.length hmt.1;simpa using this
   have hol:o.length=st.dropLast.length:=by have:=congrArg List.length hmt.2;simpa using this
   have gb2:GB { kz s p with opn:=o }:=⟨(gb.back P).regs,(gb.back P).out,(gb.back P).its⟩;have told2:ToldD (s.out.take p.told).length o:=by rw[List.length_take,Nat.min_eq_left told.1];exact told.2
   have key:=KS (l:=l) (s:={ kz s p with opn:=o }) (V:=(xY V).2) (op:=18) (p:=e) (st:=st.dropLast) gb2 e3 ⟨.inr (.inr rfl),heo⟩ (λr hr=>pts r (iX _ hr)) told2 hmt.2 hst2 hlv2 (by show o.length<5;omega) hdG.1;rw[hq,e1];obtain⟨k1,k2,k3,k4,k5⟩:=key;have hoG:=hdG.1.openG;refine⟨k4.gb |> λg=>⟨g.regs,g.out,g.its⟩,k4.good,?_,?_,?_,?_,λ_ _=>?_,λh=>(by rw[k1]at h;cases h),λh=>(by rw[k2]at h;cases h)⟩
   ·rw[k5,hoG.2];have:=hdG.2;omega
   ·rw[k5];exact h1
   ·rw[k5];exact h2
   ·rw[k5];exact h3
   ·rw[k3];exact k4
  ·exact ih s (xY V).2 st.dropLast hp.dropLast hmt.2 gb (λr hr=>pts r (iX _ hr)) told.tail hlv2 hdG.1 (by have:=hdG.2;omega) h1 h2 h3
theorem Z9 {l:List qS} {s:IM} {V:VM} {x:qS} (G:GI l s V) (hf:frS V.lv<10000) :
  GB (jB s V x).2.1∧(jB s V x).2.1.opn=s.opn∧(jB s V x).2.1.out=s.out∧(jB s V x).2.1.pc=s.pc∧QI V (jB s V x).2.2∧jX (jB s V x).2.2∧frS (jB s V x).2.2.lv≤frS V.lv+1∧
   ((jB s V x).1=11→(jB s V x).2.1=s∧QT V (jB s V x).2.2):=by
 have gb:=G.gb;have good:=G.good;have hr:=λi=>gb.regs.at i;have same:∀e:Int,e≠11→GB s∧s.opn=s.opn∧s.out=s.out∧s.pc=s.pc∧QI V V∧jX V∧frS V.lv≤frS V.lv+1∧(e=11→s=s∧QT V V) :=
  λe he=>⟨gb,rfl,rfl,rfl,.refl V,good,by omega,λh=>absurd h he⟩
 unfold jB
 split
 ·split
  ·split
   ·refine⟨gb.setR ?_,rfl,rfl,rfl,zn V _,good.read,by rw[xg];omega,λh=>by cases h⟩;exact good.wd.read
   ·exact⟨gb,rfl,rfl,rfl,zn V _,good.read,by rw[xg];omega,λh=>⟨rfl,wO h⟩⟩
  ·exact same 2 omQ
 ·split
  ·split
   ·exact⟨gb,rfl,rfl,rfl,vI good.ok,good.take (WdC.one1 (hr _)),by rw[gQ];omega,λh=>(Xo h).elim⟩
   ·exact same 2 omQ
  ·split
   ·split
    ·exact same 3 omQ
    ·split
     ·rename_i h0;have hb:=qQu (x:=qB s.regs x.2.2.1) good.wd h0;exact⟨gb.setR omQ,rfl,rfl,rfl,G8 good.ok,(good.alloc).1,by rw[(good.alloc).2];omega,λh=>by cases h⟩
     ·exact⟨gb,rfl,rfl,rfl,G8 good.ok,(good.alloc).1,by rw[(good.alloc).2];omega,λh=>⟨rfl,Of h⟩⟩
   ·split
    ·exact same 2 omQ
    ·exact⟨gb,rfl,rfl,rfl,qJ1 good.ok,(good.free omQ).1,(good.free omQ).2,λh=>⟨rfl,qJ7 h⟩⟩
theorem GO {l:List qS} {s:IM} {V:VM} (G:GI l s V):s.opn.length=(qg l s.pc.toNat).length:=by have:=congrArg List.length G.stk;simpa using this
theorem QE {l:List qS} (F:Fit l) {s:IM} {V:VM} (G:GI l s V) {i:Nat} (hi:s.pc=i) (hlt:i<l.length) (hf:frS V.lv<10000) (hN:0≤(qL l i).2.2.2.2∧(qL l i).2.2.2.2<18446744073709551616) (hx:(qL l i).1≠23) :
  YD l s V (doM (qA l) s V (qL l i)):=by
 have hw:=xf (F.ok i hlt);have hwo:=zl (F.ok i hlt);have hop:1≤(qL l i).1∧(qL l i).1≤23:=by have:=hw.1;unfold vJ at this;simp only[Bool.and_eq_true,decide_eq_true_eq]at this;exact this.1.1.1.1
 have hbe:zR (qL l i).1=decide ((qL l i).1=14∨(qL l i).1=17):=rfl;have hend:jO (qL l i).1=if(qL l i).1=15 then 14 else if(qL l i).1=18 then 17 else if(qL l i).1=19 then 18 else 0:=rfl
 have hjmp:=λh=>O3 F hlt h;have hstk:=G.stk;rw[hi,Int.toNat_natCast]at hstk;have hol:=GO G;rw[hi,Int.toNat_natCast]at hol;have hr:=λi=>G.gb.regs.at i;have hmb:=λh=>vH F hlt h;have hmu:=λh=>w5 F hlt h;have hss:qg l (i+1)=qt (qg l i) i (qL l i).1:=jJ;have plain:(qL l i).1≠14→(qL l i).1≠17→(qL l i).1≠15→(qL l i).1≠18→(qL l i).1≠19→zR (qL l i).1=false∧(qL l i).1≠18∧jO (qL l i).1=0:=by intro a b c d e;refine⟨by rw[hbe];exact iV omQ,d,?_⟩;rw[hend,iQ c,iQ d,iQ e]
 have keep:∀{s':IM} {V':VM} {e:Int},(qL l i).1≠14→(qL l i).1≠17→(qL l i).1≠15→(qL l i).1≠18→(qL l i).1≠19→GB s'→s'.opn=s.opn→s.out.length≤s'.out.length→QI V V'→jX V'→frS V'.lv≤frS V.lv+1→
   (e=11→s'=s∧QT V V')→YD l s V ⟨e,s.pc+1,false,s',V'⟩:=λa b c d e gb ho hl hk hg hf hn=>
  YD.plain G hi hlt (plain a b c d e).1 (plain a b c d e).2.1 (plain a b c d e).2.2 gb ho hl hk hg hf hn
 generalize hxe:qL l i=x at*;obtain⟨sregs,sout,spc,sopn⟩:=s;dsimp only at hi hstk hol hr keep ⊢;unfold doM;have reg:∀v:Int,x.1≠14→x.1≠17→x.1≠15→x.1≠18→x.1≠19→0≤v∧v<18446744073709551616→YD l ⟨sregs,sout,spc,sopn⟩ V ⟨0,spc+1,false,setR ⟨sregs,sout,spc,sopn⟩ x.2.1 v,V⟩ :=
  λv a b c d e hv=>keep a b c d e (G.gb.setR hv) rfl (Nat.le_refl _) (.refl V) G.good omQ λh=>by cases h
 have jump:∀n:Int,(x.1=12∨x.1=13)→(n=x.2.2.2.1∨n=spc+1)→YD l ⟨sregs,sout,spc,sopn⟩ V ⟨0,n,false,⟨sregs,sout,spc,sopn⟩,V⟩:=by
  intro n ho hn;rcases hn with rfl |rfl
  ·obtain⟨c,c1,c2,c3⟩:=hjmp ho;refine⟨G.gb,G.good,Nat.le_succ _,rfl,rfl,rfl,λ_ _=>⟨⟨G.gb.regs,G.gb.out,G.gb.its⟩,⟨c,c1,c2⟩,G.pts,G.told,?_,G.lv,G.good⟩,λh=>(by cases h),λh=>(by cases h)⟩;show sopn.map _=(qg l x.2.2.2.1.toNat).reverse;rw[c1,Int.toNat_natCast,c3];exact hstk
  ·exact keep omQ omQ omQ omQ omQ G.gb rfl (Nat.le_refl _) (.refl V) G.good omQ λh=>by cases h
 by_cases c1:x.1=1
 ·rw[iJ c1];exact reg _ omQ omQ omQ omQ omQ hN
 rw[iQ c1];by_cases c2:x.1=2
 ·rw[iJ c2];exact reg _ omQ omQ omQ omQ omQ (hr _)
 rw[iQ c2];by_cases c3:x.1=3
 ·rw[iJ c3];exact reg _ omQ omQ omQ omQ omQ (qQ2 _)
 rw[iQ c3];by_cases c4:x.1=4
 ·rw[iJ c4];exact reg _ omQ omQ omQ omQ omQ (qQ2 _)
 rw[iQ c4];by_cases c5:x.1=5
 ·rw[iJ c5];exact reg _ omQ omQ omQ omQ omQ (qQ2 _)
 rw[iQ c5];by_cases c6:x.1=6
 ·rw[iJ c6];exact reg _ omQ omQ omQ omQ omQ (qQT _)
 rw[iQ c6];by_cases c7:x.1=7
 ·rw[iJ c7];exact reg _ omQ omQ omQ omQ omQ (qQT _)
 rw[iQ c7];by_cases c12:x.1=12
 ·rw[iJ c12];exact jump _ (.inl c12) (.inl rfl)
 rw[iQ c12];by_cases c13:x.1=13
 ·rw[iJ c13];by_cases cz:qB sregs x.2.1=0
  ·rw[iJ cz];exact jump _ (.inr c13) (.inl rfl)
  ·rw[iQ cz];exact jump _ (.inr c13) (.inr rfl)
 rw[iQ c13];by_cases c21:x.1=21
 ·rw[iJ c21];have hk:∀e:Int,e≠11→YD l ⟨sregs,sout,spc,sopn⟩ V ⟨e,spc+1,false,⟨sregs,sout,spc,sopn⟩,V⟩:=λe he=>
   keep omQ omQ omQ omQ omQ G.gb rfl (Nat.le_refl _) (.refl V) G.good (Nat.le_succ _) λh=>absurd h he
  by_cases hlen:16≤sout.length
  ·rw[iJ hlen];exact hk 5 omQ
  ·rw[iQ hlen];refine keep omQ omQ omQ omQ omQ ⟨G.gb.regs,?_,?_⟩ rfl ?_ (.refl V) G.good (Nat.le_succ _) λh=>by cases h
   ·show(sout++[_]).length≤16;simp;omega
   ·intro y hy;rcases List.mem_append.1 hy with hy |hy
    ·exact G.gb.its y hy
    ·rw[List.mem_singleton]at hy;subst hy;exact hr _
   ·show sout.length≤(sout++[_]).length;simp
 rw[iQ c21];by_cases c22:x.1=22
 ·rw[iJ c22];exact keep omQ omQ omQ omQ omQ G.gb rfl (Nat.le_refl _) (.refl V) G.good (Nat.le_succ _) λh=>by cases h
 rw[iQ c22];by_cases c8:x.1=8∨x.1=9∨x.1=10∨x.1=11
 ·rw[iJ c8];obtain⟨t1,t2,t3,t4,t5,t6,t7,t8⟩:=Z9 (x:=x) G hf;exact keep omQ omQ omQ omQ omQ t1 t2 (by rw[t3];exact Nat.le_refl _) t5 t6 t7 t8
 rw[iQ c8];unfold gV;by_cases h:x.1=14∨x.1=17
 ·rw[iJ h];dsimp only;subst hi;have hb:zR x.1=true:=by rw[hbe];exact iG h
  have he:¬0<jO x.1:=by rw[hend,iQ omQ,iQ omQ,iQ omQ];omega
  have key:=KS (l:=l) (s:=⟨sregs,sout,(i:Int),sopn⟩) (V:=V) (op:=x.1) (p:=i) (st:=qg l i) G.gb hlt ⟨by omega,by rw[hxe]⟩ G.pts G.told hstk (by rw[hss];unfold qt;rw[iJ (.inl hb),iQ he]) G.lv (by show sopn.length<5;rw[hol];exact hw.2.2.2 hb) G.good;obtain⟨k1,k2,k3,k4,k5⟩:=key;have hoG:=G.good.openG;refine⟨k4.gb |> λg=>⟨g.regs,g.out,g.its⟩,k4.good,?_,?_,?_,?_,λ_ _=>?_,λh=>(by rw[k1]at h;cases h),λh=>(by rw[k2]at h;cases h)⟩
  ·rw[k5,hoG.2];omega
  ·rw[k5];rfl
  ·rw[k5];rfl
  ·rw[k5];rfl
  ·rw[k3];exact k4
 rw[iQ h];clear h;by_cases h:x.1=15∨x.1=19
 ·rw[iJ h];have he:0<jO x.1:=by rw[hend];rcases h with h |h<;>rw[h]<;>decide
  have hne:=hwo.2.1 (.inl he)
  match sopn,hol,hstk,G with
  |[],hol,_,_=>exact absurd (iA hol.symm) hne
  |p::o,hol,hstk,G=>
   have hk:=VH (V:=V) (by rw[G.lv];simp);have hkG:=G.good.keepG omQ;have hlv:=G.lv
   refine⟨⟨G.gb.regs,G.gb.out,G.gb.its⟩,hkG.1,by rw[hkG.2];omega,rfl,rfl,rfl,λ_ _=>⟨⟨G.gb.regs,G.gb.out,G.gb.its⟩,⟨i+1,by show spc+1=_;omega,by omega⟩,λq hq=>G.pts q (iX _ hq),G.told.tail,?_,?_,hkG.1⟩,λh0=>(by
    dsimp only at h0;rw[hk.1]at h0;cases h0),λh=>(by cases h)⟩
   ·show o.map _=(qg l (spc+1).toNat).reverse;rw[hi,show((i:Int)+1).toNat=i+1 by omega,hss];unfold qt;rw[iQ (by rw[hbe];simp;omega),iJ he];exact(JG hstk).2
   ·show(yh V).2.lv.length=o.length+1;have:=hk.2;simp at hlv;omega
 rw[iQ h];clear h;by_cases h:x.1=18
 ·rw[iJ h];have he:0<jO x.1:=by rw[hend];rw[h];decide
  have hne:=hwo.2.1 (.inl he);obtain⟨e,e1,e2,e3,e4,e5⟩:=hmb (.inr (.inr h));have heo:(qL l (e:Int)).1=19:=by
   rw[h]at e4;unfold jO at e4
   repeat' split at e4
   all_goals first |assumption |omega
  match sopn,hol,hstk,G with
  |[],hol,_,_=>exact absurd (iA hol.symm) hne
  |p::o,hol,hstk,G=>
   have hk:=VH (V:=V) (by rw[G.lv];simp);have hkG:=G.good.keepG omQ;have hlv:=G.lv
   refine⟨⟨G.gb.regs,G.gb.out,G.gb.its⟩,hkG.1,by rw[hkG.2];omega,rfl,rfl,rfl,λ_ _=>⟨⟨G.gb.regs,G.gb.out,G.gb.its⟩,⟨e+1,by show qB (qA l) spc+1=_;rw[hi,e1];omega,by omega⟩,λq hq=>G.pts q (iX _ hq),G.told.tail,?_,?_,hkG.1⟩,λh0=>(by
    dsimp only at h0;rw[hk.1]at h0;cases h0),λh=>(by cases h)⟩
   ·show o.map _=(qg l (qB (qA l) spc+1).toNat).reverse;rw[hi,e1,show((e:Int)+1).toNat=e+1 by omega,jJ,e5,hss];unfold qt;rw[iQ (by rw[heo];decide),iJ (by rw[heo];decide),iJ (.inr h),iJ he,List.dropLast_concat];exact(JG hstk).2
   ·show(yh V).2.lv.length=o.length+1;have:=hk.2;simp at hlv;omega
 rw[iQ h];clear h;by_cases h:x.1=16
 ·rw[iJ h];obtain⟨e,e1,e2,e3,e4,hne⟩:=hmu h
  match sopn,hol,hstk,G with
  |[],hol,_,_=>exact absurd (iA hol.symm) hne
  |p::o,hol,hstk,G=>
   have hk:=U4 (V:=V) (by rw[G.lv];simp);have hkG:=G.good.dropG;have hlv:=G.lv;have P:=G.pts p (iK ..);have told:=G.told;have gb2:=G.gb.back P
   refine⟨⟨gb2.regs,gb2.out,gb2.its⟩,hkG.1,by have:=hkG.2;dsimp only;omega,rfl,rfl,rfl,λ_ _=>⟨⟨gb2.regs,gb2.out,gb2.its⟩,⟨e+1,by show qB (qA l) spc+1=_;rw[hi,e1];omega,by omega⟩,λq hq=>G.pts q (iX _ hq),?_,?_,?_,hkG.1⟩,λh0=>(by
    dsimp only at h0;rw[hk.1]at h0;cases h0),λh=>(by cases h)⟩
   ·show ToldD (sout.take p.told).length o;rw[List.length_take,Nat.min_eq_left told.1];exact told.2
   ·show o.map _=(qg l (qB (qA l) spc+1).toNat).reverse;rw[hi,e1,show((e:Int)+1).toNat=e+1 by omega,jJ,e4];unfold qt;rw[iQ (by rw[e3];decide),iJ (by rw[e3];decide)];exact(JG hstk).2
   ·show(xY V).2.lv.length=o.length+1;rw[hk.2,List.length_tail,hlv];simp
 ·rw[iQ h];exact Zi F sopn _ V (qg l i) (UI i) hstk G.gb G.pts G.told G.lv G.good (Nat.le_refl _) rfl rfl rfl
end Go.Proofs.YtnalffoigcmnnaaGreatDoor
namespace Go.Proofs.YtnalffoigcmnnaaGreatDoor
open Go Go.Ae
set_option maxRecDepth 100000
variable {g h:AH} {L R:List SP}
theorem V9 {b off n sz a:Nat} {k:IntKind} {K:AV→Go.Ae.R} {Q:AV→AH→Prop} (ha:a<n) (w:wp (K (.ptr b (off+a*sz))) Q):wp (wb (.ptr b off) (.int k (a:Int)) n sz K) Q:=by unfold wb;show wp (bif Nat.ble (a+1) n then _ else none) Q;rw[iY (show a+1≤n from ha)];exact w
theorem qW6 {z:Int} (h0:0≤z):∃a:Nat,z.tmod ((8:Nat):Int)=a∧a<8∧(z<8→z=a):=by refine⟨(z%8).toNat,?_,by omega,λh=>by omega⟩;rw[Int.tmod_eq_emod_of_nonneg h0];omega
def qxH (r:List Int):List AV:=[.int .u64 (qB r 0),.int .u64 (qB r 1),.int .u64 (qB r 2),.int .u64 (qB r 3),.int .u64 (qB r 4),.int .u64 (qB r 5),.int .u64 (qB r 6),.int .u64 (qB r 7)]
def yj (p:PtM):List AV:=[.int .i64 p.op,.int .i64 p.pc,.int .u64 (qB p.regs 0),.int .u64 (qB p.regs 1),.int .u64 (qB p.regs 2),.int .u64 (qB p.regs 3),.int .u64 (qB p.regs 4),.int .u64 (qB p.regs 5),.int .u64 (qB p.regs 6),.int .u64 (qB p.regs 7),.int .i64 (p.told:Int)]
def vL (c mv ov:AV) (v o:Nat) (bad err fin left nx pc:Int) (r:List Int):List AV :=
 [c,.ptr v 0,mv,.int .i64 bad,.int .i64 err,.int .i64 fin,.int .u64 (qB r 0),.int .u64 (qB r 1),.int .u64 (qB r 2),.int .u64 (qB r 3),.int .u64 (qB r 4),.int .u64 (qB r 5),.int .u64 (qB r 6),.int .u64 (qB r 7),
  .ptr o 0,.int .i64 pc,.int .i64 nx,.int .i64 left,ov]
section
variable {c mv ov:AV} {v o:Nat} {bad err fin left nx pc:Int} {r:List Int}
theorem Xy {a:Nat} (ha:a<8):(vL c mv ov v o bad err fin left nx pc r)[6+a*1]? =some (.int .u64 (qB r (a:Int))):=by
 rcases(show a=0∨a=1∨a=2∨a=3∨a=4∨a=5∨a=6∨a=7 by omega)with rfl |rfl |rfl |rfl |rfl |rfl |rfl |rfl<;>rfl
theorem qX5 {i k:Nat} {z:Int} (hi:i<r.length):qB (r.set i z) (k:Int)=if i=k then z else qB r (k:Int):=by
 unfold qB;rw[Int.toNat_natCast,List.getElem?_set]
 split
 ·rename_i h;subst h;simp[hi]
 ·rfl
theorem qqf {a:Nat} {z:Int} (hr:r.length=8) (ha:a<8):(vL c mv ov v o bad err fin left nx pc r).set (6+a*1) (.int .u64 z)=vL c mv ov v o bad err fin left nx pc (r.set a z):=by have hs:=λk:Nat=>qX5 (r:=r) (i:=a) (k:=k) (z:=z) omQ;have e0:=hs 0;have e1:=hs 1;have e2:=hs 2;have e3:=hs 3;have e4:=hs 4;have e5:=hs 5;have e6:=hs 6;have e7:=hs 7;simp only[iZ,show((0:Nat):Int)=0 from rfl,show((1:Nat):Int)=1 from rfl,show((2:Nat):Int)=2 from rfl,show((3:Nat):Int)=3 from rfl,show((4:Nat):Int)=4 from rfl,show((5:Nat):Int)=5 from rfl,show((6:Nat):Int)=6 from rfl,show((7:Nat):Int)=7 from rfl]at e0 e1 e2 e3 e4 e5 e6 e7;unfold vL;rw[e0,e1,e2,e3,e4,e5,e6,e7];rcases(show a=0∨a=1∨a=2∨a=3∨a=4∨a=5∨a=6∨a=7 by omega)with rfl |rfl |rfl |rfl |rfl |rfl |rfl |rfl<;>rfl
end
def IntC (x v:Nat) (l:List qS) (bad:Int) (mt:List Int) (s:IM) (err fin left nx:Int):SP:=.ex λc=>.ex λmv=>.ex λov=>.ex λo=>.all
 [qk x (vL c mv ov v o bad err fin left nx s.pc s.regs),qD 74 5 l.length c (l.flatMap q8),qD 3 1 mt.length mv (mt.map (.int .i64)),SlaC o s.out,qD 236 11 s.opn.length ov (s.opn.reverse.flatMap yj)]
section
variable {x v:Nat} {l:List qS} {bad:Int} {mt:List Int} {s:IM} {err fin left nx:Int}
theorem IntC.E (H:HS g h (IntC x v l bad mt s err fin left nx::R)):∃c mv ov o,HS g h (qk x (vL c mv ov v o bad err fin left nx s.pc s.regs)::qD 74 5 l.length c (l.flatMap q8)::qD 3 1 mt.length mv (mt.map (.int .i64))::SlaC o s.out::
  qD 236 11 s.opn.length ov (s.opn.reverse.flatMap yj)::R):=by
 obtain⟨c,H⟩:=H.exE;obtain⟨mv,H⟩:=H.exE;obtain⟨ov,H⟩:=H.exE;obtain⟨o,H⟩:=H.exE;exact⟨c,mv,ov,o,H.allE⟩
theorem IntC.I {c mv ov:AV} {o:Nat} (H:HS g h (qk x (vL c mv ov v o bad err fin left nx s.pc s.regs)::qD 74 5 l.length c (l.flatMap q8)::qD 3 1 mt.length mv (mt.map (.int .i64))::SlaC o s.out::
  qD 236 11 s.opn.length ov (s.opn.reverse.flatMap yj)::R)):HS g h (IntC x v l bad mt s err fin left nx::R) :=
 HS.exI c (HS.exI mv (HS.exI ov (HS.exI o H.allI)))
theorem qqF {n o:Nat} (hn:1≤n) {l:List ItT} (H:HS g h (SlaC o l::R)):t_w n 231 [.ptr o 0] h λr h'=>r=.int .i64 (l.length:Int)∧h'=h:=by
 refine t_e1 (S:=S231) rfl omQ λk hk=>?_;unfold S231;try simp only[iZ]
 obtain⟨sv,H⟩:=SlaC.E H;refine qq (qQ (qG ‹_› .here rfl ?_));refine qs ‹_› e_1 ?_;exact qY ⟨rfl,rfl⟩
theorem qzu {n o:Nat} (hn:1≤n) {l:List ItT} {x:ItT} (H:HS g h (SlaC o l::R)) (hl:l.length≤16) :
  t_w n 143 [.ptr o 0,kC x] h λr h'=>r=.bool (decide (l.length<16))∧HS g h' (SlaC o (if l.length<16 then l++[x]else l)::R):=by
 refine t_e2 (S:=S143) rfl omQ λk hk=>?_;unfold S143;try simp only[iZ]
 obtain⟨sv,H⟩:=SlaC.E H;by_cases h1:l.length<16
 ·rw[iJ h1,iG h1];refine qq (qQ (qG ‹_› .here rfl ?_));refine qs ‹_› e_1 ?_;refine zB omQ ?_;refine qJ (qq (qQ (qG ‹_› .here rfl ?_)))
  refine qr (n:=1) (l:=[kC x]) (sz:=1) H rfl rfl (by
   have e:=(Jc x).1
   simp only[vB,e,y9];rfl) (yG (Jc x)) λv2 h2 H2=>?_
  refine zT (H2.sel e_2) (H2.sl .here) omQ omQ (yG (Jc x)) λv3 h3 H3=>?_;have o3:=H3.one .here;refine qq (qQ (qH H3 (b:=o) e_2 o3 osQ λh4 H4=>?_));refine qY ⟨rfl,SlaC.I (sv:=v3) ?_⟩;rw[List.length_append,List.map_append];exact H4.sub (.cons .here (.cons .here (.drop .refl)))
 ·rw[iQ h1,iV h1];refine qq (qQ (qG ‹_› .here rfl ?_));refine qs ‹_› e_1 ?_;refine zz omQ ?_;refine qX ?_;exact qY ⟨rfl,SlaC.I H⟩
theorem qq3 {n o:Nat} (hn:2≤n) {l:List ItT} {u:Int} (H:HS g h (SlaC o l::R)) (hl:l.length≤16) :
  t_w n 112 [.ptr o 0,.int .u64 u] h λr h'=>r=.bool (decide (l.length<16))∧HS g h' (SlaC o (if l.length<16 then l++[(1,u)]else l)::R):=by
 refine t_e2 (S:=S112) rfl omQ λk hk=>?_;unfold S112;try simp only[iZ]
 refine qW (qzu (x:=(1,u)) omQ H hl) ?_;rintro _ h2 ⟨rfl,H2⟩;exact qY ⟨rfl,H2⟩
theorem VB {n m:Nat} (hn:1≤n) {e:TypeId} {v:AV} {xs:List AV} (H:HS g h L) (s:Sel L (qD e 1 m v xs) R) (ha:ql xs=true) (hm:m≤1000000) :
  t_w n 116 [v] h λr h'=>HS g h' (qD 20 1 m r xs::L):=by
 refine t_e1 (S:=S116) rfl omQ λk hk=>?_;unfold S116;try simp only[iZ]
 refine Je H s (λh1 h2=>?_) ?_
 ·subst h1 h2;have hx:xs=[]:=iA (by simpa using H.sl_len s);subst hx;exact qX (qY H.nils)
 ·refine qJ (qr (n:=0) (l:=[]) (sz:=1) H rfl rfl rfl rfl λv2 h2 H2=>?_);refine zT H2 (H2.sl (.there s)) omQ omQ ha λv3 h3 H3=>?_;rw[Nat.zero_add,List.nil_append]at H3;exact qY H3
theorem qKl {n o:Nat} (hn:2≤n) {l:List ItT} (H:HS g h (SlaC o l::R)) (hl:l.length≤16) :
  t_w n 83 [.ptr o 0] h λr h'=>∃p,r=.ptr p 0∧HS g h' (SlaC p l::SlaC o l::R):=by
 refine t_e1 (S:=S83) rfl omQ λk hk=>?_;unfold S83;try simp only[iZ]
 obtain⟨sv,H⟩:=SlaC.E H;refine qq (qQ (qG ‹_› .here rfl ?_));refine qW (VB omQ H e_1 (KQ l) omQ) ?_;intro cv h2 H2;have oc:=H2.one .here;refine qI (l:=[cv]) (by simp only[vB,oc.1];rfl) ?_;refine qM H2 (yG oc) λp h3 H3=>qY ⟨p,rfl,?_⟩;have H4:=SlaC.I (o:=p) (l:=l) (sv:=cv) (R:=qk o [sv]::qD 20 1 l.length sv (l.map kC)::R) H3;exact HS.unsel e_1 (SlaC.I (o:=o) (l:=l) (sv:=sv) (R:=SlaC p l::R) (H4.sub (.cons e_1 (.cons e_1 (.cons .here .refl)))))
theorem qYU {n o m:Nat} (hn:2≤n) {l:List ItT} (H:HS g h (SlaC o l::R)) (hl:l.length≤16) (hm:m≤l.length) :
  t_w n 233 [.ptr o 0,.int .i64 (m:Int)] h λ_ h'=>HS g h' (SlaC o (l.take m)::R):=by
 refine t_e2 (S:=S233) rfl omQ λk hk=>?_;unfold S233;try simp only[iZ]
 obtain⟨sv,H⟩:=SlaC.E H;refine qq (qQ (qG ‹_› .here rfl ?_));refine qq (qQ (qG ‹_› .here rfl ?_));refine qs ‹_› e_1 ?_;refine jm (zK ?_);rw[show max ((0:Nat):Int) (min (m:Int) (l.length:Int))=(m:Int) by omega];refine Ja (H.sel e_1) omQ hm λv2 H2=>?_;rw[Nat.mul_one,← List.map_take]at H2;refine qW (VB omQ H2 .here (KQ _) omQ) ?_;intro cv h3 H3;have oc:=H3.one .here;refine qq (qQ (qH H3 (b:=o) e_2 oc osQ λh4 H4=>?_));refine qY (SlaC.I (sv:=cv) ?_);rw[show(l.take m).length=m by simp;omega];exact H4.sub (.cons .here (.cons .here (.drop .refl)))
theorem VC {n:Nat} (hn:1≤n) {p:Prop} [Decidable p]:t_w n 111 [.bool (decide p)] h λr h'=>r=.int .u64 (XL p)∧h'=h:=by
 refine t_e1 (S:=S111) rfl omQ λk hk=>?_;unfold S111;try simp only[iZ]
 unfold XL;by_cases hp:p
 ·rw[iG hp,iJ hp];exact qX (qY ⟨rfl,rfl⟩)
 ·rw[iV hp,iQ hp];exact qJ (qY ⟨rfl,rfl⟩)
theorem Nw {n:Nat} (hn:1≤n) {e:Int} (H:HS g h (IntC x v l bad mt s err fin left nx::R)) :
  t_w n 81 [.ptr x 0,.int .i64 e] h λ_ h'=>HS g h' (IntC x v l bad mt s e 4 left nx::R):=by
 refine t_e2 (S:=S81) rfl omQ λk hk=>?_;unfold S81;try simp only[iZ]
 obtain⟨c,mv,ov,o,H⟩:=IntC.E H;unfold vL at H;refine qq (qQ (qH H (b:=x) .here ⟨rfl,rfl⟩ osQ λh1 H1=>?_));refine qq (qQ (qH H1 (b:=x) .here ⟨rfl,rfl⟩ osQ λh2 H2=>?_));exact qY (IntC.I H2)
theorem qQN {n:Nat} (hn:1≤n) (H:HS g h (IntC x v l bad mt s err fin left nx::R)):t_w n 47 [.ptr x 0] h λr h'=>r=.int .i64 err∧h'=h:=by
 refine t_e1 (S:=S47) rfl omQ λk hk=>?_;unfold S47;try simp only[iZ]
 obtain⟨c,mv,ov,o,H⟩:=IntC.E H;unfold vL at H;refine qq (qQ (qG ‹_› .here rfl ?_));exact qY ⟨rfl,rfl⟩
theorem U9 {n:Nat} (hn:3≤n) (H:HS g h (IntC x v l bad mt s err fin left nx::R)) (hl:s.out.length≤16) :
  t_w n 48 [.ptr x 0] h λr h'=>∃p,r=.ptr p 0∧HS g h' (SlaC p s.out::IntC x v l bad mt s err fin left nx::R):=by
 refine t_e1 (S:=S48) rfl omQ λk hk=>?_;unfold S48;try simp only[iZ]
 obtain⟨c,mv,ov,o,H⟩:=IntC.E H;unfold vL at H;refine qq (qQ (qG ‹_› .here rfl ?_));refine qW (qKl omQ (H.sel (P:=SlaC o s.out) e_3) hl) ?_;rintro _ h2 ⟨p,rfl,H2⟩;refine qY ⟨p,rfl,?_⟩;exact HS.unsel e_1 (IntC.I (c:=c) (mv:=mv) (ov:=ov) (o:=o) (R:=SlaC p s.out::R) (H2.sub (.cons e_2 (.cons e_2 (.cons e_2 (.cons e_1 (.cons e_1 .refl)))))))
theorem Va {n:Nat} (hn:1≤n) {b off:Int} (hb:0≤b∧b<18446744073709551616) (ho:0≤off∧off≤100):t_w n 158 [.int .u64 b,.int .i64 off] h λr h'=>r=.tup [.int .i64 (yK b off).1,.int .i64 (yK b off).2]∧h'=h:=by
 refine t_e2 (S:=S158) rfl omQ λk hk=>?_;unfold S158;try simp only[iZ]
 unfold yK;by_cases h1:2147483648≤b
 ·rw[iJ (.inl h1)];refine zz omQ ?_;refine qV ?_;(try dsimp only);refine qf ?_;(try dsimp only);refine qC (qV ?_);(try dsimp only);refine qf ?_;(try dsimp only);refine qC (qX ?_)
  exact qY ⟨rfl,rfl⟩
 ·refine zB omQ ?_;refine qV ?_;(try dsimp only);refine qa ?_;(try dsimp only);refine z7 omQ ?_;refine qU omQ ?_
  by_cases h2:2147483648≤b+off
  ·rw[iJ (.inr (.inl h2))];refine zz omQ ?_;refine qF (qV ?_);(try dsimp only);refine qf ?_;(try dsimp only);refine qC (qX ?_)
   exact qY ⟨rfl,rfl⟩
  ·refine zB omQ ?_;refine qF (qV ?_);(try dsimp only);refine qa ?_;(try dsimp only);refine z7 omQ ?_;refine qU omQ ?_
   by_cases h3:b+off<6
   ·rw[iJ (.inr (.inr h3))];refine zq omQ ?_;refine qF (qX ?_);exact qY ⟨rfl,rfl⟩
   ·rw[iQ omQ];refine jo omQ ?_;refine qF (qJ (z7 omQ ?_));refine qU omQ ?_;exact qY ⟨rfl,rfl⟩
theorem qYB {most:Nat} {lv:List LvM} {p z:Int} (h:¬(vk most lv p z).1=0):(vk most lv p z).2=lv:=by
 cases lv with
 |nil=>rfl
 |cons y r=>
  unfold vk at h ⊢;dsimp only at h ⊢
  split
  ·rfl
  ·rename_i h1;rw[iQ h1]at h
   split
   ·rfl
   ·rename_i h2;rw[iQ h2]at h;exact absurd rfl h
theorem qX3 {n:Nat} (hn:6≤n) {v:Nat} {M:VM} {p z:Int} (H:HS g h (ViewC v M::R)) (O:OkV M) :
  t_w n 160 [.ptr v 0,.int .i64 p,.int .u64 z] h λr h'=>r=.int .i64 (jr M [(p,z)]).1∧HS g h' (ViewC v (jr M [(p,z)]).2::R):=by
 refine t_e3 (S:=S160) rfl omQ λk hk=>?_;unfold S160;try simp only[iZ]
 refine qW (My omQ H) ?_;rintro _ _ ⟨rfl,rfl⟩;by_cases hp:1≤p∧p<M.sz
 ·rw[iG hp];obtain⟨fv,ov,q,e,H⟩:=ViewC.E H;refine qu (qJ (qq (qQ (qG ‹_› .here rfl ?_))));refine qW (qQ0 omQ (H.sel (P:=LgC q M.most M.lv) e_3) O.lvs) ?_;rintro _ h2 ⟨rfl,H2⟩;have e2:jr M [(p,z)]=((vk M.most M.lv p z).1,{ M with lv:=(vk M.most M.lv p z).2 }):=by
   unfold jr;rw[iJ (by intro c hc;rw[List.mem_singleton]at hc;subst hc;exact hp),vw]
   split
   ·rename_i h0;rw[h0];rfl
   ·rename_i h0;have hx:=qYB h0;rw[hx]
  rw[e2];exact qY ⟨rfl,ViewC.I (M:={ M with lv:=(vk M.most M.lv p z).2 }) (fv:=fv) (ov:=ov) (q:=q) (e:=e) (H2.sub (.cons e_1 (.cons e_1 (.cons e_1 (.refl)))))⟩
 ·rw[iV hp];have e2:jr M [(p,z)]=(2,M):=by
   unfold jr;rw[iQ (λhh=>hp (hh (p,z) (List.mem_singleton_self _)))]
  rw[e2];refine jQ (qX ?_);exact qY ⟨rfl,H⟩
end
end Go.Proofs.YtnalffoigcmnnaaGreatDoor
namespace Go.Proofs.YtnalffoigcmnnaaGreatDoor
open Go Go.Ae
set_option maxRecDepth 100000
variable {g h:AH} {L R:List SP}
section
variable {x v:Nat} {l:List qS} {bad:Int} {mt:List Int} {s:IM} {err fin left nx:Int}
theorem qVS (o:List PtM):(o.reverse.flatMap yj).length=o.length*11:=by rw[wo (sz:=11) _ (λ_=>rfl),List.length_reverse]
theorem qGU (p:PtM):ql (yj p)=true:=rfl
theorem UR (p:PtM) (o:List PtM):(p::o).reverse.flatMap yj=o.reverse.flatMap yj++yj p:=by rw[List.reverse_cons,List.flatMap_append];simp
theorem JP {n:Nat} (hn:1≤n) {p:PtM} {o:List PtM} (ho:s.opn=p::o) (hlo:o.length≤100) (H:HS g h (IntC x v l bad mt s err fin left nx::R)) :
  t_w n 164 [.ptr x 0] h λr h'=>r=.agg (yj p)∧HS g h' (IntC x v l bad mt { s with opn:=o } err fin left nx::R):=by
 refine t_e1 (S:=S164) rfl omQ λk hk=>?_;unfold S164;try simp only[iZ]
 obtain⟨c,mv,ov,q,H⟩:=IntC.E H;rw[ho,UR,List.length_cons]at H;have hol:=qVS o;generalize hA:o.reverse.flatMap yj=A at*;unfold vL at H;refine qM H rfl λb0 h1 H1=>?_;clear H;refine qq (qQ (qG ‹_› e_1 rfl ?_));refine qq (qQ (qG ‹_› e_1 rfl ?_));refine qs ‹_› e_5 ?_;refine jM omQ ?_;rw[show((o.length+1:Nat):Int)-((1:Nat):Int)=(o.length:Int) by omega]
 refine zf (l:=yj p) (H1.sl e_5) (i:=o.length) omQ omQ (by
  rw[List.drop_append_of_le_length omQ,List.drop_of_length_le omQ,List.nil_append];rfl) ?_
 refine qM H1 rfl λb2 h3 H3=>qc H3 .here rfl (by show 0+11≤11;omega) rfl λh4 H4=>?_
 have H5:HS g h4 (qk b2 (yj p)::qk b0 [.int .i64 ((0:Nat):Int),.int .i64 ((0:Nat):Int),.int .u64 ((0:Nat):Int),.int .u64 ((0:Nat):Int),.int .u64 ((0:Nat):Int),.int .u64 ((0:Nat):Int),.int .u64 ((0:Nat):Int),.int .u64 ((0:Nat):Int),.int .u64 ((0:Nat):Int),.int .u64 ((0:Nat):Int),.int .i64 ((0:Nat):Int)]::
  qk x (vL c mv ov v q bad err fin left nx s.pc s.regs)::qD 74 5 l.length c (l.flatMap q8)::qD 3 1 mt.length mv (mt.map (.int .i64))::SlaC q s.out::
  qD 236 11 (o.length+1) ov (A++yj p)::R):=H4
 clear H1 H3 H4;unfold vL at H5;refine qq (qQ (qG ‹_› e_2 rfl ?_));refine qq (qQ (qG ‹_› e_2 rfl ?_));refine qs ‹_› e_6 ?_;refine jM omQ ?_;rw[show((o.length+1:Nat):Int)-((1:Nat):Int)=(o.length:Int) by omega];refine Ja (hi:=o.length) (H5.sel e_6) omQ omQ λv6 H6=>?_;rw[List.take_append_of_le_length omQ,List.take_of_length_le omQ]at H6;have o6:=H6.one .here;clear H5;refine qq (qQ (qH H6 (b:=x) e_3 o6 osQ λh7 H7=>?_));refine qE H7 (b:=b2) (off:=0) e_2 rfl omQ (l:=yj p) rfl ?_;refine qc H7 (b:=b0) e_3 rfl (by show 0+11≤11;omega) rfl λh8 H8=>?_
 have H8:HS g h8 (qk b0 (yj p)::qk x (vL c mv v6 v q bad err fin left nx s.pc s.regs)::qD 236 11 o.length v6 A::qk b2 (yj p)::
  qD 74 5 l.length c (l.flatMap q8)::qD 3 1 mt.length mv (mt.map (.int .i64))::SlaC q s.out::R):=H8
 refine qE H8 (b:=b0) (off:=0) .here rfl omQ (l:=yj p) rfl ?_;refine qY ⟨rfl,IntC.I (s:={ s with opn:=o }) (c:=c) (mv:=mv) (ov:=v6) (o:=q) ?_⟩
 show HS g h8 (qk x (vL c mv v6 v q bad err fin left nx s.pc s.regs)::qD 74 5 l.length c (l.flatMap q8)::qD 3 1 mt.length mv (mt.map (.int .i64))::SlaC q s.out::
  qD 236 11 o.length v6 (o.reverse.flatMap yj)::R)
 rw[hA];exact H8.sub (.cons e_1 (.cons e_3 (.cons e_3 (.cons e_3 (.cons e_1 (.drop (.drop .refl)))))))
theorem Mh {n:Nat} (hn:3≤n) {p:PtM} (ht:p.told≤s.out.length) (hl:s.out.length≤16) (H:HS g h (IntC x v l bad mt s err fin left nx::R)) :
  t_w n 166 [.ptr x 0,.agg (yj p)] h λ_ h'=>HS g h' (IntC x v l bad mt (kz s p) err fin left nx::R):=by
 refine t_e2 (S:=S166) rfl omQ λk hk=>?_;unfold S166;try simp only[iZ]
 refine qM H (qGU p) λb0 h1 H1=>?_;obtain⟨c,mv,ov,q,H2⟩:=IntC.E (H1.sel (P:=IntC x v l bad mt s err fin left nx) e_1);clear H H1;refine qQ (qE H2 (b:=b0) (off:=2) e_5 rfl omQ (l:=qxH p.regs) rfl ?_);refine qq (qQ ?_);refine qc H2 (b:=x) .here rfl (by show 6+8≤19;omega) rfl λh3 H3=>?_
 have H3:HS g h3 (qk x (vL c mv ov v q bad err fin left nx s.pc p.regs)::qD 74 5 l.length c (l.flatMap q8)::qD 3 1 mt.length mv (mt.map (.int .i64))::SlaC q s.out::
  qD 236 11 s.opn.length ov (s.opn.reverse.flatMap yj)::qk b0 (yj p)::R):=H3
 clear H2;have H4:=H3;unfold vL yj at H4;refine qq (qQ (qG ‹_› .here rfl ?_));refine qQ (qG ‹_› e_5 rfl ?_);refine qW (qYU omQ (H3.sel (P:=SlaC q s.out) e_3) hl ht) ?_;intro _ h5 H5;clear H4 H3;exact qY (IntC.I (s:=kz s p) (c:=c) (mv:=mv) (ov:=ov) (o:=q) (H5.sub (.cons e_1 (.cons e_1 (.cons e_1 (.cons .here (.cons .here (.drop .refl))))))))
theorem Us {n:Nat} (hn:5≤n) {op at_ nx0:Int} {V:VM} (O:OkV V) (hlo:s.opn.length≤100) (H:HS g h (IntC x v l bad mt s err fin left nx::ViewC v V::R)) :
  t_w n 163 [.ptr x 0,.int .i64 op,.int .i64 at_] h λr h'=>r=.int .i64 (j4 op at_ nx0 s V).e∧HS g h' (IntC x v l bad mt (j4 op at_ nx0 s V).s err fin left nx::ViewC v (j4 op at_ nx0 s V).v::R):=by
 refine t_e3 (S:=S163) rfl omQ λk hk=>?_;unfold S163;try simp only[iZ]
 obtain⟨c,mv,ov,q,H⟩:=IntC.E H;unfold vL at H;refine qq (qQ (qG ‹_› .here rfl ?_));refine qW (qKR omQ (H.sel (P:=ViewC v V) e_5) O) ?_;rintro _ h2 ⟨rfl,H2⟩
 have H2:HS g h2 (ViewC v (yg V).2::qk x (vL c mv ov v q bad err fin left nx s.pc s.regs)::qD 74 5 l.length c (l.flatMap q8)::qD 3 1 mt.length mv (mt.map (.int .i64))::SlaC q s.out::
  qD 236 11 s.opn.length ov (s.opn.reverse.flatMap yj)::R):=H2
 clear H;unfold j4;by_cases h0:(yg V).1=0
 ·rw[iJ h0];refine jk h0 (qJ ?_);have H3:=H2;unfold vL at H3;refine qV ?_
  try dsimp only
  refine qq (qQ ?_);refine qG H2 (b:=x) e_1 rfl ?_;refine qq (qQ ?_);refine qE H2 (b:=x) (off:=6) e_1 rfl omQ (l:=qxH s.regs) rfl ?_;refine qq (qQ ?_);refine qG H2 (b:=x) e_1 rfl ?_;refine qW (qqF omQ (H2.sel (P:=SlaC q s.out) e_4)) ?_;rintro _ _ ⟨rfl,rfl⟩;refine qI (l:=yj ⟨op,at_,s.regs,s.out.length⟩) rfl ?_;refine qr (n:=1) (l:=yj ⟨op,at_,s.regs,s.out.length⟩) (sz:=11) H2 rfl rfl rfl rfl λv4 h4 H4=>?_;refine zT (H4.sel e_6) (H4.sl .here) omQ omQ rfl λv5 h5 H5=>?_;have o5:=H5.one .here;refine qq (qQ ?_);refine qH H5 (b:=x) e_3 o5 (by show 18<19;omega) λh6 H6=>?_;refine zb H2 (b:=x) e_1 rfl H2 e_1 rfl rfl omQ (HS.lt H2 e_1) ?_;refine qp H2 (b:=x) e_1 rfl H2 e_1 rfl (HS.lt H2 e_1) ?_;refine qY ⟨rfl,IntC.I (s:={ s with opn:=⟨op,at_,s.regs,s.out.length⟩::s.opn }) (c:=c) (mv:=mv) (ov:=v5) (o:=q) ?_⟩
  show HS g h6 (qk x (vL c mv v5 v q bad err fin left nx s.pc s.regs)::qD 74 5 l.length c (l.flatMap q8)::qD 3 1 mt.length mv (mt.map (.int .i64))::SlaC q s.out::
   qD 236 11 (s.opn.length+1) v5 ((⟨op,at_,s.regs,s.out.length⟩::s.opn).reverse.flatMap yj)::ViewC v (yg V).2::R)
  rw[UR];exact H6.sub (.cons .here (.cons e_3 (.cons e_3 (.cons e_3 (.cons .here (.drop .refl))))))
 ·rw[iQ h0];refine jq h0 (qX ?_);exact qY ⟨rfl,IntC.I (s:=s) (c:=c) (mv:=mv) (ov:=ov) (o:=q) (H2.sub (.cons e_1 (.cons e_1 (.cons e_1 (.cons e_1 (.cons e_1 .refl))))))⟩
end
end Go.Proofs.YtnalffoigcmnnaaGreatDoor
namespace Go.Proofs.YtnalffoigcmnnaaGreatDoor
open Go Go.Ae
set_option maxRecDepth 100000
variable {g h:AH} {L R:List SP}
section
variable {x v:Nat} {l:List qS} {bad:Int} {mt:List Int} {s:IM} {err fin left nx:Int}
def MtAt (mt:List Int) (p:Int):Prop:=∃k:Nat,p=k∧∃z:Int,mt[k]? =some z∧ -1≤z∧z≤1000
theorem MtAt.num {mt:List Int} {p z:Int} {k:Nat} (h1:p=k) (h2:mt[k]? =some z):qB mt p=z:=by unfold qB;rw[h1,Int.toNat_natCast,h2];rfl
theorem MtAt.idx {mt:List Int} {k:Nat} {z:Int} (h:mt[k]? =some z):(mt.map (AV.int .i64))[k]? =some (.int .i64 z)∧k<mt.length:=by refine⟨by rw[List.getElem?_map,h];rfl,(List.getElem?_eq_some_iff.1 h).1⟩
theorem qXT {n:Nat} (hn:8≤n) {V:VM} (G:jX V) (hlo:s.opn.length≤100) (hout:s.out.length≤16) (told:ToldD s.out.length s.opn) (hm:∀p∈s.opn,p.op=17→MtAt mt p.pc) (hpc:0≤s.pc∧s.pc≤100)
  (H:HS g h (IntC x v l bad mt s err 0 left (s.pc+1)::ViewC v V::R)) :
  t_w n 168 [.ptr x 0] h λr h'=>r=.int .i64 (yx mt s.opn s V).e∧
   HS g h' (IntC x v l bad mt (yx mt s.opn s V).s err (if(yx mt s.opn s V).blk=true then 3 else 0) left (yx mt s.opn s V).nx::ViewC v (yx mt s.opn s V).v::R):=by
 refine t_e1 (S:=S168) rfl omQ λk hk=>?_;unfold S168;try simp only[iZ]
 generalize hD:yx mt s.opn s V=D;have hs:s={ s with opn:=s.opn }:=rfl;refine jP (λm st h'=>∃(o:List PtM) (V':VM),st=(.ptr x 0,())∧m=o.length∧o.length≤100∧HS g h' (IntC x v l bad mt { s with opn:=o } err 0 left (s.pc+1)::ViewC v V'::R)∧jX V'∧ToldD s.out.length o∧(∀p∈o,p.op=17→MtAt mt p.pc)∧yx mt o s V'=D)
  ?_ (m:=s.opn.length) (by show _<1000000000;omega) ⟨s.opn,V,rfl,rfl,hlo,H,G,told,hm,hD⟩
 clear H G told hm hD hlo hs;rintro m ih st h2 hih ⟨o,V,rfl,rfl,hlo,H,G,told,hm,hD⟩;dsimp only;obtain⟨c,mv,ov,q,H1⟩:=IntC.E H
 have H1:HS g h2 (qk x (vL c mv ov v q bad err 0 left (s.pc+1) s.pc s.regs)::qD 74 5 l.length c (l.flatMap q8)::qD 3 1 mt.length mv (mt.map (.int .i64))::SlaC q s.out::
  qD 236 11 o.length ov (o.reverse.flatMap yj)::ViewC v V::R):=H1
 refine qq (qQ (qG H1 (b:=x) .here rfl ?_));refine qs H1 e_4 ?_;cases o with
 |nil=>refine xc osQ (qJ ?_);refine qq (qQ (qG H1 (b:=x) .here rfl ?_));refine qq (qQ ?_);refine qH H1 (b:=x) .here ⟨rfl,rfl⟩ (by show 16<19;omega) λh3 H3=>?_;refine qq (qQ ?_);refine qH H3 (b:=x) .here ⟨rfl,rfl⟩ (by show 5<19;omega) λh4 H4=>?_;subst hD;exact qx (qY ⟨rfl,IntC.I (s:={ s with opn:=[] }) (c:=c) (mv:=mv) (ov:=ov) (o:=q) H4⟩)
 |cons p o=>
  refine xn (by rw[List.length_cons];omega) (qX ?_);refine qW (JP (s:={ s with opn:=p::o }) (p:=p) (o:=o) omQ rfl (by simp at hlo;omega) H) ?_;rintro _ h3 ⟨rfl,H3⟩;clear H H1;refine qM H3 rfl λb h4 H4=>qc H4 .here rfl (by show 0+11≤11;omega) rfl λh5 H5=>?_;have H5:HS g h5 (qk b (yj p)::IntC x v l bad mt { s with opn:=o } err 0 left (s.pc+1)::ViewC v V::R):=H5;clear H3 H4;obtain⟨c,mv,ov,q,H6⟩:=IntC.E (H5.sel (P:=IntC x v l bad mt { s with opn:=o } err 0 left (s.pc+1)) e_1)
  have H6:HS g h5 (qk x (vL c mv ov v q bad err 0 left (s.pc+1) s.pc s.regs)::qD 74 5 l.length c (l.flatMap q8)::qD 3 1 mt.length mv (mt.map (.int .i64))::SlaC q s.out::
   qD 236 11 o.length ov (o.reverse.flatMap yj)::qk b (yj p)::ViewC v V::R):=H6
  refine qq (qQ (qG H6 (b:=x) .here rfl ?_));clear H6;refine qW (NP omQ (H5.sel (P:=ViewC v V) e_2) G.ok) ?_;rintro _ h6 ⟨rfl,H6⟩;have GD:=G.dropG;clear H5;unfold yx at hD;by_cases h0:(xY V).1=0
  ·rw[iJ h0]at hD;refine jk h0 (qJ ?_);refine qQ (qG H6 (b:=b) e_1 rfl ?_);by_cases h17:p.op=17
   ·rw[iJ h17]at hD;refine qz h17 (qX ?_);refine qE H6 (b:=b) (off:=0) e_1 rfl omQ (l:=yj p) rfl ?_;have H7:=H6.sub (L':=IntC x v l bad mt { s with opn:=o } err 0 left (s.pc+1)::ViewC v (xY V).2::qk b (yj p)::R) (.cons e_2 (.cons .here (.cons .here .refl)));refine qW (Mh (s:={ s with opn:=o }) (p:=p) omQ told.1 hout H7) ?_;intro _ h8 H8;clear H6 H7;obtain⟨c,mv,ov,q,H9⟩:=IntC.E H8
    have H9:HS g h8 (qk x (vL c mv ov v q bad err 0 left (s.pc+1) s.pc p.regs)::qD 74 5 l.length c (l.flatMap q8)::qD 3 1 mt.length mv (mt.map (.int .i64))::SlaC q (s.out.take p.told)::
     qD 236 11 o.length ov (o.reverse.flatMap yj)::ViewC v (xY V).2::qk b (yj p)::R):=H9
    clear H8;obtain⟨kk,hk1,z,hk2,hk3,hk4⟩:=hm p (iK ..) h17;rw[MtAt.num hk1 hk2]at hD;refine qq (qQ (qG H9 (b:=x) .here rfl ?_));refine qQ (qG H9 (b:=b) e_6 rfl ?_);rw[hk1];refine jA (H9.sl e_2) (MtAt.idx hk2).1 ?_;refine qU omQ ?_;refine qq (qQ ?_);refine qH H9 (b:=x) .here ⟨rfl,rfl⟩ (by show 16<19;omega) λh10 H10=>?_;have H11:HS g h10 (IntC x v l bad mt { kz s p with opn:=o } err 0 left (z+1)::ViewC v (xY V).2::qk b (yj p)::R):=IntC.I (s:={ kz s p with opn:=o }) (c:=c) (mv:=mv) (ov:=ov) (o:=q) H10;clear H9 H10;refine qW (Us (s:={ kz s p with opn:=o }) (nx0:=z+1) omQ GD.1.ok (by simp at hlo;show o.length≤100;omega) H11) ?_;rintro _ h12 ⟨rfl,H12⟩;subst hD;have hb:(j4 18 z (z+1) { kz s p with opn:=o } (xY V).2).blk=false∧(j4 18 z (z+1) { kz s p with opn:=o } (xY V).2).nx=z+1:=by unfold j4;split<;>exact⟨rfl,rfl⟩
    refine qx (qY ⟨rfl,?_⟩);rw[hb.1,hb.2];exact H12.sub (.cons .here (.cons .here (.drop .refl)))
   ·rw[iQ h17]at hD;refine qZ h17 (qJ ?_);exact hih o.length _ _ osQ ⟨o,(xY V).2,rfl,rfl,by simp at hlo;omega,H6.sub (.cons e_2 (.cons .here (.drop .refl))),GD.1,told.tail,λr hr=>hm r (iX _ hr),hD⟩
  ·rw[iQ h0]at hD;refine jq h0 (qX ?_);subst hD;exact qx (qY ⟨rfl,H6.sub (.cons e_2 (.cons .here (.drop .refl)))⟩)
theorem qYP {n:Nat} (hn:9≤n) {V:VM} {i:qS} (G:jX V) (hlo:s.opn.length≤100) (hout:s.out.length≤16) (told:ToldD s.out.length s.opn) (hm:∀p∈s.opn,p.op=17→MtAt mt p.pc) (hpc:0≤s.pc∧s.pc≤100)
  (hne:i.1=15∨i.1=19∨i.1=18∨i.1=16→s.opn≠[]) (hmt:i.1=18∨i.1=16→MtAt mt s.pc) (H:HS g h (IntC x v l bad mt s err 0 left (s.pc+1)::ViewC v V::R)) :
  t_w n 115 [.ptr x 0,.agg (q8 i)] h λr h'=>r=.int .i64 (gV mt s V i.1).e∧
   HS g h' (IntC x v l bad mt (gV mt s V i.1).s err (if(gV mt s V i.1).blk=true then 3 else 0) left (gV mt s V i.1).nx::ViewC v (gV mt s V i.1).v::R):=by
 refine t_e2 (S:=S115) rfl omQ λk hk=>?_;unfold S115;try simp only[iZ]
 refine qM H rfl λb h1 H1=>?_;clear H;have H1:HS g h1 (qk b (q8 i)::IntC x v l bad mt s err 0 left (s.pc+1)::ViewC v V::R):=H1;refine qQ (qG H1 (b:=b) .here rfl ?_);refine qV ?_
 try dsimp only
 unfold gV;have HB:=H1.sub (L':=IntC x v l bad mt s err 0 left (s.pc+1)::ViewC v V::qk b (q8 i)::R) (.cons e_1 (.cons e_1 (.cons .here .refl)));by_cases c1:i.1=14∨i.1=17
 ·rw[iJ c1]
  have key:wp (qh (.ptr b 0) 0 λv8=>jK h1 v8 λv9=>xv (.ptr x 0) λv10=>qh v10 15 λv11=>jK h1 v11 λv12=>
    jw (callT tab qj k) (.fn 163 [] []) [.ptr x 0,v9,v12] h1 λv13 h14=>zw [] h14 λh15=>some (v13,h15)) λr h'=>r=.int .i64 (j4 i.1 s.pc (s.pc+1) s V).e∧
   HS g h' (IntC x v l bad mt (j4 i.1 s.pc (s.pc+1) s V).s err (if(j4 i.1 s.pc (s.pc+1) s V).blk=true then 3 else 0) left (j4 i.1 s.pc (s.pc+1) s V).nx::ViewC v (j4 i.1 s.pc (s.pc+1) s V).v::R):=by
   refine qQ (qG H1 (b:=b) .here rfl ?_);obtain⟨c,mv,ov,q,H2⟩:=IntC.E HB;refine qq (qQ (qG H2 (b:=x) .here rfl ?_));refine qW (Us (nx0:=s.pc+1) omQ G.ok hlo HB) ?_;rintro _ h12 ⟨rfl,H12⟩;have hb:(j4 i.1 s.pc (s.pc+1) s V).blk=false∧(j4 i.1 s.pc (s.pc+1) s V).nx=s.pc+1:=by unfold j4;split<;>exact⟨rfl,rfl⟩
   refine qx (qY ⟨rfl,?_⟩);rw[hb.1,hb.2];exact H12.sub (.cons .here (.cons .here (.drop .refl)))
  by_cases c2:i.1=14
  ·refine qz c2 (qX (qX ?_));exact key
  ·refine qZ c2 (qJ ?_);refine qz omQ (qX ?_);exact key
 ·rw[iQ c1];refine qZ omQ (qJ ?_);refine qZ omQ (qJ ?_);refine qV ?_
  try dsimp only
  by_cases c3:i.1=15∨i.1=19
  ·rw[iJ c3]
   have key:wp (jw (callT tab qj k) (.fn 164 [] []) [.ptr x 0] h1 λ_ h21=>xv (.ptr x 0) λv22=>qh v22 1 λv23=>jK h21 v23 λv24=>
     jw (callT tab qj k) (.fn 165 [] []) [v24] h21 λv25 h26=>zw [] h26 λh27=>some (v25,h27)) λr h'=>r=.int .i64 (yh V).1∧
    HS g h' (IntC x v l bad mt { s with opn:=s.opn.tail } err (if false=true then 3 else 0) left (s.pc+1)::ViewC v (yh V).2::R):=by
    obtain⟨p,o,ho⟩:∃p o,s.opn=p::o:=List.exists_cons_of_ne_nil (hne omQ);refine qW (JP (p:=p) (o:=o) omQ ho (by rw[ho]at hlo;simp at hlo;omega) HB) ?_;rintro _ h3 ⟨-,H3⟩;obtain⟨c,mv,ov,q,H4⟩:=IntC.E H3;refine qq (qQ (qG H4 (b:=x) .here rfl ?_));refine qW (Nu omQ (H3.sel (P:=ViewC v V) e_1) G.ok) ?_;rintro _ h5 ⟨rfl,H5⟩;refine qx (qY ⟨rfl,?_⟩);rw[ho];exact H5.sub (.cons e_1 (.cons .here (.drop .refl)))
   by_cases c4:i.1=15
   ·refine qz c4 (qX (qX ?_));exact key
   ·refine qZ c4 (qJ ?_);refine qz omQ (qX ?_);exact key
  ·rw[iQ c3];refine qZ omQ (qJ ?_);refine qZ omQ (qJ ?_);by_cases c5:i.1=18
   ·rw[iJ c5];refine qz c5 (qX ?_);obtain⟨p,o,ho⟩:∃p o,s.opn=p::o:=List.exists_cons_of_ne_nil (hne omQ);refine qW (JP (p:=p) (o:=o) omQ ho (by rw[ho]at hlo;simp at hlo;omega) HB) ?_;rintro _ h3 ⟨-,H3⟩;obtain⟨c,mv,ov,q,H4⟩:=IntC.E H3
    have H4:HS g h3 (qk x (vL c mv ov v q bad err 0 left (s.pc+1) s.pc s.regs)::qD 74 5 l.length c (l.flatMap q8)::qD 3 1 mt.length mv (mt.map (.int .i64))::SlaC q s.out::
     qD 236 11 o.length ov (o.reverse.flatMap yj)::ViewC v V::qk b (q8 i)::R):=H4
    obtain⟨kk,hk1,z,hk2,hk3,hk4⟩:=hmt (.inl c5);rw[MtAt.num hk1 hk2,ho];refine qq (qQ (qG H4 (b:=x) .here rfl ?_));refine qq (qQ (qG H4 (b:=x) .here rfl ?_));rw[hk1];refine jA (H4.sl e_2) (MtAt.idx hk2).1 ?_;refine qU omQ ?_;refine qq (qQ ?_);rw[← hk1];refine qH H4 (b:=x) .here ⟨rfl,rfl⟩ (by show 16<19;omega) λh10 H10=>?_;refine qq (qQ (qG H10 (b:=x) .here rfl ?_));have H11:HS g h10 (IntC x v l bad mt { s with opn:=o } err 0 left (z+1)::ViewC v V::qk b (q8 i)::R):=IntC.I (s:={ s with opn:=o }) (c:=c) (mv:=mv) (ov:=ov) (o:=q) H10;refine qW (Nu omQ (H11.sel (P:=ViewC v V) e_1) G.ok) ?_;rintro _ h5 ⟨rfl,H5⟩;exact qx (qY ⟨rfl,H5.sub (.cons e_1 (.cons .here (.drop .refl)))⟩)
   ·rw[iQ c5];refine qZ c5 (qJ ?_);by_cases c6:i.1=16
    ·rw[iJ c6];refine qz c6 (qX ?_);obtain⟨p,o,ho⟩:∃p o,s.opn=p::o:=List.exists_cons_of_ne_nil (hne omQ);refine qW (JP (p:=p) (o:=o) omQ ho (by rw[ho]at hlo;simp at hlo;omega) HB) ?_;rintro _ h3 ⟨rfl,H3⟩;rw[ho]at told;refine qW (Mh (s:={ s with opn:=o }) (p:=p) omQ told.1 hout H3) ?_;intro _ h4 H4';obtain⟨c,mv,ov,q,H4⟩:=IntC.E H4'
     have H4:HS g h4 (qk x (vL c mv ov v q bad err 0 left (s.pc+1) s.pc p.regs)::qD 74 5 l.length c (l.flatMap q8)::qD 3 1 mt.length mv (mt.map (.int .i64))::SlaC q (s.out.take p.told)::
      qD 236 11 o.length ov (o.reverse.flatMap yj)::ViewC v V::qk b (q8 i)::R):=H4
     obtain⟨kk,hk1,z,hk2,hk3,hk4⟩:=hmt (.inr c6);rw[MtAt.num hk1 hk2,ho];refine qq (qQ (qG H4 (b:=x) .here rfl ?_));refine qq (qQ (qG H4 (b:=x) .here rfl ?_));rw[hk1];refine jA (H4.sl e_2) (MtAt.idx hk2).1 ?_;refine qU omQ ?_;refine qq (qQ ?_);refine qH H4 (b:=x) .here ⟨rfl,rfl⟩ (by show 16<19;omega) λh10 H10=>?_;refine qq (qQ (qG H10 (b:=x) .here rfl ?_));have H11:HS g h10 (IntC x v l bad mt { kz s p with opn:=o } err 0 left (z+1)::ViewC v V::qk b (q8 i)::R):=IntC.I (s:={ kz s p with opn:=o }) (c:=c) (mv:=mv) (ov:=ov) (o:=q) H10;refine qW (NP omQ (H11.sel (P:=ViewC v V) e_1) G.ok) ?_;rintro _ h5 ⟨rfl,H5⟩;exact qx (qY ⟨rfl,H5.sub (.cons e_1 (.cons .here (.drop .refl)))⟩)
    ·rw[iQ c6];refine qZ c6 (qJ ?_);refine qW (qXT omQ G hlo hout told hm hpc HB) ?_;rintro _ h3 ⟨rfl,H3⟩;exact qx (qY ⟨rfl,H3.sub (.cons .here (.cons .here (.drop .refl)))⟩)
end
end Go.Proofs.YtnalffoigcmnnaaGreatDoor
namespace Go.Proofs.YtnalffoigcmnnaaGreatDoor
open Go Go.Ae
set_option maxRecDepth 100000
variable {g h:AH} {L R:List SP}
section
variable {x v:Nat} {l:List qS} {bad:Int} {mt:List Int} {s:IM} {err fin left nx:Int}
theorem Za {c mv ov:AV} {q a:Nat} {z:Int} {ai:Int} (hr:s.regs.length=8) (ha:a<8) (hai:ai=a)
  (H:HS g h (qk x ((vL c mv ov v q bad err fin left nx s.pc s.regs).set (6+a*1) (.int .u64 z))::qD 74 5 l.length c (l.flatMap q8)::qD 3 1 mt.length mv (mt.map (.int .i64))::SlaC q s.out::
  qD 236 11 s.opn.length ov (s.opn.reverse.flatMap yj)::R)):HS g h (IntC x v l bad mt (setR s ai z) err fin left nx::R):=by
 rw[qqf hr ha]at H;have e:s.regs.set a z=(setR s ai z).regs:=by unfold setR;rw[hai,Int.toNat_natCast]
 rw[e]at H;exact IntC.I (s:=setR s ai z) H
theorem qZ5 {n:Nat} (hn:12≤n) {V:VM} {i:qS} {a:Nat} (G:jX V) (ro:QB s.regs) (hop:i.1=8∨i.1=9∨i.1=10∨i.1=11) (ha:a<8) (hai:i.2.1=a) (hc:0≤i.2.2.2.1∧i.2.2.2.1≤100)
  (H:HS g h (IntC x v l bad mt s err fin left nx::ViewC v V::R)) :
  t_w n 114 [.ptr x 0,.agg (q8 i),.ptr x (6+a*1),.int .u64 (qB s.regs i.2.2.1)] h λr h'=>r=.int .i64 (jB s V i).1∧
   HS g h' (IntC x v l bad mt (jB s V i).2.1 err fin left nx::ViewC v (jB s V i).2.2::R):=by
 refine t_e4 (S:=S114) rfl omQ λk hk=>?_;unfold S114;try simp only[iZ]
 refine qM H rfl λb h1 H1=>?_;clear H;have H1:HS g h1 (qk b (q8 i)::IntC x v l bad mt s err fin left nx::ViewC v V::R):=H1;have HB:=H1.sub (L':=IntC x v l bad mt s err fin left nx::ViewC v V::qk b (q8 i)::R) (.cons e_1 (.cons e_1 (.cons .here .refl)));obtain⟨c,mv,ov,q,H2⟩:=IntC.E HB;refine qQ (qG H1 (b:=b) .here rfl ?_);have hra:=ro.at (a:Int);have hrb:=ro.at i.2.2.1;unfold jB;rw[hai];by_cases c8:i.1=8
 ·rw[iJ c8];refine qz c8 (qX ?_);refine qQ (qG H1 (b:=b) .here rfl ?_);refine qW (Va omQ hrb hc) ?_;rintro _ _ ⟨rfl,rfl⟩;refine qw rfl (qw rfl ?_);by_cases h0:(yK (qB s.regs i.2.2.1) i.2.2.2.1).2=0
  ·rw[iJ h0];refine jk h0 (qJ ?_);refine qq (qQ (qG H2 (b:=x) .here rfl ?_));refine qW (kp omQ (HB.sel (P:=ViewC v V) e_1) G.ok) ?_;rintro _ h3 ⟨rfl,H3⟩;refine qw rfl (qw rfl ?_);refine qV ?_
   try dsimp only
   by_cases h4:(qb V (yK (qB s.regs i.2.2.1) i.2.2.2.1).1).1.2=0
   ·rw[iJ h4];refine qz h4 (qX ?_);obtain⟨c,mv,ov,q,H5⟩:=IntC.E (H3.sel (P:=IntC x v l bad mt s err fin left nx) e_1);refine qq (qH H5 (b:=x) .here ⟨rfl,rfl⟩ (by show 6+a*1<19;omega) λh6 H6=>?_);refine qx (qY ⟨by rw[h4],?_⟩);exact(Za ro.len ha rfl H6).sub (.cons .here (.cons .here (.drop .refl)))
   ·rw[iQ h4];refine qZ h4 (qJ ?_);exact qx (qY ⟨rfl,H3.sub (.cons e_1 (.cons .here (.drop .refl)))⟩)
  ·rw[iQ h0];refine jq h0 (qX ?_);refine qY ⟨?_,HB.sub (.cons .here (.cons .here (.drop .refl)))⟩;unfold yK at h0 ⊢
   split
   ·rfl
   ·rename_i hh;rw[iQ hh]at h0;exact absurd rfl h0
 ·rw[iQ c8];refine qZ c8 (qJ ?_);by_cases c9:i.1=9
  ·rw[iJ c9];refine qz c9 (qX ?_);refine qq (qG H2 (b:=x) .here (Xy ha) ?_);refine qQ (qG H1 (b:=b) .here rfl ?_);refine qW (Va omQ hra hc) ?_;rintro _ _ ⟨rfl,rfl⟩;refine qw rfl (qw rfl ?_);by_cases h0:(yK (qB s.regs (a:Int)) i.2.2.2.1).2=0
   ·rw[iJ h0];refine jk h0 (qJ ?_);refine qq (qQ (qG H2 (b:=x) .here rfl ?_));refine qW (qX3 omQ (HB.sel (P:=ViewC v V) e_1) G.ok) ?_;rintro _ h3 ⟨rfl,H3⟩;exact qY ⟨rfl,H3.sub (.cons e_1 (.cons .here (.drop .refl)))⟩
   ·rw[iQ h0];refine jq h0 (qX ?_);refine qY ⟨?_,HB.sub (.cons .here (.cons .here (.drop .refl)))⟩;unfold yK at h0 ⊢
    split
    ·rfl
    ·rename_i hh;rw[iQ hh]at h0;exact absurd rfl h0
  ·rw[iQ c9];refine qZ c9 (qJ ?_);by_cases c10:i.1=10
   ·rw[iJ c10];refine qz c10 (qX ?_);by_cases h0:2147483648≤qB s.regs i.2.2.1
    ·rw[iJ h0];refine zz omQ (qX ?_);exact qY ⟨rfl,HB.sub (.cons .here (.cons .here (.drop .refl)))⟩
    ·rw[iQ h0];refine zB omQ (qJ ?_);refine qq (qQ (qG H2 (b:=x) .here rfl ?_));refine z7 omQ ?_;refine qW (qXh omQ (HB.sel (P:=ViewC v V) e_1) G.ok G.wd) ?_;rintro _ h3 ⟨rfl,H3⟩;refine qw rfl (qw rfl ?_);refine qV ?_
     try dsimp only
     by_cases h4:(zH V (qB s.regs i.2.2.1)).1.2=0
     ·rw[iJ h4];have hb:=qQu (x:=qB s.regs i.2.2.1) G.wd h4;refine qz h4 (qX ?_);obtain⟨c,mv,ov,q,H5⟩:=IntC.E (H3.sel (P:=IntC x v l bad mt s err fin left nx) e_1);refine xN omQ (qq ?_);refine qH H5 (b:=x) .here ⟨rfl,rfl⟩ (by show 6+a*1<19;omega) λh6 H6=>?_;refine qx (qY ⟨by rw[h4],?_⟩);exact(Za ro.len ha rfl H6).sub (.cons .here (.cons .here (.drop .refl)))
     ·rw[iQ h4];refine qZ h4 (qJ ?_);exact qx (qY ⟨rfl,H3.sub (.cons e_1 (.cons .here (.drop .refl)))⟩)
   ·rw[iQ c10];refine qZ c10 (qJ ?_);refine qq (qG H2 (b:=x) .here (Xy ha) ?_);by_cases h0:2147483648≤qB s.regs (a:Int)
    ·rw[iJ h0];refine zz omQ (qX ?_);exact qY ⟨rfl,HB.sub (.cons .here (.cons .here (.drop .refl)))⟩
    ·rw[iQ h0];refine zB omQ (qJ ?_);refine qq (qQ (qG H2 (b:=x) .here rfl ?_));refine qq (qG H2 (b:=x) .here (Xy ha) ?_);refine z7 omQ ?_;refine qW (qYD omQ (HB.sel (P:=ViewC v V) e_1) G.ok) ?_;rintro _ h3 ⟨rfl,H3⟩;exact qY ⟨rfl,H3.sub (.cons e_1 (.cons .here (.drop .refl)))⟩
structure DoP (l:List qS) (mt:List Int) (s:IM) (V:VM) (i:qS):Prop where
  good:jX V
  regs:QB s.regs
  out:s.out.length≤16
  lo:s.opn.length≤100
  told:ToldD s.out.length s.opn
  ways:∀p∈s.opn,p.op=17→MtAt mt p.pc
  pc:0≤s.pc∧s.pc≤100
  op:1≤i.1∧i.1<23
  a:0≤i.2.1∧i.2.1≤7
  b:0≤i.2.2.1∧i.2.2.1≤7
  c:0≤i.2.2.2.1∧i.2.2.2.1≤100
  c7:3≤i.1∧i.1≤7→i.2.2.2.1≤7
  ne:i.1=15∨i.1=19∨i.1=18∨i.1=16→s.opn≠[]
  mt:i.1=18∨i.1=16→MtAt mt s.pc
theorem qkf {n:Nat} (hn:13≤n) {V:VM} {i:qS} (P:DoP l mt s V i) (H:HS g h (IntC x v l bad mt s err 0 left (s.pc+1)::ViewC v V::R)) :
  t_w n 82 [.ptr x 0,.agg (q8 i)] h λr h'=>r=.int .i64 (doM mt s V i).e∧
   HS g h' (IntC x v l bad mt (doM mt s V i).s err (if(doM mt s V i).blk=true then 3 else 0) left (doM mt s V i).nx::ViewC v (doM mt s V i).v::R):=by
 refine t_e2 (S:=S82) rfl omQ λk hk=>?_;unfold S82;try simp only[iZ]
 refine qM H rfl λb h1 H1=>?_;clear H;have H1:HS g h1 (qk b (q8 i)::IntC x v l bad mt s err 0 left (s.pc+1)::ViewC v V::R):=H1;have HB:=H1.sub (L':=IntC x v l bad mt s err 0 left (s.pc+1)::ViewC v V::qk b (q8 i)::R) (.cons e_1 (.cons e_1 (.cons .here .refl)));obtain⟨c,mv,ov,q,H2⟩:=IntC.E HB;obtain⟨a,ha1,ha2,ha3⟩:=qW6 P.a.1;obtain⟨bb,hb1,hb2,hb3⟩:=qW6 P.b.1;obtain⟨cc,hc1,hc2,hc3⟩:=qW6 P.c.1;have ha3:=ha3 (by have:=P.a.2;omega);have hb3:=hb3 (by have:=P.b.2;omega);have ro:=P.regs;have hop:=P.op;have hc7:=P.c7;refine qQ (qG H1 (b:=b) .here rfl (kM od ?_));rw[ha1];refine qq (qQ (V9 ha2 ?_));refine qQ (qG H1 (b:=b) .here rfl (kM od ?_));rw[hb1];refine qq (qQ (V9 hb2 ?_));refine qG H2 (b:=x) .here (Xy hb2) ?_;refine qQ (qG H1 (b:=b) .here rfl (kM od ?_));rw[hc1];refine qq (qQ (V9 hc2 ?_));refine qG H2 (b:=x) .here (Xy hc2) ?_;refine qQ (qG H1 (b:=b) .here rfl ?_);refine qV ?_
 try dsimp only
 have fin:∀(z:Int) (D:SM) (h0:AH),D=⟨0,s.pc+1,false,setR s i.2.1 z,V⟩→HS g h0 (IntC x v l bad mt s err 0 left (s.pc+1)::ViewC v V::qk b (q8 i)::R)→
   wp (xv (.ptr x (6+a*1)) λv32=>jj h0 v32 (.int .u64 z) 1 λh33=>zw [] h33 λh28=>some (.int .i64 ((0:Nat):Int),h28)) λr h'=>r=.int .i64 D.e∧
    HS g h' (IntC x v l bad mt D.s err (if D.blk=true then 3 else 0) left D.nx::ViewC v D.v::R):=by
  rintro z D h0 rfl H0;obtain⟨c,mv,ov,q,H5⟩:=IntC.E H0;refine qq (qH H5 (b:=x) .here ⟨rfl,rfl⟩ (by show 6+a*1<19;omega) λh6 H6=>?_);refine qx (qY ⟨rfl,?_⟩);exact(Za ro.len ha2 ha3 H6).sub (.cons .here (.cons .here (.drop .refl)))
 by_cases c1:i.1=1
 ·refine qz c1 (qX ?_);refine qQ (qG H1 (b:=b) .here rfl ?_);exact fin _ _ _ (by unfold doM;rw[iJ c1]) HB
 refine qZ c1 (qJ ?_);by_cases c2:i.1=2
 ·refine qz c2 (qX ?_);exact fin _ _ _ (by unfold doM;rw[iQ c1,iJ c2,hb3]) HB
 refine qZ c2 (qJ ?_);by_cases c3:i.1=3
 ·refine qz c3 (qX (MI ?_));have hc3:=hc3 (by have:=hc7 omQ;omega);exact fin _ _ _ (by unfold doM;rw[iQ c1,iQ c2,iJ c3,hb3,hc3]) HB
 refine qZ c3 (qJ ?_);by_cases c4:i.1=4
 ·refine qz c4 (qX (ZV ?_));have hc3:=hc3 (by have:=hc7 omQ;omega);exact fin _ _ _ (by unfold doM;rw[iQ c1,iQ c2,iQ c3,iJ c4,hb3,hc3]) HB
 refine qZ c4 (qJ ?_);by_cases c5:i.1=5
 ·refine qz c5 (qX (qKp ?_));have hc3:=hc3 (by have:=hc7 omQ;omega);exact fin _ _ _ (by unfold doM;rw[iQ c1,iQ c2,iQ c3,iQ c4,iJ c5,hb3,hc3]) HB
 refine qZ c5 (qJ ?_);by_cases c6:i.1=6
 ·refine qz c6 (qX (QP ?_));have hc3:=hc3 (by have:=hc7 omQ;omega);refine qW (VC omQ) ?_;rintro _ _ ⟨rfl,rfl⟩;exact fin _ _ _ (by unfold doM;rw[iQ c1,iQ c2,iQ c3,iQ c4,iQ c5,iJ c6,hb3,hc3]) HB
 refine qZ c6 (qJ ?_);by_cases c7:i.1=7
 ·refine qz c7 (qX (Jw ?_));have hc3:=hc3 (by have:=hc7 omQ;omega);refine qW (VC omQ) ?_;rintro _ _ ⟨rfl,rfl⟩;exact fin _ _ _ (by unfold doM;rw[iQ c1,iQ c2,iQ c3,iQ c4,iQ c5,iQ c6,iJ c7,hb3,hc3]) HB
 refine qZ c7 (qJ ?_);by_cases c12:i.1=12
 ·refine qz c12 (qX ?_);have e:doM mt s V i=⟨0,i.2.2.2.1,false,s,V⟩:=by unfold doM;rw[iQ c1,iQ c2,iQ c3,iQ c4,iQ c5,iQ c6,iQ c7,iJ c12]
  rw[e];refine qQ (qG H1 (b:=b) .here rfl ?_);refine qq (qQ ?_);refine qH H2 (b:=x) .here ⟨rfl,rfl⟩ (by show 16<19;omega) λh6 H6=>?_;exact qx (qY ⟨rfl,(IntC.I (c:=c) (mv:=mv) (ov:=ov) (o:=q) H6).sub (.cons .here (.cons .here (.drop .refl)))⟩)
 refine qZ c12 (qJ ?_);by_cases c13:i.1=13
 ·refine qz c13 (qX ?_);have e:doM mt s V i=⟨0,if qB s.regs i.2.1=0 then i.2.2.2.1 else s.pc+1,false,s,V⟩:=by unfold doM;rw[iQ c1,iQ c2,iQ c3,iQ c4,iQ c5,iQ c6,iQ c7,iQ c12,iJ c13]
  rw[e,ha3];refine qq (qG H2 (b:=x) .here (Xy ha2) ?_);by_cases hz:qB s.regs (a:Int)=0
  ·rw[iJ hz];refine qz hz (qX ?_);refine qQ (qG H1 (b:=b) .here rfl ?_);refine qq (qQ ?_);refine qH H2 (b:=x) .here ⟨rfl,rfl⟩ (by show 16<19;omega) λh6 H6=>?_;exact qx (qY ⟨rfl,(IntC.I (c:=c) (mv:=mv) (ov:=ov) (o:=q) H6).sub (.cons .here (.cons .here (.drop .refl)))⟩)
  ·rw[iQ hz];refine qZ hz (qJ ?_);exact qx (qY ⟨rfl,HB.sub (.cons .here (.cons .here (.drop .refl)))⟩)
 refine qZ c13 (qJ ?_);by_cases c21:i.1=21
 ·refine qz c21 (qX ?_);refine qq (qQ (qG H2 (b:=x) .here rfl ?_));refine qq (qG H2 (b:=x) .here (Xy ha2) ?_);refine qW (qq3 omQ (H2.sel (P:=SlaC q s.out) e_3) P.out) ?_;rintro _ h3 ⟨rfl,H3⟩;by_cases h16:16≤s.out.length
  ·have e:doM mt s V i=⟨5,s.pc+1,false,s,V⟩:=by unfold doM;rw[iQ c1,iQ c2,iQ c3,iQ c4,iQ c5,iQ c6,iQ c7,iQ c12,iQ c13,iJ c21,iJ h16]
   rw[e];rw[iQ omQ]at H3;rw[iV omQ];refine jQ (qX ?_);exact qY ⟨rfl,(IntC.I (c:=c) (mv:=mv) (ov:=ov) (o:=q) (R:=ViewC v V::qk b (q8 i)::R) (H3.sub (.cons e_1 (.cons e_1 (.cons e_1 (.cons .here (.cons .here .refl))))))).sub (.cons .here (.cons .here (.drop .refl)))⟩
  ·have e:doM mt s V i=⟨0,s.pc+1,false,{ s with out:=s.out++[(1,qB s.regs i.2.1)] },V⟩:=by unfold doM;rw[iQ c1,iQ c2,iQ c3,iQ c4,iQ c5,iQ c6,iQ c7,iQ c12,iQ c13,iJ c21,iQ h16]
   rw[e,ha3];rw[iJ omQ]at H3;rw[iG omQ];refine qu (qJ ?_);exact qx (qY ⟨rfl,(IntC.I (s:={ s with out:=s.out++[(1,qB s.regs (a:Int))] }) (c:=c) (mv:=mv) (ov:=ov) (o:=q) (R:=ViewC v V::qk b (q8 i)::R) (H3.sub (.cons e_1 (.cons e_1 (.cons e_1 (.cons .here (.cons .here .refl))))))).sub (.cons .here (.cons .here (.drop .refl)))⟩)
 refine qZ c21 (qJ ?_);by_cases c22:i.1=22
 ·refine qz c22 (qX ?_);have e:doM mt s V i=⟨13,s.pc+1,false,s,V⟩:=by unfold doM;rw[iQ c1,iQ c2,iQ c3,iQ c4,iQ c5,iQ c6,iQ c7,iQ c12,iQ c13,iQ c21,iJ c22]
  rw[e];exact qY ⟨rfl,HB.sub (.cons .here (.cons .here (.drop .refl)))⟩
 refine qZ c22 (qJ ?_);refine qZ omQ (qJ ?_);refine qV ?_
 try dsimp only
 by_cases ct:i.1=8∨i.1=9∨i.1=10∨i.1=11
 ·have e:doM mt s V i=⟨(jB s V i).1,s.pc+1,false,(jB s V i).2.1,(jB s V i).2.2⟩:=by unfold doM;rw[iQ c1,iQ c2,iQ c3,iQ c4,iQ c5,iQ c6,iQ c7,iQ c12,iQ c13,iQ c21,iQ c22,iJ ct]
  rw[e];have key:wp (je h1 (.ptr b 0) 5 λv94=>jw (callT tab qj k) (.fn 114 [] []) [.ptr x 0,v94,.ptr x (6+a*1),.int .u64 (qB s.regs (bb:Int))] h1 λv95 h96=>zw [] h96 λh97=>some (v95,h97)) λr h'=>
    r=.int .i64 (jB s V i).1∧HS g h' (IntC x v l bad mt (jB s V i).2.1 err (if false=true then 3 else 0) left (s.pc+1)::ViewC v (jB s V i).2.2::R):=by
   refine qE H1 (b:=b) (off:=0) .here rfl omQ (l:=q8 i) rfl ?_;rw[← hb3];refine qW (qZ5 omQ P.good ro ct ha2 ha3 P.c HB) ?_;rintro _ h3 ⟨rfl,H3⟩;exact qx (qY ⟨rfl,H3.sub (.cons .here (.cons .here (.drop .refl)))⟩)
  by_cases t8:i.1=8
  ·refine qz t8 (qX (qX ?_));exact key
  refine qZ t8 (qJ ?_);by_cases t9:i.1=9
  ·refine qz t9 (qX (qX ?_));exact key
  refine qZ t9 (qJ ?_);by_cases t10:i.1=10
  ·refine qz t10 (qX (qX ?_));exact key
  refine qZ t10 (qJ ?_);refine qz omQ (qX ?_);exact key
 ·have e:doM mt s V i=gV mt s V i.1:=by unfold doM;rw[iQ c1,iQ c2,iQ c3,iQ c4,iQ c5,iQ c6,iQ c7,iQ c12,iQ c13,iQ c21,iQ c22,iQ ct]
  rw[e];refine qZ omQ (qJ ?_);refine qZ omQ (qJ ?_);refine qZ omQ (qJ ?_);refine qZ omQ (qJ ?_);refine qE H1 (b:=b) (off:=0) .here rfl omQ (l:=q8 i) rfl ?_;refine qW (qYP omQ P.good P.lo P.out P.told P.ways P.pc P.ne P.mt HB) ?_;rintro _ h3 ⟨rfl,H3⟩;exact qx (qY ⟨rfl,H3.sub (.cons .here (.cons .here (.drop .refl)))⟩)
end
end Go.Proofs.YtnalffoigcmnnaaGreatDoor
namespace Go.Proofs.YtnalffoigcmnnaaGreatDoor
open Go Go.Ae
set_option maxRecDepth 100000
variable {g h:AH} {L R:List SP}
theorem vU {a:List Int} {k:Nat} (h:k<a.length):a[k]? =some (qB a (k:Int)):=by unfold qB;rw[Int.toNat_natCast,iW h];rfl
theorem qQt {x:qS} (h:vJ x=true) (hx:x.1≠23):(1≤x.1∧x.1<23)∧(0≤x.2.1∧x.2.1≤7)∧(0≤x.2.2.1∧x.2.2.1≤7)∧(0≤x.2.2.2.1∧x.2.2.2.1≤40)∧(3≤x.1∧x.1≤7→x.2.2.2.1≤7):=by
 unfold vJ vK at h;simp only[Bool.and_eq_true,decide_eq_true_eq]at h;obtain⟨⟨⟨⟨h1,h2⟩,h3⟩,h4⟩,_⟩:=h;unfold jY at h2 h3 h4;by_cases c1:x.1=1∨x.1=11∨x.1=21
 ·rw[iJ c1]at h2 h3 h4;dsimp only at h2 h3 h4;omega
 rw[iQ c1]at h2 h3 h4;by_cases c2:x.1=2∨x.1=10
 ·rw[iJ c2]at h2 h3 h4;dsimp only at h2 h3 h4;omega
 rw[iQ c2]at h2 h3 h4;by_cases c3:x.1=3∨x.1=4∨x.1=5∨x.1=6∨x.1=7
 ·rw[iJ c3]at h2 h3 h4;dsimp only at h2 h3 h4;omega
 rw[iQ c3]at h2 h3 h4;by_cases c4:x.1=8∨x.1=9
 ·rw[iJ c4]at h2 h3 h4;dsimp only at h2 h3 h4;omega
 rw[iQ c4]at h2 h3 h4;by_cases c5:x.1=12
 ·rw[iJ c5]at h2 h3 h4;dsimp only at h2 h3 h4;omega
 rw[iQ c5]at h2 h3 h4;by_cases c6:x.1=13
 ·rw[iJ c6]at h2 h3 h4;dsimp only at h2 h3 h4;omega
 rw[iQ c6,iQ hx]at h2 h3 h4;dsimp only at h2 h3 h4;omega
theorem N6 {l:List qS} (F:Fit l) {k:Nat} (hk:k<l.length) (ho:(qL l k).1=14∨(qL l k).1=17∨(qL l k).1=18∨(qL l k).1=16):MtAt (qA l) (k:Int):=by
 have hl:=F.le;refine⟨k,rfl,_,vU (by rw[qJc];exact hk),?_⟩;by_cases h:(qL l k).1=16
 ·obtain⟨e,e1,e2,_⟩:=w5 F hk h;rw[e1];omega
 ·obtain⟨e,e1,_,e2,_⟩:=vH F hk omQ;rw[e1];omega
theorem qx1 {l:List qS} {s:IM} {V:VM} (F:Fit l) (G:GI l s V) {i:Nat} (hi:s.pc=i) (hlt:i<l.length) (hx:(qL l i).1≠23):DoP l (qA l) s V (qL l i):=by
 have hw:=xf (F.ok i hlt);have hwo:=zl (F.ok i hlt);have hb:=qQt hw.1 hx;have hol:=GO G;have h5:=Kd F i omQ;have hl:=F.le;rw[hi,Int.toNat_natCast]at hol;refine⟨G.good,G.gb.regs,G.gb.out,by omega,G.told,?_,by omega,hb.1,hb.2.1,hb.2.2.1,by omega,hb.2.2.2.2,?_,?_⟩
 ·intro p hp hop;obtain⟨q,hq,hql⟩:=(G.pts p hp).pc;have:=(G.pts p hp).op.2;rw[hop,hq]at this;rw[hq];exact N6 F hql omQ
 ·intro ho h0;rw[h0]at hol;have he:0<jO (qL l i).1∨(qL l i).1=16:=by
   rcases ho with h |h |h |h
   ·exact .inl (by rw[h];decide)
   ·exact .inl (by rw[h];decide)
   ·exact .inl (by rw[h];decide)
   ·exact .inr h
  exact hwo.2.1 he (iA hol.symm)
 ·intro ho;rw[hi];exact N6 F hlt omQ
def Quiet (l:List qS):Prop:=∀x∈l,x.1≠23∧0≤x.2.2.2.2∧x.2.2.2.2<18446744073709551616
theorem Quiet.at {l:List qS} (Q:Quiet l) {i:Nat} (h:i<l.length):(qL l i).1≠23∧0≤(qL l i).2.2.2.2∧(qL l i).2.2.2.2<18446744073709551616:=by rw[xx h];exact Q _ (List.getElem_mem h)
structure RunB (V:VM) (r:RM):Prop where
  gb:GB r.s
  good:jX r.v
  sz:r.v.sz=V.sz
  K:r.v.K=V.K
  most:r.v.most=V.most
theorem Y2 {l:List qS} (F:Fit l) (Q:Quiet l):∀(n:Nat) {s:IM} {V:VM},GI l s V→frS V.lv+n<9000→RunB V (jZ l (qA l) n s V)∧frS (jZ l (qA l) n s V).v.lv≤frS V.lv+n∧
  ((jZ l (qA l) n s V).kind=2→(jZ l (qA l) n s V).v.lv.length=1)∧
  ((jZ l (qA l) n s V).kind=1→GI l (jZ l (qA l) n s V).s (jZ l (qA l) n s V).v∧1≤(jZ l (qA l) n s V).v.need∧(jZ l (qA l) n s V).v.need<V.sz∧j0 (jZ l (qA l) n s V).v.need V.K=none)∧
  ((jZ l (qA l) n s V).kind=1∨(jZ l (qA l) n s V).kind=2∨(jZ l (qA l) n s V).kind=3∨(jZ l (qA l) n s V).kind=4):=by
 intro n
 induction n with
 |zero=>
  intro s V G hf;rw[gJ]
  split
  ·rename_i h0;refine⟨⟨G.gb,G.good,rfl,rfl,rfl⟩,by simp,λ_=>?_,λh=>(by cases h),by simp⟩;have:=GO G;rw[h0,Int.toNat_natCast,F.nil]at this;have hl:=G.lv;show V.lv.length=1;rw[hl,this];rfl
  ·exact⟨⟨G.gb,G.good,rfl,rfl,rfl⟩,by simp,λh=>(by cases h),λh=>(by cases h),by simp⟩
 |succ n ih=>
  intro s V G hf;rw[vt]
  split
  ·rename_i h0;refine⟨⟨G.gb,G.good,rfl,rfl,rfl⟩,by simp,λ_=>?_,λh=>(by cases h),by simp⟩;have:=GO G;rw[h0,Int.toNat_natCast,F.nil]at this;have hl:=G.lv;show V.lv.length=1;rw[hl,this];rfl
  ·rename_i h0;obtain⟨i,hi,hil⟩:=G.pc;have hlt:i<l.length:=by omega
   rw[hi];have S:=QE F G hi hlt omQ (Q.at hlt).2 (Q.at hlt).1;generalize doM (qA l) s V (qL l i)=D at*
   split
   ·rename_i h1
    split
    ·exact⟨⟨⟨S.gb.regs,S.gb.out,S.gb.its⟩,S.good,S.sz,S.K,S.most⟩,by have:=S.fr;dsimp only;omega,λh=>(by cases h),λh=>(by cases h),by simp⟩
    ·rename_i h2;have G2:=S.next h1 (by simpa using h2);have hfr:=S.fr;obtain⟨a,b,c,d,e⟩:=ih G2 omQ;refine⟨⟨a.gb,a.good,a.sz.trans S.sz,a.K.trans S.K,a.most.trans S.most⟩,by omega,c,λh=>?_,e⟩;have:=d h;rw[S.sz,S.K]at this;exact this
   ·split
    ·rename_i h11;obtain⟨n1,n2,n3,n4,n5⟩:=S.need h11;refine⟨⟨S.gb,S.good,S.sz,S.K,S.most⟩,by have:=S.fr;dsimp only;omega,λh=>(by cases h),λ_=>⟨?_,n3,n4,n5⟩,by simp⟩;show GI l D.s D.v;rw[n1];exact⟨G.gb,G.pc,G.pts,G.told,G.stk,by rw[n2];exact G.lv,S.good⟩
    ·exact⟨⟨S.gb,S.good,S.sz,S.K,S.most⟩,by have:=S.fr;dsimp only;omega,λh=>(by cases h),λh=>(by cases h),by simp⟩
section
variable {x v:Nat} {l:List qS} {bad:Int} {mt:List Int} {s:IM} {err fin left nx:Int}
theorem qQ5 {n:Nat} (hn:14≤n) (F:Fit l) (Q:Quiet l) {left:Nat} {V:VM} (G:GI l s V) (hf:frS V.lv+left<9000) (hl:left≤1000) (H:HS g h (IntC x v l 0 (qA l) s 0 0 left nx::ViewC v V::R)) :
  t_w n 46 [.ptr x 0] h λr h'=>r=.int .i64 (jZ l (qA l) left s V).kind∧
   ∃nx',HS g h' (IntC x v l 0 (qA l) (jZ l (qA l) left s V).s (jZ l (qA l) left s V).err (if(jZ l (qA l) left s V).kind=1 then 0 else(jZ l (qA l) left s V).kind) ((jZ l (qA l) left s V).left:Int) nx'::ViewC v (jZ l (qA l) left s V).v::R):=by
 refine t_e1 (S:=S46) rfl omQ λk hk=>?_;unfold S46;try simp only[iZ]
 generalize hRM:jZ l (qA l) left s V=RM
 refine jP (λm st h'=>st=(.ptr x 0,())∧((∃(s':IM) (V':VM) (left':Nat) (nx':Int),m=left'+1∧left'≤1000∧GI l s' V'∧frS V'.lv+left'<9000∧jZ l (qA l) left' s' V'=RM∧HS g h' (IntC x v l 0 (qA l) s' 0 0 left' nx'::ViewC v V'::R))∨
   (m=0∧RM.kind≠0∧RM.kind≠1∧∃nx',HS g h' (IntC x v l 0 (qA l) RM.s RM.err RM.kind RM.left nx'::ViewC v RM.v::R))))
  ?_ (m:=left+1) (by show _<1000000000;omega) ⟨rfl,.inl ⟨s,V,left,nx,rfl,hl,G,hf,hRM,H⟩⟩
 clear H G hf hRM hl;rintro m ih st h2 hih ⟨rfl,⟨s,V,left,nx,rfl,hl,G,hf,hRM,H⟩ |⟨rfl,hk0,hk1,nx,H⟩⟩
 rotate_left
 ·dsimp only;obtain⟨c,mv,ov,q,H1⟩:=IntC.E H;refine qq (qQ (qG H1 (b:=x) .here rfl ?_));refine qZ hk0 (qJ ?_);refine qq (qQ (qG H1 (b:=x) .here rfl ?_));refine qx (qY ⟨rfl,nx,?_⟩);rw[iQ hk1];exact H
 dsimp only;obtain⟨i,hi,hil⟩:=G.pc;have hlen:=F.le;obtain⟨c,mv,ov,q,H1⟩:=IntC.E H;refine qq (qQ (qG H1 (b:=x) .here rfl ?_));refine qz rfl (qX ?_);refine qV ?_
 try dsimp only
 refine qq (qQ (qG H1 (b:=x) .here rfl ?_));refine jk rfl (qJ ?_);refine qq (qQ (qG H1 (b:=x) .here rfl ?_));refine qq (qQ (qQ (qG H1 (b:=x) .here rfl ?_)));refine qs H1 e_1 ?_;by_cases h0:s.pc=l.length
 ·refine qz h0 (qX ?_);rw[Uj h0]at hRM;subst hRM;refine qq (qQ ?_);refine qH H1 (b:=x) .here ⟨rfl,rfl⟩ (by show 5<19;omega) λh3 H3=>?_;exact hih 0 _ _ omQ ⟨rfl,.inr ⟨rfl,by show(2:Int)≠0;decide,by show(2:Int)≠1;decide,nx,IntC.I (c:=c) (mv:=mv) (ov:=ov) (o:=q) H3⟩⟩
 refine qZ h0 (qJ ?_);refine qq (qQ (qG H1 (b:=x) .here rfl ?_));cases left with
 |zero=>refine qz rfl (qX ?_);rw[gJ,iQ h0]at hRM;subst hRM;refine qW (Nw omQ H) ?_;intro _ h3 H3;exact hih 0 _ _ omQ ⟨rfl,.inr ⟨rfl,by show(4:Int)≠0;decide,by show(4:Int)≠1;decide,nx,H3⟩⟩
 |succ left=>
  refine qZ omQ (qJ ?_);rw[vt,iQ h0]at hRM;have hlt:i<l.length:=by omega
  have S:=QE F G hi hlt omQ (Q.at hlt).2 (Q.at hlt).1;have P:=qx1 F G hi hlt (Q.at hlt).1;refine qq (qQ (qG H1 (b:=x) .here rfl ?_));rw[hi];refine qU omQ (qq (qQ ?_));refine qH H1 (b:=x) .here ⟨rfl,rfl⟩ (by show 16<19;omega) λh3 H3=>?_;refine qq (qQ (qQ (qG H3 (b:=x) .here rfl ?_)));refine qq (qQ (qG H3 (b:=x) .here rfl ?_));rw[hi];refine zf (l:=q8 l[i]) (H3.sl e_1) hlt omQ (Jt hlt) ?_;have H4:HS g h3 (IntC x v l 0 (qA l) s 0 0 ((left+1:Nat):Int) (s.pc+1)::ViewC v V::R):=IntC.I (c:=c) (mv:=mv) (ov:=ov) (o:=q) (by rw[hi]at H3 ⊢;exact H3);clear H H1 H3;rw[← xx hlt];refine qW (qkf omQ P H4) ?_;rintro _ h5 ⟨rfl,H5⟩;rw[hi]at hRM;generalize doM (qA l) s V (qL l i)=D at*;refine qV ?_
  try dsimp only
  obtain⟨c,mv,ov,q,H6⟩:=IntC.E H5;by_cases h1:D.e=0
  ·refine qz h1 (qX ?_);rw[iJ h1]at hRM;refine qq (qQ (qG H6 (b:=x) .here rfl ?_));refine qq (qQ ?_);refine qH H6 (b:=x) .here ⟨rfl,rfl⟩ (by show 15<19;omega) λh7 H7=>?_;refine qq (qQ (qG H7 (b:=x) .here rfl ?_));refine jM omQ (qq (qQ ?_));rw[show((left+1:Nat):Int)-((1:Nat):Int)=(left:Int) by omega];refine qH H7 (b:=x) .here ⟨rfl,rfl⟩ (by show 17<19;omega) λh8 H8=>?_;have H9:HS g h8 (IntC x v l 0 (qA l) { D.s with pc:=D.nx } 0 (if D.blk=true then 3 else 0) left D.nx::ViewC v D.v::R):=IntC.I (s:={ D.s with pc:=D.nx }) (c:=c) (mv:=mv) (ov:=ov) (o:=q) H8;clear H6 H7 H8 H5;cases h2:D.blk with
   |true=>rw[h2,iJ rfl]at hRM;rw[h2,iJ rfl]at H9;subst hRM;exact hih 0 _ _ omQ ⟨rfl,.inr ⟨rfl,by show(3:Int)≠0;decide,by show(3:Int)≠1;decide,D.nx,H9⟩⟩
   |false=>rw[h2,iQ osQ]at hRM;rw[h2,iQ osQ]at H9;have:=S.fr;exact hih (left+1) _ _ omQ ⟨rfl,.inl ⟨_,D.v,left,D.nx,rfl,by omega,S.next h1 h2,by omega,hRM,H9⟩⟩
  ·refine qZ h1 (qJ ?_);rw[iQ h1]at hRM;have hb:D.blk=false:=by
    cases hb:D.blk with
    |false=>rfl
    |true=>exact absurd (S.bl hb) h1
   rw[hb,iQ osQ]at H5;by_cases h11:D.e=11
   ·rw[iJ h11]at hRM;subst hRM;refine qz h11 (qX ?_);refine qx (qY ⟨rfl,D.nx,?_⟩);rw[iJ rfl];exact H5
   ·rw[iQ h11]at hRM;subst hRM;refine qZ h11 (qJ ?_);refine qW (Nw omQ H5) ?_;intro _ h7 H7;exact hih 0 _ _ omQ ⟨rfl,.inr ⟨rfl,by show(4:Int)≠0;decide,by show(4:Int)≠1;decide,D.nx,H7⟩⟩
end
end Go.Proofs.YtnalffoigcmnnaaGreatDoor
namespace Go.Proofs.YtnalffoigcmnnaaGreatDoor
open Go Go.Ae
set_option maxRecDepth 100000
variable {g h:AH} {L R:List SP}
def YT (l:List qS):List Int:=if(yQ l).2=0 then qA l else[]
theorem Zp {n:Nat} (hn:7≤n) {l:List qS} {sv:AV} (H:HS g h R) (S:Rd g R 5 l.length sv (l.flatMap q8)) (hl:l.length≤100) :
  t_w n 77 [.agg [sv]] h λv h'=>HS g h' (qD 3 1 (YT l).length v ((YT l).map (.int .i64))::R):=by
 refine t_e1 (S:=S77) rfl omQ λk hk=>?_;unfold S77;try simp only[iZ]
 refine qM H (yG (wE (S.sl H))) λb0 h1 H1=>?_;have hLV:=(S.sl H).lenV;clear H;refine qE H1 (b:=b0) (off:=0) .here rfl omQ rfl ?_;refine qW (Uu omQ H1 S.more hl) ?_;rintro _ h2 ⟨rfl,H2⟩;clear H1;refine qw rfl ?_;refine qw rfl ?_;by_cases c0:(yQ l).2=0
 rotate_left
 ·refine jq c0 ?_;refine qX ?_;unfold YT;rw[iQ c0];exact qY H2.drop.nils
 have hG:=Uk c0;have F:=QF c0;have hnr:=λ{j:Nat} (h:j<l.length)=>gw F h;have hrg:=λ{j:Nat} (h:j<l.length)=>F.reg j h;unfold YT;rw[iJ c0];have hM:qA l=mt2 l (yn l 0 []) l.length:=rfl;rw[hM];clear hM;refine jk c0 ?_;refine qJ (qE H2 (b:=b0) (off:=0) .here rfl omQ rfl ?_);refine qW (Y7 omQ H2 S.more hG hl) ?_;intro av h3 H3;clear H2;refine qQ (qG ‹_› e_1 rfl ?_);refine xl ‹_› ?_;refine YB (n:=l.length) H3 omQ λev h4 H4=>?_;refine qs H4 .here ?_;clear H3;have hA:(yn l 0 []).length=l.length:=G6;have hin:=λ{i:Nat}=>qxa (i:=i) hG;generalize yn l 0 []=A at*
 refine jP (λm s h'=>∃(i:Nat),s=(.int .i64 (i:Int),.int .i64 (l.length:Int),ev,av,.ptr b0 0,())∧i≤l.length∧m=l.length-i∧
  HS g h' (qD 3 1 l.length ev ((List.replicate i (-1:Int)++List.replicate (l.length-i) 0).map (.int .i64))::qD 3 1 l.length av (A.map (.int .i64))::qk b0 [sv]::R))
  ?_ (m:=l.length) (by show _<1000000000;omega) ⟨0,rfl,by omega,by omega,by rw[List.replicate_zero,List.nil_append,Nat.sub_zero,List.map_replicate];exact H4⟩
 clear H4;rintro m ih s h5 hih ⟨i,rfl,hi,rfl,H⟩;dsimp only;by_cases hlt:i<l.length
 ·refine zq omQ ?_;refine qX (gH H hlt ⟨rfl,rfl⟩ λh6 H6=>?_);refine qU omQ ?_;have h0:(AV.int .i64 (Int.negSucc 0))=.int .i64 (-1):=rfl;rw[h0,← List.map_set]at H6;have es:(List.replicate i (-1:Int)++List.replicate (l.length-i) 0).set i (-1)=List.replicate (i+1) (-1:Int)++List.replicate (l.length-(i+1)) 0:=by
   rw[show l.length-i=(l.length-(i+1))+1 by omega,List.replicate_succ,List.set_append_right _ _ osQ,List.length_replicate,Nat.sub_self,List.set_cons_zero,List.replicate_succ' (n:=i),List.append_assoc];rfl
  rw[es]at H6;exact hih (l.length-(i+1)) _ _ omQ ⟨i+1,rfl,by omega,rfl,H6⟩
 obtain rfl:i=l.length:=by omega
 clear hih;rw[Nat.sub_self,List.replicate_zero,List.append_nil]at H;have hL1:∀i,(mt1 l A i).length=l.length:=λi=>MK i;have hL2:∀i,(mt2 l A i).length=l.length:=λi=>MU i;refine jo omQ ?_;refine qJ (qQ (qG ‹_› e_2 rfl ?_));refine xl ‹_› ?_
 refine jP (λm s h'=>∃(i:Nat),s=(.int .i64 (i:Int),.int .i64 (l.length:Int),sv,ev,av,.ptr b0 0,())∧i≤l.length∧m=l.length-i∧
  HS g h' (qD 3 1 l.length ev ((mt1 l A i).map (.int .i64))::qD 3 1 l.length av (A.map (.int .i64))::qk b0 [sv]::R))
  ?_ (m:=l.length) (by show _<1000000000;omega) ⟨0,rfl,by omega,by omega,H⟩
 clear H;rintro m ih s h6 hih ⟨i,rfl,hi,rfl,H⟩;dsimp only;by_cases hlt:i<l.length
 ·have hrow:=Jt hlt;have hini:=hin hlt;have hrgi:=hrg hlt;have hnri:=hnr hlt;have hstep:mt1 l A (i+1)=if 0<jO (qL l (i:Int)).1 then(mt1 l A i).set (qB A (i:Int)).toNat i else mt1 l A i:=rfl
  rw[xx hlt]at hstep;generalize l[i]=x at*;refine zq omQ (qX ?_)
  refine jT [] (λs h'=>s=(.int .i64 (i:Int),.int .i64 (l.length:Int),sv,ev,av,.ptr b0 0,())∧
   HS g h' (qD 3 1 l.length ev ((mt1 l A (i+1)).map (.int .i64))::qD 3 1 l.length av (A.map (.int .i64))::qk b0 [sv]::R)) ?_ ?_
  rotate_left
  ·rintro s h7 ⟨rfl,H7⟩;refine qU omQ ?_;exact hih (l.length-(i+1)) _ _ omQ ⟨i+1,rfl,by omega,rfl,H7⟩
  intro j hj;refine zf (S.sl H.drop.drop.drop) hlt omQ hrow ?_;refine qM H rfl λb h7 H7=>?_;refine qc H7 (b:=b) .here rfl (by simp[q8]) rfl λh8 H8=>?_;have H8:HS g h8 (qk b [.int .i64 x.1,.int .i64 x.2.1,.int .i64 x.2.2.1,.int .i64 x.2.2.2.1,.int .u64 x.2.2.2.2]::qD 3 1 l.length ev ((mt1 l A i).map (.int .i64))::qD 3 1 l.length av (A.map (.int .i64))::qk b0 [sv]::R):=H8;clear H H7;refine qQ (qG ‹_› .here rfl ?_);refine qW (YY omQ) ?_;rintro _ h8 ⟨rfl,rfl⟩;by_cases he:0<jO x.1
  ·obtain⟨p,hp,hpl⟩:=hini (.inl he);refine xn he (qX ?_);refine jA (H8.sl e_2) (x:=.int .i64 (p:Int)) (by rw[List.getElem?_map,hp];rfl) ?_;refine gH (H8.sel e_1) hpl ⟨rfl,rfl⟩ λh9 H9=>?_;rw[← List.map_set]at H9;have hnp:qB A (i:Int)=p:=by unfold qB;rw[Int.toNat_natCast,hp];rfl
   rw[iJ he,hnp,Int.toNat_natCast]at hstep;rw[← hstep]at H9;exact hj _ _ ⟨rfl,H9.sub (.cons .here (.cons e_1 (.cons e_1 (.drop .refl))))⟩
  ·refine xc he (qJ ?_);rw[iQ he]at hstep;exact hj _ _ ⟨rfl,by rw[hstep];exact H8.drop⟩
 obtain rfl:i=l.length:=by omega
 clear hih;refine jo omQ ?_;refine qJ (qQ (qG ‹_› e_2 rfl ?_));refine xl ‹_› ?_
 refine jP (λm s h'=>∃(i:Nat),s=(.int .i64 (i:Int),.int .i64 (l.length:Int),sv,ev,av,())∧i≤l.length∧m=l.length-i∧
  HS g h' (qD 3 1 l.length ev ((mt2 l A i).map (.int .i64))::qD 3 1 l.length av (A.map (.int .i64))::qk b0 [sv]::R))
  ?_ (m:=l.length) (by show _<1000000000;omega) ⟨0,rfl,by omega,by omega,H⟩
 clear H;rintro m ih s h6 hih ⟨i,rfl,hi,rfl,H⟩;dsimp only;by_cases hlt:i<l.length
 ·have hrow:=Jt hlt;have hini:=hin hlt;have hstep:mt2 l A (i+1)=if(qL l (i:Int)).1=16 then(mt2 l A i).set i (qB (mt2 l A i) (qB A (i:Int)))else mt2 l A i:=rfl
  rw[xx hlt]at hstep;generalize l[i]=x at*;refine zq omQ (qX ?_)
  refine jT [] (λs h'=>s=(.int .i64 (i:Int),.int .i64 (l.length:Int),sv,ev,av,())∧
   HS g h' (qD 3 1 l.length ev ((mt2 l A (i+1)).map (.int .i64))::qD 3 1 l.length av (A.map (.int .i64))::qk b0 [sv]::R)) ?_ ?_
  rotate_left
  ·rintro s h7 ⟨rfl,H7⟩;refine qU omQ ?_;exact hih (l.length-(i+1)) _ _ omQ ⟨i+1,rfl,by omega,rfl,H7⟩
  intro j hj;refine zf (S.sl H.drop.drop.drop) hlt omQ hrow ?_;refine qM H rfl λb h7 H7=>?_;refine qc H7 (b:=b) .here rfl (by simp[q8]) rfl λh8 H8=>?_;have H8:HS g h8 (qk b [.int .i64 x.1,.int .i64 x.2.1,.int .i64 x.2.2.1,.int .i64 x.2.2.2.1,.int .u64 x.2.2.2.2]::qD 3 1 l.length ev ((mt2 l A i).map (.int .i64))::qD 3 1 l.length av (A.map (.int .i64))::qk b0 [sv]::R):=H8;clear H H7;refine qQ (qG ‹_› .here rfl ?_);by_cases he:x.1=16
  ·obtain⟨p,hp,hpl⟩:=hini (.inr he);refine qz he (qX ?_);refine jA (H8.sl e_2) (x:=.int .i64 (p:Int)) (by rw[List.getElem?_map,hp];rfl) ?_;refine jA (H8.sl e_1) (x:=.int .i64 (qB (mt2 l A i) (p:Int))) (by rw[List.getElem?_map,vU (by rw[hL2];exact hpl)];rfl) ?_;refine gH (H8.sel e_1) hlt ⟨rfl,rfl⟩ λh9 H9=>?_;rw[← List.map_set]at H9;have hnp:qB A (i:Int)=p:=by unfold qB;rw[Int.toNat_natCast,hp];rfl
   rw[iJ he,hnp]at hstep;rw[← hstep]at H9;exact hj _ _ ⟨rfl,H9.sub (.cons .here (.cons e_1 (.cons e_1 (.drop .refl))))⟩
  ·refine qZ he (qJ ?_);rw[iQ he]at hstep;exact hj _ _ ⟨rfl,by rw[hstep];exact H8.drop⟩
 obtain rfl:i=l.length:=by omega
 refine jo omQ ?_;refine qJ (qx (qY ?_));rw[hL2];exact H.sub (.cons .here (.drop (.drop .refl)))
def J7:IM:=⟨[0,0,0,0,0,0,0,0],[],0,[]⟩
theorem QD {l:List qS} {V:VM} (h1:V.lv.length=1) (G:jX V):GI l J7 V :=
 ⟨⟨⟨rfl,by intro z hz;simp[J7]at hz;subst hz;omega⟩,Nat.zero_le _,λx hx=>by cases hx⟩,⟨0,rfl,Nat.zero_le _⟩,(λp hp=>by cases hp),trivial,rfl,h1,G⟩
def jd (fuel:Int):Nat:=(max 0 (min fuel 400)).toNat
theorem qJH {n:Nat} (hn:8≤n) {l:List qS} {sv:AV} {v:Nat} {fuel:Int} (H:HS g h R) (S:Rd g R 5 l.length sv (l.flatMap q8)) (hl:l.length≤100) :
  t_w n 44 [.agg [sv],.ptr v 0,.int .i64 fuel] h λr h'=>∃x,r=.ptr x 0∧HS g h' (IntC x v l (yQ l).2 (YT l) J7 0 0 (jd fuel:Nat) 0 ::R):=by
 refine t_e3 (S:=S44) rfl omQ λk hk=>?_;unfold S44;try simp only[iZ]
 refine qM H (yG (wE (S.sl H))) λb0 h1 H1=>?_;refine qQ (qG ‹_› .here rfl ?_);refine zT (H1.nils) (S.sl H1.drop) omQ omQ (GA l) λcv h2 H2=>?_;rw[List.nil_append,Nat.zero_add]at H2;have oc:=H2.one .here;refine qQ (qH H2 (b:=b0) e_1 oc osQ λh3 H3=>?_);have H3:HS g h3 (qk b0 [cv]::qD 74 5 l.length cv (l.flatMap q8)::R):=H3;refine qE H3 (b:=b0) (off:=0) .here rfl omQ rfl ?_;refine qW (Uu omQ H3 (Rd.own e_1) hl) ?_;rintro _ h4 ⟨rfl,H4⟩;refine qw rfl ?_;refine qw rfl ?_;refine qV ?_;(try dsimp only)
 refine qE H4 (b:=b0) (off:=0) .here rfl omQ rfl ?_;refine qE H4 (b:=b0) (off:=0) .here rfl omQ rfl ?_;refine qW (Zp omQ H4 (Rd.own e_1) hl) ?_;intro mv h5 H5;have om:=H5.one .here;refine qW (Q':=λr h'=>∃o,r=.ptr o 0∧HS g h' (qk o [.nils]::qD 3 1 (YT l).length mv ((YT l).map (.int .i64))::qk b0 [cv]::qD 74 5 l.length cv (l.flatMap q8)::R)) ?_ ?_
 ·refine t_e0 (S:=S78) rfl omQ λk hk=>?_;unfold S78;try simp only[iZ]
  refine qI rfl ?_;exact qM H5 rfl λo h6 H6=>qY ⟨o,rfl,H6⟩
 rintro _ h6 ⟨o,rfl,H6⟩;refine jm (zK ?_);rw[show max ((0:Nat):Int) (min fuel ((400:Nat):Int))=((jd fuel:Nat):Int) by unfold jd;omega]
 refine qI (l:=vL cv mv .nils v o (yQ l).2 0 0 (jd fuel:Nat) 0 0 [0,0,0,0,0,0,0,0]) (by
  have e:(AV.agg (List.take 1 (List.drop 0 [cv]))).cells=[cv]:=rfl
  simp only[vB,e,om.1];rfl) ?_
 refine qM H6 (by unfold vL;simp only[ql,List.all_cons,oc.2,om.2];rfl) λx h7 H7=>?_;refine zb H5 (b:=b0) e_1 rfl H6 e_2 rfl rfl omQ (HS.lt H4 .here) ?_;refine zb H4 (b:=b0) .here rfl H5 e_1 rfl rfl omQ (HS.lt H4 .here) ?_
 skip
 refine qY ⟨x,rfl,?_⟩;have H8:=(H7.nils (e:=20) (sz:=1)).nils (e:=236) (sz:=11)
 have H9:HS g h7 (SlaC o []::qD 236 11 0 .nils []::qk x (vL cv mv .nils v o (yQ l).2 0 0 (jd fuel:Nat) 0 0 [0,0,0,0,0,0,0,0])::qD 3 1 (YT l).length mv ((YT l).map (.int .i64))::qk b0 [cv]::
  qD 74 5 l.length cv (l.flatMap q8)::R):=SlaC.I (l:=[]) (sv:=.nils) (H8.sub (.cons e_3 (.cons e_1 (.cons .here (.cons .here .refl)))))
 exact IntC.I (s:=J7) (c:=cv) (mv:=mv) (ov:=.nils) (o:=o) (H9.sub (.cons e_2 (.cons e_4 (.cons e_2 (.cons .here (.cons .here (.drop .refl)))))))
section
variable {x v:Nat} {l:List qS} {bad:Int} {mt:List Int} {s:IM} {err fin left nx:Int}
end
end Go.Proofs.YtnalffoigcmnnaaGreatDoor
