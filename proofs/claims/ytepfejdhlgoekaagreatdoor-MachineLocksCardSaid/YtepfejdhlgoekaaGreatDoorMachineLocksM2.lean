/- Lemmas for 'quietus/quietuslaw28.MachineLocks': Blocks of words: by the program;Blocks of words: by the documents own text;Numbers brought into bounds;Are two lists of numbers the same?;Are two lists of ... No condition. -/
import Derived.Test.YtepfejdhlgoekaaGreatDoorMachineLocksM1
import Derived.Test.YtepfejdhlgoekaaGreatDoorMachineLocksAe7
import Derived.Test.YtepfejdhlgoekaaGreatDoorMachineLocksT
import Derived.KernelRfl
import Derived.Lib.ItoaLen
namespace Go.Proofs.YtepfejdhlgoekaaGreatDoor
open Go Go.Ae
set_option maxRecDepth 100000
section
variable {g h:AH} {L R:List SP}
def vi (x:Int):Int:=if x=1 then 2 else if x=2 then 4 else if x=3 then 8 else if x=4 then 16 else 0
def xj (x:Int):Int:=if x<1 then 0 else if x≤2 then 1 else if x≤4 then 2 else if x≤8 then 3 else if x≤16 then 4 else 0
theorem Mf (x:Int):0≤vi x∧vi x≤16:=by unfold vi;repeat' split<;>omega
theorem ZH (x:Int):0≤xj x∧xj x≤4:=by unfold xj;repeat' split<;>omega
structure WdV (M:VM):Prop where
  k:∀c∈M.K,0≤c.2∧c.2<18446744073709551616
  l:∀x∈M.lv,∀c∈x.1,0≤c.2∧c.2<18446744073709551616
theorem VH {P:Int→Prop} {p x:Int}:∀{l:List Cl},(∀c∈l,P c.2)→zj p l=some x→P x:=by
 intro l
 induction l with
 |nil=>intro _ h;cases h
 |cons c l ih=>
  intro h e;unfold zj at e
  split at e
  ·cases e;exact h c (iK ..)
  ·exact ih (λd hd=>h d (iX _ hd)) e
theorem qV7 {P:Int→Prop} {p x:Int}:∀{lv:List LvM},(∀y∈lv,∀c∈y.1,P c.2)→Yi p lv=some x→P x:=by
 intro lv
 induction lv with
 |nil=>intro _ h;cases h
 |cons y r ih=>
  intro h e;unfold Yi at e
  split at e
  ·rename_i v hv;cases e;exact VH (h y (iK ..)) hv
  ·exact ih (λz hz=>h z (iX _ hz)) e
theorem WdV.read {M:VM} {p:Int} (W:WdV M):0≤(qf M p).1.1∧(qf M p).1.1<18446744073709551616:=by
 unfold qf
 split
 ·split
  ·rename_i x hx;exact qV7 (P:=λx=>0≤x∧x<18446744073709551616) W.l hx
  ·split
   ·rename_i x hx;exact VH (P:=λx=>0≤x∧x<18446744073709551616) W.k hx
   ·show(0:Int)≤0∧(0:Int)<18446744073709551616;omega
 ·show(0:Int)≤0∧(0:Int)<18446744073709551616;omega
theorem WdV.read2 {M:VM} {p:Int} (W:WdV M):WdV (qf M p).2:=by
 unfold qf
 repeat' split
 all_goals exact⟨W.k,W.l⟩
def WdC (cs:List Cl):Prop:=∀c∈cs,0≤c.2∧c.2<18446744073709551616
theorem WdC.put {l:List Cl} {p v:Int} (h:WdC l) (hv:0≤v∧v<18446744073709551616):WdC (yi p v l):=by
 induction l with
 |nil=>intro c hc;simp[yi]at hc;subst hc;exact hv
 |cons a l ih=>
  unfold yi
  split
  ·intro c hc;rcases List.mem_cons.1 hc with rfl |hc
   ·exact hv
   ·exact h c (iX _ hc)
  ·intro c hc;rcases List.mem_cons.1 hc with rfl |hc
   ·exact h _ (iK ..)
   ·exact ih (λc hc=>h c (iX _ hc)) c hc
theorem WdC.puts:∀{cs l:List Cl},WdC l→WdC cs→WdC (yb l cs):=by
 intro cs
 induction cs with
 |nil=>intro l h _;exact h
 |cons c cs ih=>intro l h hc;exact ih (h.put (hc c (iK ..))) λd hd=>hc d (iX _ hd)
theorem qYN {most:Nat} {was:List LvM} (hw:∀x∈was,WdC x.1):∀{cs:List Cl} {lv:List LvM},WdC cs→(∀x∈lv,WdC x.1)→∀x∈(vT most was lv cs).2,WdC x.1:=by
 intro cs
 induction cs with
 |nil=>intro lv _ h;exact h
 |cons c cs ih=>
  intro lv hc h;rw[gK]
  split
  ·refine ih (λd hd=>hc d (iX _ hd)) ?_;cases lv with
   |nil=>exact h
   |cons y r=>
    unfold gX;dsimp only
    split
    ·exact h
    ·split
     ·exact h
     ·intro x hx;rcases List.mem_cons.1 hx with rfl |hx
      ·exact(show WdC y.1 from h y (iK ..)).put (hc c (iK ..))
      ·exact h x (iX _ hx)
  ·exact hw
theorem WdV.take {M:VM} {cs:List Cl} (W:WdV M) (hc:WdC cs):WdV (ju M cs).2:=by
 unfold ju
 split
 ·exact⟨W.k,qYN W.l hc W.l⟩
 ·exact W
def xi (M:VM) (c b:Int):(Int×Int)×VM :=
 if 2147483648≤b then((0,2),M)else
 if(qf M b).1.2=0 then
  (if(ju (qf M b).2 [(c,(qf M b).1.1),(b-1,c+8)]).1=0 then((b,0),(ju (qf M b).2 [(c,(qf M b).1.1),(b-1,c+8)]).2)
   else((0,(ju (qf M b).2 [(c,(qf M b).1.1),(b-1,c+8)]).1),(ju (qf M b).2 [(c,(qf M b).1.1),(b-1,c+8)]).2))
 else((0,(qf M b).1.2),(qf M b).2)
def xe (M:VM) (c:Int):(Int×Int)×VM :=
 if(qf M 5).1.2=0 then
  (if(qf M 5).1.1<14∨2147483648≤(qf M 5).1.1∨(M.sz:Int)<(qf M 5).1.1+1+vi c then((0,4),(qf M 5).2)
   else if(ju (qf M 5).2 [(5,(qf M 5).1.1+1+vi c),((qf M 5).1.1,c+8)]).1=0 then(((qf M 5).1.1+1,0),(ju (qf M 5).2 [(5,(qf M 5).1.1+1+vi c),((qf M 5).1.1,c+8)]).2)
   else((0,(ju (qf M 5).2 [(5,(qf M 5).1.1+1+vi c),((qf M 5).1.1,c+8)]).1),(ju (qf M 5).2 [(5,(qf M 5).1.1+1+vi c),((qf M 5).1.1,c+8)]).2))
 else((0,(qf M 5).1.2),(qf M 5).2)
def zd (M:VM) (n:Int):(Int×Int)×VM :=
 if xj n=0 then((0,3),M)else
 if(qf M (xj n)).1.2=0 then
  (if(qf M (xj n)).1.1=0 then xe (qf M (xj n)).2 (xj n)else xi (qf M (xj n)).2 (xj n) (qf M (xj n)).1.1)
 else((0,(qf M (xj n)).1.2),(qf M (xj n)).2)
def Xn (w:Int):Int×Bool:=if 1≤w∧w≤4 then(w,false)else if 9≤w∧w≤12 then(w-8,true)else(0,false)
def ji (M:VM) (b:Int):(Int×Bool×Int)×VM :=
 if b≤14∨M.sz≤b then((0,false,2),M)else
 if(qf M (b-1)).1.2=0 then
  (if(Xn (qf M (b-1)).1.1).1=0 then((0,false,2),(qf M (b-1)).2)else(((Xn (qf M (b-1)).1.1).1,(Xn (qf M (b-1)).1.1).2,0),(qf M (b-1)).2))
 else((0,false,(qf M (b-1)).1.2),(qf M (b-1)).2)
def vO (M:VM) (b:Int):Int×VM :=
 if(ji M b).1.2.2=0 then
  (if(ji M b).1.2.1=true then
   (if(ju (ji M b).2 [(b-1,(ji M b).1.1)]).1=0 then(0,freeV (ju (ji M b).2 [(b-1,(ji M b).1.1)]).2 b)else ju (ji M b).2 [(b-1,(ji M b).1.1)])
  else(2,(ji M b).2))
 else((ji M b).1.2.2,(ji M b).2)
def xw (M:VM) (b:Int):Int×VM :=
 if(ji M b).1.2.2=0 then
  (if(ji M b).1.2.1=true then(2,(ji M b).2)else
   if(qf (ji M b).2 (ji M b).1.1).1.2=0 then ju (qf (ji M b).2 (ji M b).1.1).2 [(b,(qf (ji M b).2 (ji M b).1.1).1.1),((ji M b).1.1,b)]
   else((qf (ji M b).2 (ji M b).1.1).1.2,(qf (ji M b).2 (ji M b).1.1).2))
 else((ji M b).1.2.2,(ji M b).2)
theorem qYF {M:VM} {p:Int}:(qf M p).2.sz=M.sz:=by
 unfold qf
 repeat' split
 all_goals rfl
theorem qzM (w:Int):0≤(Xn w).1∧(Xn w).1≤4:=by
 unfold Xn
 repeat' split
 all_goals dsimp only
 all_goals omega
theorem NJ (M:VM) (b:Int):0≤(ji M b).1.1∧(ji M b).1.1≤4∧((ji M b).1.2.2=0→14<b∧b<M.sz):=by
 unfold ji
 split
 ·exact⟨Int.le_refl 0,by show(0:Int)≤4;omega,λh=>by cases h⟩
 ·split
  ·split
   ·exact⟨Int.le_refl 0,by show(0:Int)≤4;omega,λh=>by cases h⟩
   ·have:=qzM (qf M (b-1)).1.1;exact⟨this.1,this.2,λ_=>by omega⟩
  ·exact⟨Int.le_refl 0,by show(0:Int)≤4;omega,λ_=>by omega⟩
theorem XB {M:VM} {b:Int} (O:OkV M):OkV (ji M b).2:=by
 unfold ji
 split
 ·exact O
 ·split
  ·split<;>exact xO O
  ·exact xO O
theorem qkT {M:VM} {b:Int} (O:WdV M):WdV (ji M b).2:=by
 unfold ji
 split
 ·exact O
 ·split
  ·split<;>exact O.read2
  ·exact O.read2
theorem qqI {M:VM} {b:Int} (O:OkV M) (hf:∀x∈M.lv,x.2.length+1<100000):OkV (freeV M b):=by
 refine⟨O.lo,O.hi,qYH O.lvs,O.ins,O.un,?_⟩;show∀x∈Je M.lv b,x.2.length<100000;cases hl:M.lv with
 |nil=>intro x hx;cases hx
 |cons y r=>
  rw[hl]at hf;intro x hx;rcases List.mem_cons.1 hx with rfl |hx
  ·have:=hf y (iK ..);simpa using this
  ·have:=hf x (iX _ hx);omega
theorem GQ {n:Nat} (hn:1≤n) {x:Int}:t_w n 335 [.int .i64 x] h λv h'=>v=.int .i64 (vi x)∧h'=h:=by
 refine t_e1 (S:=S335) rfl omQ λk hk=>?_;unfold S335;try simp only[iZ]
 repeat' (first |with_reducible refine qZ ?_ |with_reducible refine qJ ?_ |(with_reducible refine qa ?_;try dsimp only) |(with_reducible refine qp ?_;try dsimp only) |(with_reducible refine qR ?_;try dsimp only) |(with_reducible refine qc ?_;try dsimp only) |(with_reducible refine jt ?_;try dsimp only) |with_reducible refine qE ?_ |with_reducible refine qC ?_ |(with_reducible refine qV ?_;try dsimp only) |with_reducible refine qx ?_ |with_reducible refine jW ?_ |with_reducible refine jk ?_ |with_reducible refine qb omQ ?_ |with_reducible refine jr omQ ?_ |with_reducible refine yN omQ ?_ |with_reducible refine vo omQ ?_ |with_reducible refine zZ ?_ |with_reducible refine ze ?_ |with_reducible refine z7 (λhc=>?_) (λhc=>?_) |with_reducible refine wF (λhc=>?_) (λhc=>?_) |with_reducible refine wL (λhc=>?_) (λhc=>?_) |with_reducible refine yq (λhc=>?_) (λhc=>?_) |with_reducible refine vp (λhc=>?_) (λhc=>?_) |with_reducible refine vw (λhc=>?_) (λhc=>?_) |with_reducible refine gS (λhc=>?_) (λhc=>?_))
 ·refine qq ⟨?_,rfl⟩;unfold vi;congr 1;repeat' split<;>omega
 ·refine qq ⟨?_,rfl⟩;unfold vi;congr 1;repeat' split<;>omega
 ·refine qgl omQ ?_;refine qq ⟨?_,rfl⟩;rcases(show x=1∨x=2∨x=3∨x=4 by omega)with rfl |rfl |rfl |rfl<;>rfl
theorem qK0 {n:Nat} (hn:2≤n) {x:Int}:t_w n 297 [.int .i64 x] h λv h'=>v=.int .i64 (xj x)∧h'=h:=by
 refine t_e1 (S:=S297) rfl omQ λk hk=>?_;unfold S297;try simp only[iZ]
 repeat' (first |with_reducible refine qZ ?_ |with_reducible refine qJ ?_ |(with_reducible refine qa ?_;try dsimp only) |(with_reducible refine qp ?_;try dsimp only) |(with_reducible refine qR ?_;try dsimp only) |(with_reducible refine qc ?_;try dsimp only) |(with_reducible refine jt ?_;try dsimp only) |with_reducible refine qE ?_ |with_reducible refine qC ?_ |(with_reducible refine qV ?_;try dsimp only) |with_reducible refine qx ?_ |with_reducible refine jW ?_ |with_reducible refine jk ?_ |with_reducible refine qb omQ ?_ |with_reducible refine jr omQ ?_ |with_reducible refine yN omQ ?_ |with_reducible refine vo omQ ?_ |with_reducible refine zZ ?_ |with_reducible refine ze ?_ |with_reducible refine z7 (λhc=>?_) (λhc=>?_) |with_reducible refine wF (λhc=>?_) (λhc=>?_) |with_reducible refine wL (λhc=>?_) (λhc=>?_) |with_reducible refine yq (λhc=>?_) (λhc=>?_) |with_reducible refine vp (λhc=>?_) (λhc=>?_) |with_reducible refine vw (λhc=>?_) (λhc=>?_) |with_reducible refine gS (λhc=>?_) (λhc=>?_))
 ·refine qq ⟨?_,rfl⟩;unfold xj;congr 1;repeat' split<;>omega
 ·refine jw (λm s g=>∃i:Int,s=(.int .i64 i,.int .i64 x,())∧1≤i∧i≤5∧(m:Int)=5-i∧g=h∧(1<i→2<x)∧(2<i→4<x)∧(3<i→8<x)∧(4<i→16<x)) ?_ (m:=4) od ⟨1,rfl,by omega,by omega,by omega,rfl,by omega,by omega,by omega,by omega⟩;rintro m ih s g hih ⟨i,rfl,h1,h2,h3,rfl,h4,h5,h6,h7⟩;dsimp only
  repeat' (first |with_reducible refine qZ ?_ |with_reducible refine qJ ?_ |(with_reducible refine qa ?_;try dsimp only) |(with_reducible refine qp ?_;try dsimp only) |(with_reducible refine qR ?_;try dsimp only) |(with_reducible refine qc ?_;try dsimp only) |(with_reducible refine jt ?_;try dsimp only) |with_reducible refine qE ?_ |with_reducible refine qC ?_ |(with_reducible refine qV ?_;try dsimp only) |with_reducible refine qx ?_ |with_reducible refine jW ?_ |with_reducible refine jk ?_ |with_reducible refine qb omQ ?_ |with_reducible refine jr omQ ?_ |with_reducible refine yN omQ ?_ |with_reducible refine vo omQ ?_ |with_reducible refine zZ ?_ |with_reducible refine ze ?_ |with_reducible refine z7 (λhc=>?_) (λhc=>?_) |with_reducible refine wF (λhc=>?_) (λhc=>?_) |with_reducible refine wL (λhc=>?_) (λhc=>?_) |with_reducible refine yq (λhc=>?_) (λhc=>?_) |with_reducible refine vp (λhc=>?_) (λhc=>?_) |with_reducible refine vw (λhc=>?_) (λhc=>?_) |with_reducible refine gS (λhc=>?_) (λhc=>?_))
  ·refine qW (GQ omQ) ?_;rintro v g' ⟨rfl,rfl⟩
   repeat' (first |with_reducible refine qZ ?_ |with_reducible refine qJ ?_ |(with_reducible refine qa ?_;try dsimp only) |(with_reducible refine qp ?_;try dsimp only) |(with_reducible refine qR ?_;try dsimp only) |(with_reducible refine qc ?_;try dsimp only) |(with_reducible refine jt ?_;try dsimp only) |with_reducible refine qE ?_ |with_reducible refine qC ?_ |(with_reducible refine qV ?_;try dsimp only) |with_reducible refine qx ?_ |with_reducible refine jW ?_ |with_reducible refine jk ?_ |with_reducible refine qb omQ ?_ |with_reducible refine jr omQ ?_ |with_reducible refine yN omQ ?_ |with_reducible refine vo omQ ?_ |with_reducible refine zZ ?_ |with_reducible refine ze ?_ |with_reducible refine z7 (λhc=>?_) (λhc=>?_) |with_reducible refine wF (λhc=>?_) (λhc=>?_) |with_reducible refine wL (λhc=>?_) (λhc=>?_) |with_reducible refine yq (λhc=>?_) (λhc=>?_) |with_reducible refine vp (λhc=>?_) (λhc=>?_) |with_reducible refine vw (λhc=>?_) (λhc=>?_) |with_reducible refine gS (λhc=>?_) (λhc=>?_))
   ·refine qq ⟨?_,rfl⟩;unfold vi at*;unfold xj;congr 1;repeat' split<;>omega
   ·refine hih (m-1) _ _ omQ ⟨i+1,rfl,by omega,by omega,by omega,rfl,?_,?_,?_,?_⟩<;>(unfold vi at*;repeat' split at* <;>omega)
  ·refine qq ⟨?_,rfl⟩;unfold xj;congr 1;repeat' split<;>omega
theorem YU {n:Nat} (hn:1≤n) {c:Int} (hc:0≤c∧c≤4):t_w n 168 [.int .i64 c] h λv h'=>v=.int .i64 c∧h'=h:=by
 refine t_e1 (S:=S168) rfl omQ λk hk=>?_;unfold S168;try simp only[iZ]
 refine qb omQ ?_;exact qq ⟨by congr 1;omega,rfl⟩
theorem qQm {n:Nat} (hn:1≤n) {w:Int}:t_w n 199 [.int .u64 w] h λv h'=>v=.tup [.int .i64 (Xn w).1,.bool (Xn w).2]∧h'=h:=by
 refine t_e1 (S:=S199) rfl omQ λk hk=>?_;unfold S199;try simp only[iZ]
 unfold Xn;by_cases h1:1≤w∧w≤4
 ·rw[iJ h1];refine zv omQ ?_;refine qV ?_;(try dsimp only);refine qa ?_;(try dsimp only);refine QA omQ ?_;refine qE (qZ (xY omQ ?_))
  exact qq ⟨rfl,rfl⟩
 ·rw[iQ h1];by_cases h2:9≤w∧w≤12
  ·rw[iJ h2];refine zv omQ ?_;refine qV ?_;(try dsimp only);refine qa ?_;(try dsimp only);refine Q6 omQ ?_;refine qE (qJ (zv omQ ?_));refine qV ?_;(try dsimp only);refine qa ?_;(try dsimp only);refine QA omQ ?_;refine qE (qZ (vo omQ ?_));refine xY omQ ?_
   exact qq ⟨rfl,rfl⟩
  ·rw[iQ h2]
   repeat' (first |with_reducible refine qZ ?_ |with_reducible refine qJ ?_ |(with_reducible refine qa ?_;try dsimp only) |(with_reducible refine qp ?_;try dsimp only) |(with_reducible refine qR ?_;try dsimp only) |(with_reducible refine qc ?_;try dsimp only) |(with_reducible refine jt ?_;try dsimp only) |with_reducible refine qE ?_ |with_reducible refine qC ?_ |(with_reducible refine qV ?_;try dsimp only) |with_reducible refine qx ?_ |with_reducible refine jW ?_ |with_reducible refine jk ?_ |with_reducible refine qb omQ ?_ |with_reducible refine jr omQ ?_ |with_reducible refine yN omQ ?_ |with_reducible refine vo omQ ?_ |with_reducible refine zZ ?_ |with_reducible refine ze ?_ |with_reducible refine qz omQ ?_ |with_reducible refine qK omQ ?_ |with_reducible refine qu omQ ?_ |with_reducible refine q8 omQ ?_ |with_reducible refine jB omQ ?_ |with_reducible refine jK omQ ?_ |with_reducible refine QA omQ ?_ |with_reducible refine Q6 omQ ?_ |with_reducible refine yj omQ ?_ |with_reducible refine xW omQ ?_ |with_reducible refine zv omQ ?_ |with_reducible refine zK omQ ?_ |with_reducible refine z7 (λhc=>?_) (λhc=>?_) |with_reducible refine wF (λhc=>?_) (λhc=>?_) |with_reducible refine wL (λhc=>?_) (λhc=>?_) |with_reducible refine yq (λhc=>?_) (λhc=>?_) |with_reducible refine vp (λhc=>?_) (λhc=>?_) |with_reducible refine vw (λhc=>?_) (λhc=>?_) |with_reducible refine gS (λhc=>?_) (λhc=>?_))
   all_goals exact qq ⟨rfl,rfl⟩
theorem Ma {n:Nat} (hn:10≤n) {v:Nat} {M:VM} {b:Int} (H:HS g h (ViewC v M::R)) (O:OkV M) :
  t_w n 166 [.ptr v 0,.int .i64 b] h λr h'=>r=.tup [.int .i64 (ji M b).1.1,.bool (ji M b).1.2.1,.int .i64 (ji M b).1.2.2]∧HS g h' (ViewC v (ji M b).2::R):=by
 refine t_e2 (S:=S166) rfl omQ λk hk=>?_;unfold S166;try simp only[iZ]
 unfold ji;by_cases h1:b≤14
 ·rw[iJ (.inl h1)];refine QA omQ ?_;refine qV ?_;(try dsimp only);refine qp ?_;(try dsimp only);refine qE (qZ ?_)
  exact qq ⟨rfl,H⟩
 ·refine Q6 omQ ?_;refine qV ?_;(try dsimp only);refine qc ?_;(try dsimp only)
  refine qW (Ux omQ H) ?_;rintro _ _ ⟨rfl,rfl⟩;by_cases h2:(M.sz:Int)≤b
  ·rw[iJ (.inr h2)];refine zv omQ ?_;refine qC (qZ ?_);exact qq ⟨rfl,H⟩
  ·rw[iQ omQ];refine zK omQ ?_;refine qC (qJ ?_);have:=O.hi;refine jr omQ (qW (Qn omQ H O) ?_);rintro _ h3 ⟨rfl,H3⟩;simp only[show((1:Nat):Int)=1 from rfl]at H3 ⊢;refine qy rfl ?_;refine qy rfl ?_;by_cases h4:(qf M (b-1)).1.2=0
   ·rw[iJ h4];refine q8 omQ ?_;refine qJ (qW (qQm omQ) ?_);rintro _ _ ⟨rfl,rfl⟩;refine qy rfl ?_;refine qy rfl ?_;by_cases h5:(Xn (qf M (b-1)).1.1).1=0
    ·rw[iJ h5];refine qz omQ ?_;refine qZ ?_;exact qq ⟨rfl,H3⟩
    ·rw[iQ h5];refine qK omQ ?_;refine qJ ?_;exact qq ⟨rfl,H3⟩
   ·rw[iQ h4];refine qu omQ ?_;refine qZ ?_;exact qq ⟨rfl,H3⟩
theorem qGn {n:Nat} (hn:11≤n) {v:Nat} {M:VM} {b:Int} (H:HS g h (ViewC v M::R)) (O:OkV M) :
  t_w n 232 [.ptr v 0,.int .i64 b] h λr h'=>r=.int .i64 (vO M b).1∧HS g h' (ViewC v (vO M b).2::R):=by
 refine t_e2 (S:=S232) rfl omQ λk hk=>?_;unfold S232;try simp only[iZ]
 refine qW (Ma omQ H O) ?_;rintro _ h1 ⟨rfl,H1⟩;have hb:=NJ M b;have hO:=XB (b:=b) O;have:=O.hi;unfold vO;refine qy rfl ?_;refine qy rfl ?_;refine qy rfl ?_;refine qV ?_;(try dsimp only)
 by_cases h2:(ji M b).1.2.2=0
 ·rw[iJ h2];refine qz omQ ?_;refine qV ?_;(try dsimp only);refine qa ?_;(try dsimp only)
  cases h3:(ji M b).1.2.1
  ·rw[iQ osQ];refine jk (qE (qZ (qV ?_)));(try dsimp only);refine qK omQ ?_;refine qJ (qV ?_);(try dsimp only);refine qK omQ ?_;refine qJ (qx ?_)
   exact qq ⟨rfl,H1⟩
  ·rw[iJ rfl];refine jW (qE (qJ (qV ?_)));(try dsimp only);refine qz omQ ?_;refine qZ (jr omQ ?_);refine kC omQ ?_;refine qH rfl ?_
   simp only[show((1:Nat):Int)=1 from rfl];refine(qe (n:=1) (l:=[.int .i64 (b-1),.int .u64 (ji M b).1.1]) (sz:=2) H1 rfl rfl rfl rfl λv3 h3 H3=>?_);refine qW (Y4 (cs:=[(b-1,(ji M b).1.1)]) omQ (H3.sel e_1) hO (.own .here) osQ) ?_;rintro _ h4 ⟨rfl,H4⟩;by_cases h5:(ju (ji M b).2 [(b-1,(ji M b).1.1)]).1=0
   ·rw[iJ h5];refine qV ?_;(try dsimp only);refine qz omQ ?_;refine qZ ?_
    refine qW (qYD omQ H4 (OI hO)) ?_;intro _ h6 H6;refine qx ?_;exact qq ⟨by rw[h5],H6.sub (.cons .here (.drop (.refl)))⟩
   ·rw[iQ h5];refine qV ?_;(try dsimp only);refine qK omQ ?_;refine qJ (qx ?_)
    exact qq ⟨rfl,H4.sub (.cons .here (.drop (.refl)))⟩
 ·rw[iQ h2];refine qK omQ ?_;refine qV ?_;(try dsimp only);refine qR ?_;(try dsimp only);refine qC (qJ (qV ?_));(try dsimp only);refine qK omQ ?_;refine qJ (qV ?_);(try dsimp only);refine qK omQ ?_;refine qJ (qx ?_)
  exact qq ⟨rfl,H1⟩
theorem qGs {n:Nat} (hn:11≤n) {v:Nat} {M:VM} {b:Int} (H:HS g h (ViewC v M::R)) (O:OkV M) :
  t_w n 140 [.ptr v 0,.int .i64 b] h λr h'=>r=.int .i64 (xw M b).1∧HS g h' (ViewC v (xw M b).2::R):=by
 refine t_e2 (S:=S140) rfl omQ λk hk=>?_;unfold S140;try simp only[iZ]
 refine qW (Ma omQ H O) ?_;rintro _ h1 ⟨rfl,H1⟩;have hb:=NJ M b;have hO:=XB (b:=b) O;have:=O.hi;unfold xw;refine qy rfl ?_;refine qy rfl ?_;refine qy rfl ?_;refine qV ?_;(try dsimp only)
 by_cases h2:(ji M b).1.2.2=0
 ·rw[iJ h2];refine qz omQ ?_;refine qV ?_;(try dsimp only);refine qa ?_;(try dsimp only);refine qE ?_
  cases h3:(ji M b).1.2.1
  ·rw[iQ osQ];refine qJ (q8 omQ ?_);refine qJ (qW (YU omQ omQ) ?_);rintro _ _ ⟨rfl,rfl⟩;refine qW (Qn omQ H1 hO) ?_;rintro _ h4 ⟨rfl,H4⟩;refine qy rfl ?_;refine qy rfl ?_;by_cases h5:(qf (ji M b).2 (ji M b).1.1).1.2=0
   ·rw[iJ h5];refine q8 omQ ?_;refine qJ (qH rfl ?_);refine qW (YU omQ omQ) ?_;rintro _ _ ⟨rfl,rfl⟩;refine kC omQ ?_;refine qH rfl (qe (n:=2) (l:=[.int .i64 b,.int .u64 (qf (ji M b).2 (ji M b).1.1).1.1,.int .i64 (ji M b).1.1,.int .u64 b]) (sz:=2) H4 rfl rfl rfl rfl λv5 h5 H5=>?_);refine qW (Y4 (cs:=[(b,(qf (ji M b).2 (ji M b).1.1).1.1),((ji M b).1.1,b)]) omQ (H5.sel e_1) (xO hO) (.own .here) osQ) ?_;rintro _ h6 ⟨rfl,H6⟩;refine qx ?_;exact qq ⟨rfl,H6.sub (.cons .here (.drop (.refl)))⟩
   ·rw[iQ h5];refine qu omQ ?_;refine qZ (qx ?_);exact qq ⟨rfl,H4⟩
  ·rw[iJ rfl];refine qZ (qu omQ ?_);refine qZ (qx ?_);exact qq ⟨rfl,H1⟩
 ·rw[iQ h2];refine qK omQ ?_;refine qV ?_;(try dsimp only);refine qR ?_;(try dsimp only);refine qC (qJ (qu omQ ?_));refine qZ (qx ?_)
  exact qq ⟨rfl,H1⟩
theorem qX4 {n:Nat} (hn:10≤n) {v:Nat} {M:VM} {c b:Int} (H:HS g h (ViewC v M::R)) (O:OkV M) (hc:1≤c∧c≤4) (hb:0≤b) :
  t_w n 298 [.ptr v 0,.int .i64 c,.int .u64 b] h λr h'=>r=.tup [.int .i64 (xi M c b).1.1,.int .i64 (xi M c b).1.2]∧HS g h' (ViewC v (xi M c b).2::R):=by
 refine t_e3 (S:=S298) rfl omQ λk hk=>?_;unfold S298;try simp only[iZ]
 unfold xi;by_cases h1:2147483648≤b
 ·rw[iJ h1];refine zv omQ ?_;refine qZ ?_;exact qq ⟨rfl,H⟩
 ·rw[iQ h1];refine zK omQ ?_;refine qJ (xY omQ ?_);refine qW (Qn omQ H O) ?_;rintro _ h3 ⟨rfl,H3⟩;refine qy rfl ?_;refine qy rfl ?_;refine qV ?_;(try dsimp only)
  by_cases h4:(qf M b).1.2=0
  ·rw[iJ h4];refine qz omQ ?_;refine qZ (qW (YU omQ omQ) ?_);rintro _ _ ⟨rfl,rfl⟩;refine qH rfl (jr omQ (qb omQ (kC omQ (qH rfl ?_))));refine qe (n:=2) (l:=[.int .i64 c,.int .u64 (qf M b).1.1,.int .i64 (b-1),.int .u64 (c+8)]) (sz:=2) H3 rfl rfl rfl rfl λv5 h5 H5=>?_;refine qW (Y4 (cs:=[(c,(qf M b).1.1),(b-1,c+8)]) omQ (H5.sel e_1) (xO O) (.own .here) osQ) ?_;rintro _ h6 ⟨rfl,H6⟩;by_cases h7:(ju (qf M b).2 [(c,(qf M b).1.1),(b-1,c+8)]).1=0
   ·rw[iJ h7];refine q8 omQ ?_;refine qJ (qx ?_);exact qq ⟨rfl,H6.sub (.cons .here (.drop (.refl)))⟩
   ·rw[iQ h7];refine qu omQ ?_;refine qZ (qx ?_);exact qq ⟨rfl,H6.sub (.cons .here (.drop (.refl)))⟩
  ·rw[iQ h4];refine qK omQ ?_;refine qJ (qu omQ ?_);refine qZ (qx ?_);exact qq ⟨rfl,H3⟩
theorem qX7 {n:Nat} (hn:10≤n) {v:Nat} {M:VM} {c:Int} (H:HS g h (ViewC v M::R)) (O:OkV M) (W:WdV M) (hc:1≤c∧c≤4) :
  t_w n 299 [.ptr v 0,.int .i64 c] h λr h'=>r=.tup [.int .i64 (xe M c).1.1,.int .i64 (xe M c).1.2]∧HS g h' (ViewC v (xe M c).2::R):=by
 refine t_e2 (S:=S299) rfl omQ λk hk=>?_;unfold S299;try simp only[iZ]
 unfold xe;refine qW (Qn omQ H O) ?_;rintro _ h3 ⟨rfl,H3⟩;have hw:=W.read (p:=5);simp only[show((5:Nat):Int)=5 from rfl]at H3 ⊢;have hs:=Mf c;have hO:=O.hi;refine qy rfl ?_;refine qy rfl ?_;by_cases h4:(qf M 5).1.2=0
 ·rw[iJ h4];refine q8 omQ ?_;refine qJ ?_;have hsz:(qf M 5).2.sz=M.sz:=qYF;by_cases h5:(qf M 5).1.1<14∨2147483648≤(qf M 5).1.1∨(M.sz:Int)<(qf M 5).1.1+1+vi c
  ·rw[iJ h5];by_cases h6:(qf M 5).1.1<14
   ·refine jB omQ ?_;refine qV ?_;(try dsimp only);refine qp ?_;(try dsimp only);refine qE (qV ?_);(try dsimp only);refine qp ?_;(try dsimp only);refine qE (qZ ?_)
    exact qq ⟨rfl,H3⟩
   ·by_cases h7:2147483648≤(qf M 5).1.1
    ·refine jK omQ ?_;refine qV ?_;(try dsimp only);refine qc ?_;(try dsimp only);refine zv omQ ?_;refine qC (qV ?_);(try dsimp only);refine qp ?_;(try dsimp only);refine qE (qZ ?_)
     exact qq ⟨rfl,H3⟩
    ·refine jK omQ ?_;refine qV ?_;(try dsimp only);refine qc ?_;(try dsimp only);refine zK omQ ?_;refine qC (qV ?_);(try dsimp only);refine qc ?_;(try dsimp only);refine xY omQ ?_;refine qb omQ ?_
     refine qW (GQ omQ) ?_;rintro _ _ ⟨rfl,rfl⟩;refine qb omQ ?_;refine qW (Ux omQ H3) ?_;rintro _ _ ⟨rfl,rfl⟩;rw[hsz];refine yj omQ ?_;refine qC (qZ ?_);exact qq ⟨rfl,H3⟩
  ·rw[iQ h5];refine jK omQ ?_;refine qV ?_;(try dsimp only);refine qc ?_;(try dsimp only);refine zK omQ ?_;refine qC (qV ?_);(try dsimp only);refine qc ?_;(try dsimp only);refine xY omQ ?_;refine qb omQ ?_
   refine qW (GQ omQ) ?_;rintro _ _ ⟨rfl,rfl⟩;refine qb omQ ?_;refine qW (Ux omQ H3) ?_;rintro _ _ ⟨rfl,rfl⟩;rw[hsz];refine xW omQ ?_;refine qC (qJ (xY omQ ?_));refine qb omQ ?_;refine qW (GQ omQ) ?_;rintro _ _ ⟨rfl,rfl⟩;refine qb omQ (kC omQ (qH rfl (qb omQ (kC omQ (qH rfl ?_)))));refine qe (n:=2) (l:=[.int .i64 5,.int .u64 ((qf M 5).1.1+1+vi c),.int .i64 (qf M 5).1.1,.int .u64 (c+8)]) (sz:=2) H3 rfl rfl rfl rfl λv5 h5 H5=>?_;refine qW (Y4 (cs:=[(5,(qf M 5).1.1+1+vi c),((qf M 5).1.1,c+8)]) omQ (H5.sel e_1) (xO O) (.own .here) osQ) ?_;rintro _ h6 ⟨rfl,H6⟩;by_cases h7:(ju (qf M 5).2 [(5,(qf M 5).1.1+1+vi c),((qf M 5).1.1,c+8)]).1=0
   ·rw[iJ h7];refine q8 omQ ?_;refine qJ (qb omQ ?_);exact qq ⟨rfl,H6.sub (.cons .here (.drop (.refl)))⟩
   ·rw[iQ h7];refine qu omQ ?_;refine qZ ?_;exact qq ⟨rfl,H6.sub (.cons .here (.drop (.refl)))⟩
 ·rw[iQ h4];refine qu omQ ?_;refine qZ ?_;exact qq ⟨rfl,H3⟩
theorem qXe {n:Nat} (hn:11≤n) {v:Nat} {M:VM} {x:Int} (H:HS g h (ViewC v M::R)) (O:OkV M) (W:WdV M) :
  t_w n 231 [.ptr v 0,.int .i64 x] h λr h'=>r=.tup [.int .i64 (zd M x).1.1,.int .i64 (zd M x).1.2]∧HS g h' (ViewC v (zd M x).2::R):=by
 refine t_e2 (S:=S231) rfl omQ λk hk=>?_;unfold S231;try simp only[iZ]
 refine qW (qK0 omQ) ?_;rintro _ _ ⟨rfl,rfl⟩;have hc:=ZH x;unfold zd;by_cases h1:xj x=0
 ·rw[iJ h1];refine qz omQ ?_;refine qZ ?_;exact qq ⟨rfl,H⟩
 ·rw[iQ h1];refine qK omQ ?_;refine qJ (qW (YU omQ hc) ?_);rintro _ _ ⟨rfl,rfl⟩;refine qW (Qn omQ H O) ?_;rintro _ h3 ⟨rfl,H3⟩;have hw:=W.read (p:=xj x);refine qy rfl ?_;refine qy rfl ?_;by_cases h4:(qf M (xj x)).1.2=0
  ·rw[iJ h4];by_cases h5:(qf M (xj x)).1.1=0
   ·rw[iJ h5];refine q8 omQ ?_;refine qJ (q8 omQ ?_);refine qJ (qW (qX7 omQ H3 (xO O) W.read2 omQ) ?_);rintro _ h6 ⟨rfl,H6⟩;refine qy rfl ?_;refine qy rfl ?_;exact qq ⟨rfl,H6⟩
   ·rw[iQ h5];refine q8 omQ ?_;refine qJ (qu omQ ?_);refine qZ (qW (qX4 omQ H3 (xO O) omQ hw.1) ?_);rintro _ h6 ⟨rfl,H6⟩;refine qy rfl ?_;refine qy rfl ?_;exact qq ⟨rfl,H6⟩
  ·rw[iQ h4];refine qu omQ ?_;refine qZ ?_;exact qq ⟨rfl,H3⟩
def K6 (n:Int):List Int:=(List.replicate (szZ n) (0:Int)).set 5 14
theorem qKH {n:Nat} (hn:1≤n) {x:Int} (H:HS g h R):t_w n 25 [.int .i64 x] h λv h'=>∃e,HS g h' (qA e 1 (szZ x) v ((K6 x).map (.int .u64))::R):=by
 refine t_e1 (S:=S25) rfl omQ λk hk=>?_;unfold S25;try simp only[iZ]
 have hb:=Ze x;refine zZ (ze ?_);rw[show max ((32:Nat):Int) (min x ((256:Nat):Int))=((szZ x:Nat):Int) by unfold szZ;omega];refine Jr H omQ λv h2 H2=>?_;refine X0 (i:=5) H2 omQ ⟨rfl,rfl⟩ λh3 H3=>?_;unfold K6;rw[List.map_set,List.map_replicate];exact qq ⟨_,H3⟩
end
section
variable {g h:AH} {L R:List SP}
end
section
def jE (x lo hi:Int):Int:=lo+(if x.tmod (hi-lo+1)<0 then x.tmod (hi-lo+1)+(hi-lo+1)else x.tmod (hi-lo+1))
theorem JF (x:Int) {m:Int} (hm:0<m):-m<x.tmod m∧x.tmod m<m:=by refine⟨?_,Int.tmod_lt_of_pos x hm⟩;have:=Int.tmod_lt_of_pos (-x) hm;rw[Int.neg_tmod]at this;omega
theorem zq (x:Int) {lo hi:Int} (h:lo≤hi):lo≤jE x lo hi∧jE x lo hi≤hi:=by
 have:=JF x (show 0<hi-lo+1 by omega);unfold jE
 split<;>omega
theorem xJ {n:Nat} (hn:1≤n) {x lo hi:Int} {h:AH} (h1:lo≤hi) (h2:-1000000000≤lo) (h3:hi≤1000000000) :
  t_w n 10 [.int .i64 x,.int .i64 lo,.int .i64 hi] h λv h'=>v=.int .i64 (jE x lo hi)∧h'=h:=by
 refine t_e3 (S:=S10) rfl omQ λk hk=>?_;unfold S10;try simp only[iZ]
 simp only[show((1:Nat):Int)=1 from rfl,show((0:Nat):Int)=0 from rfl];have hb:=JF x (show 0<hi-lo+1 by omega);unfold jE
 repeat' (first |(first |with_reducible refine qZ ?_ |with_reducible refine qJ ?_ |(with_reducible refine qa ?_;try dsimp only) |(with_reducible refine qp ?_;try dsimp only) |(with_reducible refine qR ?_;try dsimp only) |(with_reducible refine qc ?_;try dsimp only) |(with_reducible refine jt ?_;try dsimp only) |with_reducible refine qE ?_ |with_reducible refine qC ?_ |(with_reducible refine qV ?_;try dsimp only) |with_reducible refine qx ?_ |with_reducible refine jW ?_ |with_reducible refine jk ?_ |with_reducible refine qb omQ ?_ |with_reducible refine jr omQ ?_ |with_reducible refine yN omQ ?_ |with_reducible refine vo omQ ?_ |with_reducible refine zZ ?_ |with_reducible refine ze ?_) |with_reducible refine Q7 omQ ?_ |(first |with_reducible refine z7 (λhc=>?_) (λhc=>?_) |with_reducible refine wF (λhc=>?_) (λhc=>?_) |with_reducible refine wL (λhc=>?_) (λhc=>?_) |with_reducible refine yq (λhc=>?_) (λhc=>?_) |with_reducible refine vp (λhc=>?_) (λhc=>?_) |with_reducible refine vw (λhc=>?_) (λhc=>?_) |with_reducible refine gS (λhc=>?_) (λhc=>?_)))
 all_goals refine qq ⟨?_,rfl⟩
 all_goals congr 1
 all_goals (first |rw[iJ omQ] |rw[iQ omQ])
 all_goals omega
end
section
theorem qXE {l:List ES} {a b:List AV} {K:AV→Go.Ae.R} {Q:AV→AH→Prop} {neg:Bool} {p:Prop} [Decidable p] (e:xV l a b=some (decide p)) (h1:p→wp (K (.bool (!neg))) Q) (h2:¬p→wp (K (.bool neg)) Q):wp (Yn l neg (.agg a) (.agg b) K) Q:=by
 unfold Yn;simp only[e,ob];by_cases h:p
 ·have:=h1 h;simpa[h]using this
 ·have:=h2 h;simpa[h]using this
end
section
variable {g h:AH} {L R:List SP}
def AskP (M M':VM):Prop:=M'.sz=M.sz∧M'.K=M.K∧M'.most=M.most∧(M'.need=M.need∨M'.lv=M.lv∧1≤M'.need∧M'.need<M.sz∧zj M'.need M.K=none)
theorem AskP.refl (M:VM):AskP M M:=⟨rfl,rfl,rfl,.inl rfl⟩
theorem Ga {M:VM} {p:Int} (h:(qf M p).1.2=0):(qf M p).2=M:=by
 unfold qf at h ⊢
 split
 ·rename_i h1;rw[iJ h1]at h
  split
  ·rfl
  ·rename_i h2;rw[h2]at h;dsimp only at h ⊢
   split
   ·rfl
   ·rename_i h3;rw[h3]at h;cases h
 ·rfl
theorem Kd (M:VM) (p:Int):AskP M (qf M p).2:=by
 unfold qf
 split
 ·rename_i h1
  split
  ·exact .refl M
  ·split
   ·exact .refl M
   ·rename_i h3;exact⟨rfl,rfl,rfl,.inr ⟨rfl,h1.1,h1.2,h3⟩⟩
 ·exact .refl M
theorem qkN (M:VM) (b:Int):AskP M (ji M b).2∧((ji M b).1.2.2=0→(ji M b).2=M):=by
 unfold ji
 split
 ·exact⟨.refl M,λ_=>rfl⟩
 ·split
  ·rename_i h1
   split
   ·exact⟨Kd M _,λ_=>Ga h1⟩
   ·exact⟨Kd M _,λ_=>Ga h1⟩
  ·rename_i h1;exact⟨Kd M _,λh=>absurd h h1⟩
theorem frS_put {most:Nat} {lv:List LvM} {p v:Int}:frS (gX most lv p v).2=frS lv:=by
 cases lv with
 |nil=>rfl
 |cons x r=>obtain⟨c,hc⟩:=GH (most:=most) (x:=x) (r:=r) (p:=p) (v:=v);rw[hc,km,km]
theorem qGO {most:Nat} {was:List LvM}:∀{cs:List Cl} {lv:List LvM},frS lv=frS was→frS (vT most was lv cs).2=frS was:=by
 intro cs
 induction cs with
 |nil=>intro lv h;exact h
 |cons c cs ih=>
  intro lv h;rw[gK]
  split
  ·exact ih (frS_put.trans h)
  ·rfl
theorem gc {M:VM} {cs:List Cl}:frS (ju M cs).2.lv=frS M.lv:=by
 unfold ju
 split
 ·exact qGO rfl
 ·rfl
theorem xR {M:VM} {p:Int}:frS (qf M p).2.lv=frS M.lv:=by
 unfold qf
 repeat' split
 all_goals rfl
theorem ky {M:VM} {b:Int}:frS (ji M b).2.lv=frS M.lv:=by
 unfold ji
 repeat' split
 all_goals first |rfl |exact xR
theorem qK7 {lv:List LvM} {b:Int}:frS (Je lv b)≤frS lv+1:=by
 cases lv with
 |nil=>simp[Je]
 |cons x r=>show frS ((x.1,x.2++[b])::r)≤_;rw[km,km,List.length_append];simp;omega
theorem qvl:∀{lv:List LvM} {x:LvM},x∈lv→x.2.length≤frS lv:=by
 intro l
 induction l with
 |nil=>intro x hx;cases hx
 |cons y r ih=>
  intro x hx;rw[km];rcases List.mem_cons.1 hx with rfl |hx
  ·omega
  ·have:=ih hx;omega
structure jC (M:VM):Prop where
  ok:OkV M
  wd:WdV M
theorem jC.read {M:VM} {p:Int} (G:jC M):jC (qf M p).2:=⟨xO G.ok,G.wd.read2⟩
theorem jC.take {M:VM} {cs:List Cl} (G:jC M) (h:WdC cs):jC (ju M cs).2:=⟨OI G.ok,G.wd.take h⟩
theorem jC.ask {M:VM} {b:Int} (G:jC M):jC (ji M b).2:=⟨XB G.ok,qkT G.wd⟩
theorem WdC.two {a b:Cl} (ha:0≤a.2∧a.2<18446744073709551616) (hb:0≤b.2∧b.2<18446744073709551616):WdC [a,b]:=by
 intro c hc;rcases List.mem_cons.1 hc with rfl |hc
 ·exact ha
 ·rw[List.mem_singleton]at hc;subst hc;exact hb
theorem WdC.one1 {a:Cl} (ha:0≤a.2∧a.2<18446744073709551616):WdC [a]:=by intro c hc;rw[List.mem_singleton]at hc;subst hc;exact ha
theorem jC.freeV {M:VM} {b:Int} (G:jC M) (hf:frS M.lv<90000):jC (freeV M b):=by
 refine⟨qqI G.ok λx hx=>by have:=qvl hx;omega,G.wd.k,?_⟩;show∀x∈Je M.lv b,∀c∈x.1,0≤c.2∧c.2<18446744073709551616;have:=G.wd.l;cases hl:M.lv with
 |nil=>intro x hx;cases hx
 |cons y r=>
  rw[hl]at this;intro x hx;rcases List.mem_cons.1 hx with rfl |hx
  ·exact this y (iK ..)
  ·exact this x (iX _ hx)
theorem jC.free {M:VM} {b:Int} (G:jC M) (hf:frS M.lv<90000):jC (vO M b).2∧frS (vO M b).2.lv≤frS M.lv+1:=by
 have hb:=NJ M b;have hc:WdC [(b-1,(ji M b).1.1)]:=.one1 ⟨hb.1,by dsimp only;omega⟩;unfold vO
 repeat' split
 ·refine⟨(G.ask.take hc).freeV (by rw[gc,ky];exact hf),?_⟩;have:=qK7 (lv:=(ju (ji M b).2 [(b-1,(ji M b).1.1)]).2.lv) (b:=b);rw[gc,ky]at this;exact this
 ·exact⟨G.ask.take hc,by rw[gc,ky];omega⟩
 ·exact⟨G.ask,by rw[ky];omega⟩
 ·exact⟨G.ask,by rw[ky];omega⟩
theorem jC.give {M:VM} {b:Int} (G:jC M):jC (xw M b).2∧frS (xw M b).2.lv=frS M.lv:=by
 have hb:=NJ M b;have hO:=G.ok.hi;unfold xw
 split
 ·rename_i h1;have hbb:=hb.2.2 h1
  split
  ·exact⟨G.ask,ky⟩
  ·split
   ·refine⟨(G.ask.read).take (.two G.ask.wd.read ⟨by dsimp only;omega,by dsimp only;omega⟩),by rw[gc,xR,ky]⟩
   ·exact⟨G.ask.read,by rw[xR,ky]⟩
 ·exact⟨G.ask,ky⟩
theorem jC.again {M:VM} {c b:Int} (G:jC M) (hc:0≤c∧c≤4):jC (xi M c b).2∧frS (xi M c b).2.lv=frS M.lv:=by
 have ht:WdC [(c,(qf M b).1.1),(b-1,c+8)]:=.two G.wd.read ⟨by dsimp only;omega,by dsimp only;omega⟩;unfold xi
 repeat' split
 ·exact⟨G,rfl⟩
 ·exact⟨G.read.take ht,by rw[gc,xR]⟩
 ·exact⟨G.read.take ht,by rw[gc,xR]⟩
 ·exact⟨G.read,xR⟩
theorem jC.grown {M:VM} {c:Int} (G:jC M) (hc:0≤c∧c≤4):jC (xe M c).2∧frS (xe M c).2.lv=frS M.lv:=by
 have hs:=Mf c;have hw:=G.wd.read (p:=5);unfold xe
 split
 ·split
  ·exact⟨G.read,xR⟩
  ·rename_i h1;have ht:WdC [(5,(qf M 5).1.1+1+vi c),((qf M 5).1.1,c+8)]:=.two ⟨by dsimp only;omega,by dsimp only;omega⟩ ⟨by dsimp only;omega,by dsimp only;omega⟩
   split
   ·exact⟨G.read.take ht,by rw[gc,xR]⟩
   ·exact⟨G.read.take ht,by rw[gc,xR]⟩
 ·exact⟨G.read,xR⟩
theorem jC.alloc {M:VM} {x:Int} (G:jC M):jC (zd M x).2∧frS (zd M x).2.lv=frS M.lv:=by
 have hc:=ZH x;unfold zd
 repeat' split
 ·exact⟨G,rfl⟩
 ·exact⟨(G.read.grown hc).1,by rw[(G.read.grown hc).2,xR]⟩
 ·exact⟨(G.read.again hc).1,by rw[(G.read.again hc).2,xR]⟩
 ·exact⟨G.read,xR⟩
theorem jC.openG {M:VM} (G:jC M):jC (yp M).2∧frS (yp M).2.lv=frS M.lv:=by
 have e:(kr M.lv).2=M.lv∨(kr M.lv).2=([],[])::M.lv:=by unfold kr;split<;>simp
 refine⟨⟨⟨G.ok.lo,G.ok.hi,qjM G.ok.lvs,G.ok.ins,G.ok.un,?_⟩,G.wd.k,?_⟩,?_⟩
 ·show∀x∈(kr M.lv).2,_;rcases e with e |e
  ·rw[e];exact G.ok.fr
  ·rw[e];intro x hx;rcases List.mem_cons.1 hx with rfl |hx
   ·simp
   ·exact G.ok.fr x hx
 ·show∀x∈(kr M.lv).2,_;rcases e with e |e
  ·rw[e];exact G.wd.l
  ·rw[e];intro x hx;rcases List.mem_cons.1 hx with rfl |hx
   ·intro c hc;cases hc
   ·exact G.wd.l x hx
 ·show frS (kr M.lv).2=_;rcases e with e |e
  ·rw[e]
  ·rw[e,km];simp
theorem jC.dropG {M:VM} (G:jC M):jC (xx M).2∧frS (xx M).2.lv≤frS M.lv:=by
 have e:(ko M.lv).2=M.lv∨(ko M.lv).2=M.lv.tail:=by unfold ko;split<;>simp
 have hs:∀x∈(ko M.lv).2,x∈M.lv:=by
  rcases e with e |e
  ·rw[e];exact λx hx=>hx
  ·rw[e];exact λx hx=>List.mem_of_mem_tail hx
 refine⟨⟨⟨G.ok.lo,G.ok.hi,qqF G.ok.lvs,G.ok.ins,G.ok.un,λx hx=>G.ok.fr x (hs x hx)⟩,G.wd.k,λx hx=>G.wd.l x (hs x hx)⟩,?_⟩;show frS (ko M.lv).2≤_;rcases e with e |e
 ·rw[e];exact Nat.le_refl _
 ·rw[e];cases M.lv with
  |nil=>exact Nat.le_refl _
  |cons x r=>rw[km];show frS r≤_;omega
theorem jC.keepG {M:VM} (G:jC M) (hf:frS M.lv<90000):jC (vF M).2∧frS (vF M).2.lv=frS M.lv:=by
 have hd:=qq7 G.ok.lvs;have hfr:=λx (hx:x∈(Qh M.lv).2)=>qvl hx;obtain⟨sz,K,most,lv,need⟩:=M;rcases lv with _ |⟨x,_ |⟨y,r⟩⟩
 ·exact⟨G,rfl⟩
 ·exact⟨G,rfl⟩
 ·have e:=qG6 (x:=x) (y:=y) (r:=r);refine⟨⟨⟨G.ok.lo,G.ok.hi,hd,G.ok.ins,G.ok.un,λz hz=>?_⟩,G.wd.k,λz hz=>?_⟩,e⟩
  ·have:=hfr z hz;rw[e]at this;have hf:frS (x::y::r)<90000:=hf;omega
  ·have hl:=G.wd.l;have hx:WdC x.1:=hl x osQ;have hy:WdC y.1:=hl y osQ;have hz:z∈(yb y.1 x.1,y.2++x.2)::r:=hz;rcases List.mem_cons.1 hz with rfl |hz
   ·exact hy.puts hx
   ·exact hl z (by simp[hz])
end
section
variable {g h:AH} {L R:List SP}
abbrev ItT:Type:=Int×Int
def itS (x:ItT):List UInt8:=if x.1=1 then Lib.decDigits x.2.toNat else if x.1=2 then(if x.2=1 then[121,101,115]else[110,111])else[110,111,110,101]
def Qg (x:ItT):AV:=if x.1=1 then .iface 22 (.int .u64 x.2)else if x.1=2 then .iface 4 (.bool (decide (x.2=1)))else .iface 364 (.agg [])
def qqe (x:ItT):Prop:=0≤x.2∧x.2<18446744073709551616
def txtM (l:List ItT):List UInt8:=Lib.join (l.map itS) [32]
theorem XL (x:ItT):One (Qg x):=by unfold Qg;(repeat' split)<;>exact⟨rfl,rfl⟩
theorem Uc (l:List ItT):qo (l.map Qg)=true:=by unfold qo;rw[List.all_eq_true];intro v hv;obtain⟨x,_,rfl⟩:=List.mem_map.1 hv;exact(XL x).2
theorem Vr {s:List UInt8} {k1 k2:IntKind} {lo hi:Nat} {K:AV→Go.Ae.R} {Q:AV→AH→Prop} (h1:lo≤hi) (h2:hi≤s.length) (w:wp (K (.str ((s.drop lo).take (hi-lo)))) Q):wp (vn (.str s) (some (.int k1 (lo:Int))) (some (.int k2 (hi:Int))) K) Q:=by unfold vn;simp only[vv h2,vv h1,ob,wh];rw[gI (by rw[List.length_drop];omega)];exact w
theorem qj0 {n:Nat} (hn:1≤n) {i:Nat} (hi:i<100):t_w n 254 [.int .i64 (i:Int)] h λr h'=>r=.str (Lib.decDigits i)∧h'=h:=by
 (refine qw (g:=W254) rfl omQ λk hk=>?_;show wp (S254 (callT tab qj k) _ _) _;unfold S254;try simp only[iI,uU,iZ])
 by_cases h1:i<10
 ·refine jB omQ (qZ ?_);refine qb omQ ?_;rw[show(i:Int)+((1:Nat):Int)=((i+1:Nat):Int) by omega];refine Vr omQ (by show i+1≤36;omega) (qq ⟨?_,rfl⟩);rw[← Lib.digits36_piece h1]
  congr 2
 ·refine jK omQ (qJ ?_);refine Kw omQ (Kw omQ (qb omQ ?_));rw[show(i:Int)*((2:Nat):Int)+((2:Nat):Int)=((i*2+2:Nat):Int) by omega,show(i:Int)*((2:Nat):Int)=((i*2:Nat):Int) by omega];refine Vr omQ (by show i*2+2≤200;omega) (qq ⟨?_,rfl⟩);rw[← Lib.smalls_piece h1 hi]
  congr 2
theorem nd_ok {n:Nat} (hn:1≤n) {u:Nat} (h1:1≤u) (h2:u<18446744073709551616):t_w n 255 [.int .u64 (u:Int)] h λr h'=>r=.int .i64 (Lib.nDigits u:Int)∧h'=h:=by refine qw (g:=W255) rfl omQ λk hk=>?_;show wp (xNd _ [.int .u64 (.ofNat u)] h) _;unfold xNd;dsimp only;rw[iY h1,iY (show u+1≤18446744073709551616 by omega)];exact⟨_,_,rfl,rfl,rfl⟩
theorem qqM:∀(bs:List UInt8),qGI (bs.map λc=>.int .u8 (.ofNat c.toNat))=some bs:=by
 intro bs
 induction bs with
 |nil=>rfl
 |cons b bs ih=>rw[List.map_cons];unfold qGI;rw[ih,iY (show b.toNat+1≤256 from b.toNat_lt)];simp
theorem fb_ok {n:Nat} (hn:1≤n) {b u nd:Nat} {bs:List UInt8} {ys:List AV} (H:HS g h (qk b ((bs.map λc=>.int .u8 (.ofNat c.toNat))++ys)::R)) (hb:bs.length=nd) (h1:u<10 ^ nd) (h2:u<18446744073709551616) (h3:nd≤100) (hys:qo ys=true) :
  t_w n 256 [.slice b 0 nd 24 false,.int .u64 (u:Int)] h λr h'=>HS g h' (qk b (dgs nd u++ys)::R):=by
 refine qw (g:=W256) rfl omQ λk hk=>?_;show wp (xFb _ [.slice b 0 nd 24 false,.int .u64 (.ofNat u)] h) _;obtain⟨D,⟨hD,e,A⟩,hb2,kk⟩:=H.act;obtain⟨c,c1,c2,c3⟩:=A.blk;unfold xFb;simp only[c1,c2];rw[List.take_append_of_le_length (by simp;omega),List.take_of_length_le (by simp;omega),qqM];simp only[];rw[show Nat.beq bs.length nd=true from by rw[hb];exact Nat.beq_refl _,iY (show u+1≤10 ^ nd by omega),iY (show u+1≤18446744073709551616 by omega),iY h3];simp only[Bool.and_self,cond_true];rw[List.drop_append_of_le_length (by simp;omega),List.drop_of_length_le (by simp;omega),List.nil_append];refine⟨_,_,rfl,kk _ (qk b (dgs nd u++ys)) D ⟨by simp,λa ha hn=>AH.get_put_ne h _ λe=>hn ((hD a).2 e.symm)⟩ ⟨hD,e,by simpa using A.lt,CT.ofList _,AH.get_put_same ..,CT.ofList_ok _,CT.full_ofList _⟩ λa ha=>⟨.inl ha,by simpa using(hb2 a ha).2⟩⟩
theorem qZE:∀(xs:List (List UInt8)),Gd (xs.map .str)=some xs:=by
 intro xs
 induction xs with
 |nil=>rfl
 |cons x xs ih=>rw[List.map_cons];unfold Gd;rw[ih];rfl
theorem qkp {n:Nat} (hn:1≤n) {b m:Nat} {e:TypeId} {xs:List (List UInt8)} {sep:List UInt8} (H:HS g h (Cell b (xs.map .str) e false::R)) (hm:xs.length=m) (h1:m≤1000000) (h2:(Lib.join xs sep).length≤1000000) :
  t_w n 153 [.slice b 0 m m false,.str sep] h λr h'=>r=.str (Lib.join xs sep)∧h'=h:=by
 refine qw (g:=W153) rfl omQ λk hk=>?_;show wp (Zq _ [.slice b 0 m m false,.str sep] h) _;obtain⟨D,hD,A⟩:=H.p .here;obtain⟨c,c1,c2,c3⟩:=A.blk;unfold Zq;simp only[c1,c2,List.drop_zero];rw[List.take_of_length_le (by simp;omega),qZE];simp only[];rw[show Nat.beq xs.length m=true from by rw[hm];exact Nat.beq_refl _,iY (Nat.le_refl m),iY h1,iY h2];exact⟨_,_,rfl,rfl,rfl⟩
theorem qVf (nd u:Nat):Qw (dgs nd u)=some ((List.range nd).map λt=>Lib.dg u (nd-1-t)):=by
 unfold dgs;have key:∀l:List Nat,Qw (l.map λt=>AV.int .u8 (.ofNat (Lib.dg u (nd-1-t)).toNat))=some (l.map λt=>Lib.dg u (nd-1-t)):=by
  intro l
  induction l with
  |nil=>rfl
  |cons a l ih=>rw[List.map_cons];unfold Qw;rw[ih];simp
 exact key _
theorem qX3 {n:Nat} (hn:2≤n) {u:Nat} (h2:u<18446744073709551616) (H:HS g h R):t_w n 208 [.int .u64 (u:Int),.int .i64 10] h λr h'=>r=.str (Lib.decDigits u)∧HS g h' R:=by
 refine t_e2 (S:=S208) rfl omQ λk hk=>?_;unfold S208;try simp only[iZ]
 refine qz rfl (qZ ?_);by_cases h1:u<100
 ·refine jB omQ (qZ ?_);refine xY omQ ?_;refine qW (qj0 omQ h1) ?_;rintro _ _ ⟨rfl,rfl⟩;exact qq ⟨rfl,H⟩
 ·refine jK omQ (qJ ?_);refine qI H rfl λb h3 H3=>?_;have hnd:=Lib.nDigits_le20 u h2;have hpos:=Lib.nDigits_pos u;have hlt:=Lib.lt_pow_nDigits u;have hdec:=Lib.decDigits_eq u;refine qW (nd_ok omQ omQ h2) ?_;generalize Lib.nDigits u=nd at*;have H4:HS g h3 (qk b (((List.replicate nd (0:UInt8)).map λc=>.int .u8 (.ofNat c.toNat))++List.replicate (24-nd) (.int .u8 (.ofNat 0)))::R):=by
   have e:(List.replicate nd (0:UInt8)).map (λc=>AV.int .u8 (.ofNat c.toNat))++List.replicate (24-nd) (AV.int .u8 (.ofNat 0))=List.replicate 24 (AV.int .u8 (.ofNat 0)):=by rw[List.map_replicate];show List.replicate nd (AV.int .u8 (.ofNat 0))++_=_;rw[List.replicate_append_replicate,show nd+(24-nd)=24 by omega]
   rw[e];exact H3
  rintro _ _ ⟨rfl,rfl⟩;have hcut:∀(K:AV→Go.Ae.R) (Q:AV→AH→Prop),wp (K (.slice b 0 nd 24 false)) Q→wp (gJ 24 1 (.ptr b 0) none (some (.int .i64 (nd:Int))) K) Q:=by intro K Q w;unfold gJ;simp only[vv (show nd≤24 by omega),ob,show yh none nd 0=some 0 from rfl];exact w
  refine hcut _ _ ?_;refine qW (fb_ok omQ H4 osQ hlt h2 omQ (by unfold qo;rw[List.all_eq_true];intro y hy;rw[List.eq_of_mem_replicate hy];rfl)) ?_;intro _ h5 H5;refine hcut _ _ ?_;obtain⟨e,A⟩:=H5.obj .here;unfold UZ;dsimp only;rw[UN A (by simp[Q2]),List.drop_zero,List.take_append_of_le_length (by rw[Q2];exact Nat.le_refl _),List.take_of_length_le (by rw[Q2];exact Nat.le_refl _)];simp only[ob,qVf];exact qq ⟨by rw[hdec],H5.drop⟩
theorem qJ1 {n:Nat} (hn:3≤n) {u:Int} (h0:0≤u) (h2:u<18446744073709551616) (H:HS g h R):t_w n 184 [.int .u64 u,.int .i64 10] h λr h'=>r=.str (Lib.decDigits u.toNat)∧HS g h' R:=by
 refine t_e2 (S:=S184) rfl omQ λk hk=>?_;unfold S184;try simp only[iZ]
 obtain⟨m,rfl⟩:∃m:Nat,u=m:=⟨u.toNat,by omega⟩;refine qW (qX3 omQ (u:=m) omQ H) ?_;rintro _ h3 ⟨rfl,H3⟩;exact qq ⟨rfl,H3⟩
theorem qZL {t:TypeId} {z x:AV} {K:AV→Go.Ae.R} {Q:AV→AH→Prop} (w:wp (K (.tup [x,.bool true])) Q):wp (xH t z (.iface t x) K) Q:=by show wp (bif Nat.beq t t then _ else _) Q;rw[Nat.beq_refl];exact w
theorem NL {t u:TypeId} {z x:AV} {K:AV→Go.Ae.R} {Q:AV→AH→Prop} (h:Nat.beq u t=false) (w:wp (K (.tup [z,.bool false])) Q):wp (xH t z (.iface u x) K) Q:=by show wp (bif Nat.beq u t then _ else _) Q;rw[h];exact w
theorem qxU {n:Nat} (hn:4≤n) {x:ItT} (hx:qqe x) (H:HS g h R):t_w n 152 [Qg x] h λr h'=>r=.str (itS x)∧HS g h' R:=by
 (refine qw (g:=W152) rfl omQ λk hk=>?_;show wp (S152 (callT tab qj k) _ _) _;unfold S152;try simp only[iI,uU,iZ])
 unfold Qg itS;by_cases h1:x.1=1
 ·rw[iJ h1,iJ h1];refine qZL (qy rfl (qy rfl (qZ ?_)));refine qW (qJ1 omQ hx.1 hx.2 H) ?_;rintro _ h3 ⟨rfl,H3⟩;exact qq ⟨rfl,H3⟩
 ·rw[iQ h1,iQ h1];by_cases h2:x.1=2
  ·rw[iJ h2,iJ h2];refine NL rfl ?_;refine qy rfl (qy rfl (qJ ?_));refine qZL (qy rfl (qy rfl (qZ ?_)));by_cases h3:x.2=1
   ·rw[iG h3,iJ h3];exact qZ (qq ⟨rfl,H⟩)
   ·rw[iV h3,iQ h3];exact qJ (qq ⟨rfl,H⟩)
  ·rw[iQ h2,iQ h2];refine NL rfl ?_;refine qy rfl (qy rfl (qJ ?_));refine NL rfl ?_;exact qy rfl (qy rfl (qJ (qq ⟨rfl,H⟩)))
theorem qzd (x:ItT) (hx:qqe x):(itS x).length≤20:=by
 unfold itS;have h1:=hx.1;have h2:=hx.2
 split
 ·rw[Lib.decDigits_length];exact Lib.nDigits_le20 _ omQ
 ·split
  ·split<;>decide
  ·decide
theorem qYe {m:Nat}:∀(xs:List (List UInt8)),(∀x∈xs,x.length≤m)→(Lib.join xs [32]).length≤xs.length*(m+1):=by
 intro xs hx;cases xs with
 |nil=>simp[Lib.join_nil]
 |cons x r=>
  rw[Lib.join_cons,List.length_append];have h1:=hx x (iK ..);have h2:∀r:List (List UInt8),(∀x∈r,x.length≤m)→(Lib.joinTail [32] r).length≤r.length*(m+1):=by
   intro r
   induction r with
   |nil=>intro _;simp[Lib.joinTail]
   |cons y r ih=>intro h;have a:=h y (iK ..);have b:=ih λz hz=>h z (iX _ hz);unfold Lib.joinTail at*;simp only[List.map_cons,List.flatten_cons,List.length_append,List.length_cons,List.length_nil,Nat.add_mul];omega
  have h3:=h2 r λz hz=>hx z (iX _ hz);rw[List.length_cons,Nat.add_mul];omega
theorem qj8 {l:List ItT} (hl:l.length≤1000) (hi:∀x∈l,qqe x):(txtM l).length≤1000000:=by unfold txtM;have:=qYe (m:=20) (l.map itS) (λy hy=>by obtain⟨x,hx,rfl⟩:=List.mem_map.1 hy;exact qzd x (hi x hx));rw[List.length_map]at this;omega
theorem qWU {e:TypeId} {z:AV} {n:Nat} {k1 k2:IntKind} {K2:AV→AH→Go.Ae.R} {Q:AV→AH→Prop} (H:HS g h L) (h2:n≤1073741824)
  (w:∀b h',HS g h' (Cell b (List.replicate n z) e false::L)→wp (K2 (.slice b 0 n n false) h') Q):wp (kP h e [z] (.int k1 (n:Int)) (.int k2 (n:Int)) K2) Q:=by
 refine qXB (Nat.le_refl n) h2 λb h' hb A F=>w b h' (H.add (D':=λa=>a=b) F.none ⟨λa=>Iff.rfl,by rw[Ob]at A;exact A⟩ ?_);rintro a rfl;exact⟨hb,A.lt⟩
def SlaC (o:Nat) (l:List ItT):SP:=.ex λsv=>.all [qk o [sv],qA 20 1 l.length sv (l.map Qg)]
theorem SlaC.E {o:Nat} {l:List ItT} (H:HS g h (SlaC o l::R)):∃sv,HS g h (qk o [sv]::qA 20 1 l.length sv (l.map Qg)::R):=by obtain⟨sv,H⟩:=H.exE;exact⟨sv,H.allE⟩
theorem SlaC.I {o:Nat} {l:List ItT} {sv:AV} (H:HS g h (qk o [sv]::qA 20 1 l.length sv (l.map Qg)::R)):HS g h (SlaC o l::R):=HS.exI sv H.allI
theorem qkd {n:Nat} (hn:5≤n) {o:Nat} {l:List ItT} (H:HS g h (SlaC o l::R)) (hl:l.length≤1000) (hi:∀x∈l,qqe x) :
  t_w n 125 [.ptr o 0] h λr h'=>r=.str (txtM l)∧HS g h' (SlaC o l::R):=by
 (refine qw (g:=W125) rfl omQ λk hk=>?_;show wp (S125 (callT tab qj k) _ _) _;unfold S125;try simp only[iI,uU,iZ])
 obtain⟨sv,H⟩:=SlaC.E H;refine qG (qQ (qX ‹_› .here rfl ?_));refine qi ‹_› e_1 ?_;refine qWU (n:=l.length) H omQ λb h2 H2=>?_;refine qG (qQ (qX ‹_› e_1 rfl ?_));refine qi ‹_› e_2 ?_
 refine jw (λm s h'=>∃i:Nat,s=(.int .i64 (i:Int),.int .i64 (l.length:Int),sv,.slice b 0 l.length l.length false,())∧i≤l.length∧m=l.length-i∧
  HS g h' (Cell b (((l.take i).map λx=>.str (itS x))++List.replicate (l.length-i) (.str [])) 9 false::qk o [sv]::qA 20 1 l.length sv (l.map Qg)::R))
  ?_ (m:=l.length) (by show _<1000000000;omega) ⟨0,rfl,by omega,by omega,H2⟩
 clear H H2;rintro m ih s h3 hih ⟨i,rfl,h1,rfl,H⟩;dsimp only;by_cases hlt:i<l.length
 ·refine jB omQ (qZ ?_);refine jI (H.sl e_2) (x:=Qg l[i]) (by rw[List.getElem?_map,iW hlt];rfl) ?_;refine qW (qxU omQ (hi _ (List.getElem_mem hlt)) H) ?_;rintro _ h4 ⟨rfl,H4⟩;refine GY (k:=.i64) hlt ?_;refine qYc H4 rfl (by simp;omega) rfl λh5 H5=>?_;refine qb omQ (hih (l.length-(i+1)) _ _ omQ ⟨i+1,rfl,by omega,rfl,?_⟩);have e:kT (((l.take i).map λx=>AV.str (itS x))++List.replicate (l.length-i) (.str [])) (0+i*1) (AV.str (itS l[i])).cells=((l.take (i+1)).map λx=>AV.str (itS x))++List.replicate (l.length-(i+1)) (.str []):=by
   rw[Nat.zero_add,Nat.mul_one];show kT _ i [AV.str (itS l[i])]=_;rw[Y8 (by simp;omega),List.take_add_one,iW hlt,List.map_append,show l.length-i=(l.length-(i+1))+1 by omega,List.replicate_succ,List.set_append_right _ _ (by simp;omega)];have hz:i-((l.take i).map λx=>AV.str (itS x)).length=0:=by simp;omega
   rw[hz,List.set_cons_zero,List.append_assoc];rfl
  rw[e]at H5;exact H5
 ·obtain rfl:i=l.length:=by omega
  refine jK omQ (qJ ?_);rw[Nat.sub_self,List.take_length,List.replicate_zero,List.append_nil]at H;have H2:HS g h3 (Cell b ((l.map itS).map .str) 9 false::qk o [sv]::qA 20 1 l.length sv (l.map Qg)::R):=by rw[List.map_map];exact H
  refine qW (qkp omQ H2 osQ omQ (qj8 hl hi)) ?_;rintro _ _ ⟨rfl,rfl⟩;exact qx (qq ⟨rfl,SlaC.I H.drop⟩)
end
section
structure PtM where
  op:Int
  pc:Int
  regs:List Int
  told:Nat
structure IM where
  regs:List Int
  out:List ItT
  pc:Int
  opn:List PtM
structure SM where
  e:Int
  nx:Int
  blk:Bool
  s:IM
  v:VM
def setR (s:IM) (i v:Int):IM:={ s with regs:=s.regs.set i.toNat v }
def yE (b off:Int):Int×Int:=if 2147483648≤b∨2147483648≤b+off∨b+off<6 then(0,2)else(b+off,0)
def Xs (p:Prop) [Decidable p]:Int:=if p then 1 else 0
def jM (s:IM) (V:VM) (x:qO):Int×IM×VM :=
 if x.1=8 then
  (if(yE (qM s.regs x.2.2.1) x.2.2.2.1).2=0 then
   (if(qf V (yE (qM s.regs x.2.2.1) x.2.2.2.1).1).1.2=0 then(0,setR s x.2.1 (qf V (yE (qM s.regs x.2.2.1) x.2.2.2.1).1).1.1,(qf V (yE (qM s.regs x.2.2.1) x.2.2.2.1).1).2)
    else((qf V (yE (qM s.regs x.2.2.1) x.2.2.2.1).1).1.2,s,(qf V (yE (qM s.regs x.2.2.1) x.2.2.2.1).1).2))
  else(2,s,V))
 else if x.1=9 then
  (if(yE (qM s.regs x.2.1) x.2.2.2.1).2=0 then((ju V [((yE (qM s.regs x.2.1) x.2.2.2.1).1,qM s.regs x.2.2.1)]).1,s,(ju V [((yE (qM s.regs x.2.1) x.2.2.2.1).1,qM s.regs x.2.2.1)]).2)
  else(2,s,V))
 else if x.1=10 then
  (if 2147483648≤qM s.regs x.2.2.1 then(3,s,V)
  else if(zd V (qM s.regs x.2.2.1)).1.2=0 then(0,setR s x.2.1 (zd V (qM s.regs x.2.2.1)).1.1,(zd V (qM s.regs x.2.2.1)).2)
  else((zd V (qM s.regs x.2.2.1)).1.2,s,(zd V (qM s.regs x.2.2.1)).2))
 else
  (if 2147483648≤qM s.regs x.2.1 then(2,s,V)else((vO V (qM s.regs x.2.1)).1,s,(vO V (qM s.regs x.2.1)).2))
def zW (op at_ nx:Int) (s:IM) (V:VM):SM :=
 if(yp V).1=0 then⟨0,nx,false,{ s with opn:=⟨op,at_,s.regs,s.out.length⟩::s.opn },(yp V).2⟩else⟨(yp V).1,nx,false,s,(yp V).2⟩
def Qy (s:IM) (p:PtM):IM:={ s with regs:=p.regs,out:=s.out.take p.told }
def ye (mt:List Int):List PtM→IM→VM→SM
 |[],s,V=>⟨0,s.pc,true,{ s with opn:=[] },V⟩
 |p::o,s,V=>
  if(xx V).1=0 then
   (if p.op=17 then zW 18 (qM mt p.pc) (qM mt p.pc+1) { Qy s p with opn:=o } (xx V).2
   else ye mt o s (xx V).2)
  else⟨(xx V).1,s.pc+1,false,{ s with opn:=o },(xx V).2⟩
def UA (o:List PtM):PtM:=(o.head?).getD ⟨0,0,[0,0,0,0,0,0,0,0],0⟩
def gn (mt:List Int) (s:IM) (V:VM) (op:Int):SM :=
 if op=14∨op=17 then zW op s.pc (s.pc+1) s V
 else if op=15∨op=19 then⟨(vF V).1,s.pc+1,false,{ s with opn:=s.opn.tail },(vF V).2⟩
 else if op=18 then⟨(vF V).1,qM mt s.pc+1,false,{ s with opn:=s.opn.tail },(vF V).2⟩
 else if op=16 then⟨(xx V).1,qM mt s.pc+1,false,{ Qy s (UA s.opn)with opn:=s.opn.tail },(xx V).2⟩
 else ye mt s.opn s V
def doM (mt:List Int) (s:IM) (V:VM) (x:qO):SM :=
 if x.1=1 then⟨0,s.pc+1,false,setR s x.2.1 x.2.2.2.2,V⟩
 else if x.1=2 then⟨0,s.pc+1,false,setR s x.2.1 (qM s.regs x.2.2.1),V⟩
 else if x.1=3 then⟨0,s.pc+1,false,setR s x.2.1 (zR .u64 (qM s.regs x.2.2.1+qM s.regs x.2.2.2.1)),V⟩
 else if x.1=4 then⟨0,s.pc+1,false,setR s x.2.1 (zR .u64 (qM s.regs x.2.2.1-qM s.regs x.2.2.2.1)),V⟩
 else if x.1=5 then⟨0,s.pc+1,false,setR s x.2.1 (zR .u64 (qM s.regs x.2.2.1*qM s.regs x.2.2.2.1)),V⟩
 else if x.1=6 then⟨0,s.pc+1,false,setR s x.2.1 (Xs (qM s.regs x.2.2.1<qM s.regs x.2.2.2.1)),V⟩
 else if x.1=7 then⟨0,s.pc+1,false,setR s x.2.1 (Xs (qM s.regs x.2.2.1=qM s.regs x.2.2.2.1)),V⟩
 else if x.1=12 then⟨0,x.2.2.2.1,false,s,V⟩
 else if x.1=13 then⟨0,if qM s.regs x.2.1=0 then x.2.2.2.1 else s.pc+1,false,s,V⟩
 else if x.1=21 then(if 16≤s.out.length then⟨5,s.pc+1,false,s,V⟩else⟨0,s.pc+1,false,{ s with out:=s.out++[(1,qM s.regs x.2.1)] },V⟩)
 else if x.1=22 then⟨13,s.pc+1,false,s,V⟩
 else if x.1=8∨x.1=9∨x.1=10∨x.1=11 then⟨(jM s V x).1,s.pc+1,false,(jM s V x).2.1,(jM s V x).2.2⟩
 else gn mt s V x.1
structure RM where
  kind:Int
  err:Int
  left:Nat
  s:IM
  v:VM
def jf (l:List qO) (mt:List Int):Nat→IM→VM→RM
 | 0,s,V=>if s.pc=l.length then⟨2,0,0,s,V⟩else⟨4,6,0,s,V⟩
 |n+1,s,V=>
  if s.pc=l.length then⟨2,0,n+1,s,V⟩
  else if(doM mt s V (qL l s.pc)).e=0 then
   (if(doM mt s V (qL l s.pc)).blk=true then⟨3,0,n,{ (doM mt s V (qL l s.pc)).s with pc:=(doM mt s V (qL l s.pc)).nx },(doM mt s V (qL l s.pc)).v⟩
   else jf l mt n { (doM mt s V (qL l s.pc)).s with pc:=(doM mt s V (qL l s.pc)).nx } (doM mt s V (qL l s.pc)).v)
  else if(doM mt s V (qL l s.pc)).e=11 then⟨1,0,n+1,(doM mt s V (qL l s.pc)).s,(doM mt s V (qL l s.pc)).v⟩
  else⟨4,(doM mt s V (qL l s.pc)).e,n+1,(doM mt s V (qL l s.pc)).s,(doM mt s V (qL l s.pc)).v⟩
theorem kH {l:List qO} {mt:List Int} {s:IM} {V:VM}:jf l mt 0 s V=if s.pc=l.length then⟨2,0,0,s,V⟩else⟨4,6,0,s,V⟩:=rfl
theorem QW {l:List qO} {mt:List Int} {n:Nat} {s:IM} {V:VM}:jf l mt (n+1) s V=if s.pc=l.length then⟨2,0,n+1,s,V⟩
  else if(doM mt s V (qL l s.pc)).e=0 then
   (if(doM mt s V (qL l s.pc)).blk=true then⟨3,0,n,{ (doM mt s V (qL l s.pc)).s with pc:=(doM mt s V (qL l s.pc)).nx },(doM mt s V (qL l s.pc)).v⟩
   else jf l mt n { (doM mt s V (qL l s.pc)).s with pc:=(doM mt s V (qL l s.pc)).nx } (doM mt s V (qL l s.pc)).v)
  else if(doM mt s V (qL l s.pc)).e=11 then⟨1,0,n+1,(doM mt s V (qL l s.pc)).s,(doM mt s V (qL l s.pc)).v⟩
  else⟨4,(doM mt s V (qL l s.pc)).e,n+1,(doM mt s V (qL l s.pc)).s,(doM mt s V (qL l s.pc)).v⟩:=rfl
theorem qq9 {l:List qO} {mt:List Int} {s:IM} {V:VM} (h0:s.pc=l.length):∀n,jf l mt n s V=⟨2,0,n,s,V⟩:=by
 intro n;cases n with
 |zero=>rw[kH,iJ h0]
 |succ n=>rw[QW,iJ h0]
def qD (l:List qO):Nat→List Int
 | 0=>[]
 |i+1=>q9 (qD l i) i (qL l i).1
theorem xI {l:List qO} {i:Nat} (h:i<l.length):qL l (i:Int)=l[i]:=by unfold qL;rw[Int.toNat_natCast,iW h];rfl
theorem jG {l:List qO} {i:Nat}:qD l (i+1)=q9 (qD l i) i (qL l i).1:=rfl
theorem qYm {l:List qO}:∀(d i:Nat) {st':List Int},i+d=l.length→goM l (l.drop i) i (qD l i)=.inr st'→(∀j,i≤j→j<l.length→zB l (qD l j) (qL l j)=0)∧qD l l.length=st':=by
 intro d
 induction d with
 |zero=>
  intro i st' hi h;obtain rfl:i=l.length:=by omega
  rw[List.drop_length]at h;cases h;exact⟨λj h1 h2=>by omega,rfl⟩
 |succ d ih=>
  intro i st' hi h;have hlt:i<l.length:=by omega
  rw[Ys hlt]at h
  split at h
  ·rename_i hw;obtain⟨a,b⟩:=ih (i+1) (st':=st') omQ (by rw[jG,xI hlt];exact h);refine⟨λj h1 h2=>?_,b⟩;by_cases hj:j=i
   ·subst hj;rw[xI hlt];exact hw
   ·exact a j omQ h2
  ·cases h
theorem VR {l:List qO}:∀(d i:Nat),i+d=l.length→∀k,i+k<l.length→(vI (l.drop i) i (qD l i))[k]? =some (qs (qD l (i+k))):=by
 intro d
 induction d with
 |zero=>intro i hi k hk;omega
 |succ d ih=>
  intro i hi k hk;have hlt:i<l.length:=by omega
  rw[Vm hlt];cases k with
  |zero=>rfl
  |succ k=>rw[List.getElem?_cons_succ];have:=ih (i+1) omQ k omQ;rw[jG,xI hlt]at this;rw[show i+(k+1)=i+1+k by omega];exact this
structure Fit (l:List qO):Prop where
  pos:0<l.length
  le:l.length≤40
  ok:∀j,j<l.length→zB l (qD l j) (qL l j)=0
  nil:qD l l.length=[]
  reg:∀j,j<l.length→(vI l 0 [])[j]? =some (qs (qD l j))
  jump:∀j,j<l.length→¬Ja l (vI l 0 []) j (qL l j)
theorem qXt {l:List qO} {a:List Int}:∀(d i:Nat),i+d=l.length→(Jd l a (l.drop i) i).2=0→∀j,i≤j→j<l.length→¬Ja l a j (qL l j):=by
 intro d
 induction d with
 |zero=>intro i hi _ j h1 h2;omega
 |succ d ih=>
  intro i hi h j h1 h2;have hlt:i<l.length:=by omega
  rw[YJ hlt]at h
  split at h
  ·cases h
  ·rename_i hn;by_cases hj:j=i
   ·subst hj;rw[xI hlt];exact hn
   ·exact ih (i+1) omQ h j omQ h2
theorem GP {l:List qO} (h:(zt l).2=0):Fit l:=by
 have hg:=UL h;obtain⟨a,b⟩:=qYm (l:=l) l.length 0 (st':=[]) omQ hg;unfold zt at h
 split at h
 ·cases h
 ·rename_i h0;rw[hg]at h;dsimp only at h;rw[iJ rfl]at h
  exact⟨by omega,by omega,λj hj=>a j (Nat.zero_le _) hj,b,λj hj=>by
   have:=VR (l:=l) l.length 0 omQ j omQ;rw[Nat.zero_add]at this
   exact this,λj hj=>qXt l.length 0 omQ h j (Nat.zero_le _) hj⟩
def Rises (i:Nat) (st:List Int):Prop:=StOk i st∧st.Pairwise (· < ·)
theorem KZ {l:List qO}:∀i,Rises i (qD l i):=by
 intro i
 induction i with
 |zero=>exact⟨StOk.nil,List.Pairwise.nil⟩
 |succ i ih=>
  refine⟨ih.1.behind,?_⟩;rw[jG];have hd:(qD l i).dropLast.Pairwise (· < ·):=ih.2.sublist (List.dropLast_sublist _);have hp:∀st:List Int,StOk i st→st.Pairwise (· < ·)→(st++[(i:Int)]).Pairwise (· < ·):=by intro st h1 h2;rw[List.pairwise_append];refine⟨h2,List.pairwise_singleton ..,λa ha b hb=>?_⟩;rw[List.mem_singleton]at hb;subst hb;exact(h1 a ha).2
  unfold q9
  repeat' split
  ·exact hp _ ih.1.dropLast hd
  ·exact hp _ ih.1 ih.2
  ·exact hd
  ·exact ih.2
theorem MQ {l:List qO}:∀(i k p:Nat),(qD l i)[k]? =some (p:Int)→qD l (p+1)=(qD l i).take (k+1):=by
 intro i
 induction i with
 |zero=>intro k p h;simp[qD]at h
 |succ i ih=>
  intro k p h;have key:∀st:List Int,(∀k p:Nat,st[k]? =some (p:Int)→qD l (p+1)=st.take (k+1))→qD l (i+1)=st++[(i:Int)]→qD l (p+1)=(qD l (i+1)).take (k+1):=by
   intro st hst he;rw[he]at h ⊢;by_cases hk:k<st.length
   ·rw[List.getElem?_append_left hk]at h;rw[hst k p h,List.take_append_of_le_length omQ]
   ·have hk2:k=st.length:=by
     have:=(List.getElem?_eq_some_iff.1 h).1;simp at this;omega
    subst hk2;rw[List.getElem?_append_right (Nat.le_refl _),Nat.sub_self]at h;simp at h;have:p=i:=by omega
    subst this;rw[he,List.take_of_length_le osQ]
  have hdrop:∀k p:Nat,(qD l i).dropLast[k]? =some (p:Int)→qD l (p+1)=(qD l i).dropLast.take (k+1):=by
   intro k p h;have hk:=(List.getElem?_eq_some_iff.1 h).1;have hk2:k+1≤(qD l i).length-1:=by have:=hk;simp at this;omega
   have h2:(qD l i)[k]? =some (p:Int):=by
    rw[List.getElem?_dropLast]at h
    split at h
    ·exact h
    ·cases h
   rw[ih k p h2,List.dropLast_eq_take,List.take_take,Nat.min_eq_left hk2]
  by_cases hb:zi (qL l i).1=true∨(qL l i).1=18
  ·by_cases he:0<jb (qL l i).1
   ·exact key _ hdrop (by rw[jG];unfold q9;rw[iJ hb,iJ he])
   ·exact key _ ih (by rw[jG];unfold q9;rw[iJ hb,iQ he])
  ·by_cases he:0<jb (qL l i).1
   ·have e:qD l (i+1)=(qD l i).dropLast:=by rw[jG];unfold q9;rw[iQ hb,iJ he]
    rw[e]at h ⊢;exact hdrop k p h
   ·have e:qD l (i+1)=qD l i:=by rw[jG];unfold q9;rw[iQ hb,iQ he]
    rw[e]at h ⊢;exact ih k p h
theorem vG {l:List qO} {i:Nat} (h:qD l i≠[]):∃p:Nat,qs (qD l i)=p∧p<i∧(qD l i)[(qD l i).length-1]? =some (p:Int)∧qD l (p+1)=qD l i:=by
 have hb:=(KZ (l:=l) i).1.inmost h;obtain⟨p,hp⟩:∃p:Nat,qs (qD l i)=p:=⟨(qs (qD l i)).toNat,by omega⟩;have hl:0<(qD l i).length:=List.length_pos_iff.2 h;have hk:(qD l i)[(qD l i).length-1]? =some (p:Int):=by rw[← hp];unfold qs;rw[← List.getLast?_eq_getElem?,List.getLast?_eq_some_getLast h];rfl
 refine⟨p,hp,by omega,hk,?_⟩;rw[MQ i _ p hk,List.take_of_length_le omQ]
theorem qWi {l:List qO} {i j:Nat} (h:qs (qD l i)=qs (qD l j)):qD l i=qD l j:=by
 by_cases hi:qD l i=[]
 ·by_cases hj:qD l j=[]
  ·rw[hi,hj]
  ·obtain⟨p,h1,_⟩:=vG hj;rw[hi,YX,h1]at h;omega
 ·obtain⟨p,h1,_,_,h2⟩:=vG hi;by_cases hj:qD l j=[]
  ·rw[hj,YX,h1]at h;omega
  ·obtain⟨q,h3,_,_,h4⟩:=vG hj;have:p=q:=by omega
   subst this;rw[← h2,← h4]
def mt1 (l:List qO) (A:List Int):Nat→List Int
 | 0=>List.replicate l.length (-1)
 |i+1=>if 0<jb (qL l i).1 then(mt1 l A i).set (qM A i).toNat i else mt1 l A i
def mt2 (l:List qO) (A:List Int):Nat→List Int
 | 0=>mt1 l A l.length
 |i+1=>if(qL l i).1=16 then(mt2 l A i).set i (qM (mt2 l A i) (qM A i))else mt2 l A i
def qS (l:List qO):List Int:=mt2 l (vI l 0 []) l.length
theorem qvp {l:List qO} {A:List Int} {i:Nat}:mt1 l A (i+1)=if 0<jb (qL l i).1 then(mt1 l A i).set (qM A i).toNat i else mt1 l A i:=rfl
theorem qjB {l:List qO} {A:List Int} {i:Nat}:mt2 l A (i+1)=if(qL l i).1=16 then(mt2 l A i).set i (qM (mt2 l A i) (qM A i))else mt2 l A i:=rfl
theorem Nv {l:List qO} {A:List Int}:∀i,(mt1 l A i).length=l.length:=by
 intro i
 induction i with
 |zero=>simp[mt1]
 |succ i ih=>rw[qvp];split<;>simp[ih]
theorem NX {l:List qO} {A:List Int}:∀i,(mt2 l A i).length=l.length:=by
 intro i
 induction i with
 |zero=>exact Nv _
 |succ i ih=>rw[qjB];split<;>simp[ih]
theorem qK5 (l:List qO):(qS l).length=l.length:=NX _
theorem wG {l:List qO} (F:Fit l) {j:Nat} (h:j<l.length):qM (vI l 0 []) (j:Int)=qs (qD l j):=by unfold qM;rw[Int.toNat_natCast,F.reg j h];rfl
theorem qje {l:List qO} {p:Nat}:∀(d i:Nat),p<i→(p:Int)∉qD l i→(p:Int)∉qD l (i+d):=by
 intro d
 induction d with
 |zero=>intro i _ h;exact h
 |succ d ih=>
  intro i hp h;have h2:=ih i hp h;rw[show i+(d+1)=i+d+1 by omega,jG];have hd:(p:Int)∉(qD l (i+d)).dropLast:=λhm=>h2 ((List.dropLast_sublist _).subset hm);unfold q9
  repeat' split
  all_goals first |exact hd |exact h2 |skip
  ·intro hm;rcases List.mem_append.1 hm with hm |hm
   ·exact hd hm
   ·rw[List.mem_singleton]at hm;omega
  ·intro hm;rcases List.mem_append.1 hm with hm |hm
   ·exact h2 hm
   ·rw[List.mem_singleton]at hm;omega
theorem KG {st:List Int} {p:Int} (h:st.Pairwise (· < ·)) (hn:st≠[]) (hp:qs st=p):p∉st.dropLast:=by
 have e:st=st.dropLast++[p]:=by have:=List.dropLast_concat_getLast hn;rw[show st.getLast hn=p by rw[← hp];unfold qs;rw[List.getLast?_eq_some_getLast hn];rfl]at this;exact this.symm
 rw[e,List.pairwise_append]at h;intro hm;have:=h.2.2 p hm p (List.mem_singleton_self _);omega
theorem qY9 {l:List qO} {p j:Nat} (he:0<jb (qL l j).1) (hn:qD l j≠[]) (hp:qs (qD l j)=p):(p:Int)∉qD l (j+1):=by
 have h1:=KG (KZ (l:=l) j).2 hn hp;have h2:=(KZ (l:=l) j).1.inmost hn;rw[jG];unfold q9;rw[iJ he]
 split
 ·intro hm;rcases List.mem_append.1 hm with hm |hm
  ·exact h1 hm
  ·rw[List.mem_singleton]at hm;omega
 ·exact h1
theorem x7 {l:List qO} {st:List Int} {x:qO} (h:zB l st x=0):ve x=true∧(0<jb x.1→opM l st=jb x.1)∧(x.1=16→opM l st=14)∧(zi x.1=true→st.length<5):=by
 have h0:=xK h;unfold zB at h;rw[iQ (by rw[h0.1];simp)]at h
 split at h
 ·cases h
 ·rename_i h2
  split at h
  ·cases h
  ·rename_i h3;refine⟨h0.1,λhe=>?_,λhe=>?_,h0.2.2⟩
   ·exact Classical.not_not.1 λhh=>h2 ⟨he,hh⟩
   ·exact Classical.not_not.1 λhh=>h3 ⟨he,hh⟩
theorem U6 {l:List qO} {i:Nat} {p:Nat} (hn:qD l i≠[]) (hp:qs (qD l i)=p):opM l (qD l i)=(qL l p).1:=by unfold opM;rw[iQ hn,hp]
theorem KD {l:List qO} (F:Fit l) {p:Nat} (hp:p<l.length) (ho:(qL l p).1=14∨(qL l p).1=17∨(qL l p).1=18) :
  ∃e:Nat,p<e∧e<l.length∧jb (qL l e).1=(qL l p).1∧qD l e≠[]∧qs (qD l e)=p∧
   ∀j,j<l.length→0<jb (qL l j).1→qs (qD l j)=p→j=e:=by
 have hin:(p:Int)∈qD l (p+1):=by rw[jG];unfold q9;rw[iJ (by unfold zi;rcases ho with h |h |h<;>rw[h]<;>decide)];exact List.mem_append_right _ (List.mem_singleton_self _)
 have key:∀d i,p<i→i+d=l.length→(p:Int)∈qD l i→∃e,i≤e∧e<l.length∧(p:Int)∈qD l e∧(p:Int)∉qD l (e+1):=by
  intro d
  induction d with
  |zero=>
   intro i _ hi hm;obtain rfl:i=l.length:=by omega
   rw[F.nil]at hm;cases hm
  |succ d ih=>
   intro i hpi hi hm;by_cases h:(p:Int)∈qD l (i+1)
   ·obtain⟨e,h1,h2⟩:=ih (i+1) omQ omQ h;exact⟨e,by omega,h2⟩
   ·exact⟨i,Nat.le_refl _,by omega,hm,h⟩
 obtain⟨e,h1,h2,h3,h4⟩:=key (l.length-(p+1)) (p+1) omQ omQ hin;have hne:qD l e≠[]:=λh=>by rw[h]at h3;cases h3
 have hend:0<jb (qL l e).1:=by
  apply Classical.not_not.1;intro hn;apply h4;rw[jG];unfold q9;rw[iQ hn]
  split
  ·exact List.mem_append_left _ h3
  ·exact h3
 have hinm:qs (qD l e)=p:=by
  apply Classical.not_not.1;intro hn;apply h4;have hd:(p:Int)∈(qD l e).dropLast:=by
   have hd:=List.dropLast_concat_getLast hne;rw[← hd]at h3;rcases List.mem_append.1 h3 with h |h
   ·exact h
   ·rw[List.mem_singleton]at h;exfalso;apply hn;unfold qs;rw[List.getLast?_eq_some_getLast hne,h];rfl
  rw[jG];unfold q9;rw[iJ hend]
  split
  ·exact List.mem_append_left _ hd
  ·exact hd
 have hw:=(x7 (F.ok e h2)).2.1 hend;rw[U6 hne hinm]at hw;refine⟨e,by omega,h2,hw.symm,hne,hinm,λj hj hje hjp=>?_⟩;have hjn:qD l j≠[]:=(xK (F.ok j hj)).2.1 (.inl hje);have hpj:p<j:=by have:=(KZ (l:=l) j).1.inmost hjn;omega
 rcases Nat.lt_trichotomy j e with h |h |h
 ·exfalso;have:=qje (l:=l) (e-(j+1)) (j+1) omQ (qY9 hje hjn hjp);rw[show j+1+(e-(j+1))=e by omega]at this;exact this h3
 ·exact h
 ·exfalso;have h5:=qje (l:=l) (j-(e+1)) (e+1) omQ h4;rw[show e+1+(j-(e+1))=j by omega]at h5;apply h5;rw[← hjp];unfold qs;rw[List.getLast?_eq_some_getLast hjn];exact List.getLast_mem hjn
theorem qqD {l:List qO} (F:Fit l) {p e:Nat} (hp:p<l.length) (he:e<l.length) (hee:0<jb (qL l e).1) (hi:qs (qD l e)=p)
  (hu:∀j,j<l.length→0<jb (qL l j).1→qs (qD l j)=p→j=e):∀i,e<i→i≤l.length→(mt1 l (vI l 0 []) i)[p]? =some (e:Int):=by
 intro i
 induction i with
 |zero=>intro h;omega
 |succ i ih=>
  intro h1 h2;rw[qvp];by_cases hie:i=e
  ·subst hie;rw[iJ hee,wG F he,hi,Int.toNat_natCast,List.getElem?_set_self (by rw[Nv];exact hp)]
  ·split
   ·rename_i hx;rw[wG F omQ,List.getElem?_set_ne]
    ·exact ih omQ omQ
    ·intro hh;have hjn:qD l i≠[]:=(xK (F.ok i omQ)).2.1 (.inl hx);have:=(KZ (l:=l) i).1.inmost hjn;exact hie (hu i omQ hx omQ)
   ·exact ih omQ omQ
theorem qjm {l:List qO} (F:Fit l) {p:Nat} (hp:(qL l p).1≠16):∀i,(mt2 l (vI l 0 []) i)[p]? =(mt1 l (vI l 0 []) l.length)[p]?:=by
 intro i
 induction i with
 |zero=>rfl
 |succ i ih=>
  rw[qjB]
  split
  ·rename_i hx;rw[List.getElem?_set_ne,ih];rintro rfl;exact hp hx
  ·exact ih
theorem qWe {l:List qO} (F:Fit l) {u:Nat} (hu:u<l.length) (ho:(qL l u).1=16):∀i,u<i→(mt2 l (vI l 0 []) i)[u]? =some (qM (mt2 l (vI l 0 []) u) (qs (qD l u))):=by
 intro i
 induction i with
 |zero=>intro h;omega
 |succ i ih=>
  intro h;rw[qjB];by_cases hi:i=u
  ·subst hi;rw[iJ ho,List.getElem?_set_self (by rw[NX];exact hu),wG F hu]
  ·split
   ·rw[List.getElem?_set_ne hi];exact ih omQ
   ·exact ih omQ
theorem gj {l:List qO} (F:Fit l) {p:Nat} (hp:p<l.length) (ho:(qL l p).1=14∨(qL l p).1=17∨(qL l p).1=18) :
  ∃e:Nat,qM (qS l) (p:Int)=e∧p<e∧e<l.length∧jb (qL l e).1=(qL l p).1∧qD l e=qD l (p+1):=by
 obtain⟨e,h1,h2,h3,h4,h5,h6⟩:=KD F hp ho;refine⟨e,?_,h1,h2,h3,?_⟩
 ·unfold qM qS;rw[Int.toNat_natCast,qjm F (by rcases ho with h |h |h<;>rw[h]<;>decide),qqD F hp h2 (by rw[h3];rcases ho with h |h |h<;>rw[h]<;>decide) h5 h6 l.length h2 (Nat.le_refl _)];rfl
 ·obtain⟨q,g1,_,_,g2⟩:=vG h4;have:q=p:=by omega
  subst this;exact g2.symm
theorem kU {l:List qO} (F:Fit l) {u:Nat} (hu:u<l.length) (ho:(qL l u).1=16) :
  ∃e:Nat,qM (qS l) (u:Int)=e∧e<l.length∧(qL l e).1=15∧qD l e=qD l u∧qD l u≠[]:=by
 have hn:qD l u≠[]:=(xK (F.ok u hu)).2.1 (.inr ho);obtain⟨q,g1,g2,_,g3⟩:=vG hn;have hw:=(x7 (F.ok u hu)).2.2.1 ho;rw[U6 hn g1]at hw;obtain⟨e,h1,h2,h3,h4,h5,h6⟩:=KD F (p:=q) omQ (.inl hw);have e0:qM (mt2 l (vI l 0 []) u) (q:Int)=e:=by unfold qM;rw[Int.toNat_natCast,qjm F (by rw[hw];decide),qqD F omQ h2 (by rw[h3,hw];decide) h5 h6 l.length h2 (Nat.le_refl _)];rfl
 refine⟨e,?_,h2,?_,?_,hn⟩
 ·unfold qS;rw[qM,Int.toNat_natCast,qWe F hu ho l.length hu,g1,e0];rfl
 ·rw[hw]at h3;unfold jb at h3
  repeat' split at h3
  all_goals first |assumption |omega
 ·obtain⟨q2,k1,_,_,k2⟩:=vG h4;have:q2=q:=by omega
  subst this;rw[← k2,g3]
end
section
structure Jk (M M':VM):Prop where
  sz:M'.sz=M.sz
  K:M'.K=M.K
  most:M'.most=M.most
  len:M'.lv.length=M.lv.length
def Jg (M M':VM):Prop:=M'.lv=M.lv∧1≤M'.need∧M'.need<M.sz∧zj M'.need M.K=none
theorem Jk.refl (M:VM):Jk M M:=⟨rfl,rfl,rfl,rfl⟩
theorem Jk.trans {M N Q:VM} (a:Jk M N) (b:Jk N Q):Jk M Q:=⟨b.sz.trans a.sz,b.K.trans a.K,b.most.trans a.most,b.len.trans a.len⟩
theorem xX (M:VM) (p:Int):Jk M (qf M p).2:=by
 unfold qf
 repeat' split
 all_goals exact⟨rfl,rfl,rfl,rfl⟩
theorem kB {M:VM} {p:Int} (h:(qf M p).1.2=11):Jg M (qf M p).2:=by
 unfold qf at h ⊢
 split
 ·rename_i h1;rw[iJ h1]at h
  split
  ·rename_i h2;rw[h2]at h;cases h
  ·rename_i h2;rw[h2]at h;dsimp only at h ⊢
   split
   ·rename_i h3;rw[h3]at h;cases h
   ·rename_i h3;exact⟨rfl,h1.1,h1.2,h3⟩
 ·rename_i h1;rw[iQ h1]at h;cases h
theorem qkf {most:Nat} {lv:List LvM} {p v:Int}:(gX most lv p v).1=0∨(gX most lv p v).1=2∨(gX most lv p v).1=5:=by
 unfold gX
 repeat' split
 all_goals simp
theorem qVi {most:Nat} {was:List LvM}:∀{cs:List Cl} {lv:List LvM},(vT most was lv cs).1=0∨(vT most was lv cs).1=2∨(vT most was lv cs).1=5:=by
 intro cs
 induction cs with
 |nil=>intro lv;exact .inl rfl
 |cons c cs ih=>
  intro lv;rw[gK]
  split
  ·exact ih
  ·exact qkf
theorem qG7 {M:VM} {cs:List Cl}:(ju M cs).1=0∨(ju M cs).1=2∨(ju M cs).1=5:=by
 unfold ju
 split
 ·exact qVi
 ·exact .inr (.inl rfl)
theorem Ym {M:VM} {cs:List Cl} (h:(ju M cs).1=11):False:=by have:=qG7 (M:=M) (cs:=cs);omega
theorem gY {M:VM} {cs:List Cl} (O:OkV M):Jk M (ju M cs).2:=by
 unfold ju
 split
 ·exact⟨rfl,rfl,rfl,(O1 O.lvs O.lvs rfl).2⟩
 ·exact .refl M
theorem OS (M:VM) (b:Int):Jk M (ji M b).2:=by
 unfold ji
 repeat' split
 all_goals first |exact .refl M |exact xX M _
theorem ZS {M:VM} {b:Int} (h:(ji M b).1.2.2=11):Jg M (ji M b).2:=by
 unfold ji at h ⊢
 split
 ·rename_i h1;rw[iJ h1]at h;cases h
 ·rename_i h1;rw[iQ h1]at h
  split
  ·rename_i h2;rw[iJ h2]at h
   split
   ·rename_i h3;rw[iJ h3]at h;cases h
   ·rename_i h3;rw[iQ h3]at h;cases h
  ·rename_i h2;rw[iQ h2]at h;exact kB h
theorem freeL_len {lv:List LvM} {b:Int}:(Je lv b).length=lv.length:=by cases lv<;>rfl
theorem qKd {M:VM} {b:Int} (O:OkV M):Jk M (vO M b).2:=by
 have ha:=OS M b;unfold vO
 repeat' split
 ·have ht:=ha.trans (gY (cs:=[(b-1,(ji M b).1.1)]) (XB (b:=b) O));exact⟨ht.sz,ht.K,ht.most,freeL_len.trans ht.len⟩
 ·exact ha.trans (gY (XB O))
 ·exact ha
 ·exact ha
theorem qX5 {M:VM} {b:Int} (h:(vO M b).1=11):Jg M (vO M b).2:=by
 unfold vO at h ⊢
 split
 ·rename_i h1;rw[iJ h1]at h
  split
  ·rename_i h2;rw[iJ h2]at h
   split
   ·rename_i h3;rw[iJ h3]at h;cases h
   ·rename_i h3;rw[iQ h3]at h;exact(Ym h).elim
  ·rename_i h2;rw[iQ h2]at h;cases h
 ·rename_i h1;rw[iQ h1]at h;exact ZS h
theorem qQp {M:VM} {c b:Int} (O:OkV M):Jk M (xi M c b).2:=by
 unfold xi
 repeat' split
 ·exact .refl M
 ·exact(xX M _).trans (gY (xO O))
 ·exact(xX M _).trans (gY (xO O))
 ·exact xX M _
theorem qJS {M:VM} {c b:Int} (h:(xi M c b).1.2=11):Jg M (xi M c b).2:=by
 unfold xi at h ⊢
 split
 ·rename_i h1;rw[iJ h1]at h;cases h
 ·rename_i h1;rw[iQ h1]at h
  split
  ·rename_i h2;rw[iJ h2]at h
   split
   ·rename_i h3;rw[iJ h3]at h;cases h
   ·rename_i h3;rw[iQ h3]at h;exact(Ym h).elim
  ·rename_i h2;rw[iQ h2]at h;exact kB h
theorem qQS {M:VM} {c:Int} (O:OkV M):Jk M (xe M c).2:=by
 unfold xe
 repeat' split
 ·exact xX M _
 ·exact(xX M _).trans (gY (xO O))
 ·exact(xX M _).trans (gY (xO O))
 ·exact xX M _
theorem qJF {M:VM} {c:Int} (h:(xe M c).1.2=11):Jg M (xe M c).2:=by
 unfold xe at h ⊢
 split
 ·rename_i h1;rw[iJ h1]at h
  split
  ·rename_i h2;rw[iJ h2]at h;cases h
  ·rename_i h2;rw[iQ h2]at h
   split
   ·rename_i h3;rw[iJ h3]at h;cases h
   ·rename_i h3;rw[iQ h3]at h;exact(Ym h).elim
 ·rename_i h1;rw[iQ h1]at h;exact kB h
theorem UU {M:VM} {x:Int} (O:OkV M):Jk M (zd M x).2:=by
 unfold zd
 repeat' split
 ·exact .refl M
 ·exact(xX M _).trans (qQS (xO O))
 ·exact(xX M _).trans (qQp (xO O))
 ·exact xX M _
theorem qQi {M:VM} {x:Int} (h:(zd M x).1.2=11):Jg M (zd M x).2:=by
 unfold zd at h ⊢
 split
 ·rename_i h1;rw[iJ h1]at h;cases h
 ·rename_i h1;rw[iQ h1]at h
  split
  ·rename_i h2;rw[iJ h2]at h;have e:=Ga h2
   split
   ·rename_i h3;rw[iJ h3,e]at h;rw[e];exact qJF h
   ·rename_i h3;rw[iQ h3,e]at h;rw[e];exact qJS h
  ·rename_i h2;rw[iQ h2]at h;exact kB h
theorem qZ4 {M:VM} {x:Int} (W:WdV M) (h:(zd M x).1.2=0):0≤(zd M x).1.1∧(zd M x).1.1≤2147483648:=by
 have hs:=Mf (xj x);unfold zd at h ⊢
 split
 ·rename_i h1;rw[iJ h1]at h;cases h
 ·rename_i h1;rw[iQ h1]at h
  split
  ·rename_i h2;rw[iJ h2]at h;have hr:=W.read (p:=xj x)
   split
   ·rename_i h3;rw[iJ h3]at h;have hr2:=(W.read2 (p:=xj x)).read (p:=5);unfold xe at h ⊢
    split
    ·rename_i h4;rw[iJ h4]at h
     split
     ·rename_i h5;rw[iJ h5]at h;cases h
     ·rename_i h5
      split
      ·dsimp only;omega
      ·show(0:Int)≤0∧(0:Int)≤2147483648;omega
    ·show(0:Int)≤0∧(0:Int)≤2147483648;omega
   ·rename_i h3;rw[iQ h3]at h;unfold xi at h ⊢
    split
    ·rename_i h4;rw[iJ h4]at h;cases h
    ·split
     ·split
      ·dsimp only;omega
      ·show(0:Int)≤0∧(0:Int)≤2147483648;omega
     ·show(0:Int)≤0∧(0:Int)≤2147483648;omega
  ·show(0:Int)≤0∧(0:Int)≤2147483648;omega
structure JY (r:List Int):Prop where
  len:r.length=8
  bd:∀z∈r,0≤z∧z<18446744073709551616
theorem JY.at {r:List Int} (h:JY r) (i:Int):0≤qM r i∧qM r i<18446744073709551616:=by
 unfold qM;cases hi:r[i.toNat]? with
 |none=>show(0:Int)≤0∧(0:Int)<18446744073709551616;omega
 |some z=>exact h.bd z (List.mem_of_getElem? hi)
theorem JY.set {r:List Int} {i v:Int} (h:JY r) (hv:0≤v∧v<18446744073709551616):JY (r.set i.toNat v) :=
 ⟨by rw[List.length_set];exact h.len,λz hz=>by
  rcases List.mem_or_eq_of_mem_set hz with hz |rfl
  ·exact h.bd z hz
  ·exact hv⟩
structure PtOk (l:List qO) (p:PtM):Prop where
  regs:JY p.regs
  pc:∃k:Nat,p.pc=k∧k<l.length
  op:(p.op=14∨p.op=17∨p.op=18)∧(qL l p.pc).1=p.op
def ToldD:Nat→List PtM→Prop
 |_,[]=>True
 |n,p::r=>p.told≤n∧ToldD p.told r
theorem ToldD.mono:∀{o:List PtM} {n n':Nat},n≤n'→ToldD n o→ToldD n' o:=by
 intro o;cases o with
 |nil=>intro _ _ _ _;trivial
 |cons p r=>intro n n' h h2;exact⟨Nat.le_trans h2.1 h,h2.2⟩
structure GB (s:IM):Prop where
  regs:JY s.regs
  out:s.out.length≤16
  its:∀x∈s.out,qqe x
structure GI (l:List qO) (s:IM) (V:VM):Prop where
  gb:GB s
  pc:∃k:Nat,s.pc=k∧k≤l.length
  pts:∀p∈s.opn,PtOk l p
  told:ToldD s.out.length s.opn
  stk:s.opn.map (·.pc)=(qD l s.pc.toNat).reverse
  lv:V.lv.length=s.opn.length+1
  good:jC V
theorem qZ6 (z:Int):0≤zR .u64 z∧zR .u64 z<18446744073709551616:=by
  cases z with
  | ofNat a => show (0 : Int) ≤ Int.ofNat (a % 18446744073709551616) ∧ Int.ofNat (a % 18446744073709551616) < 18446744073709551616
               rw[iZ];omega
  | negSucc a => show (0 : Int) ≤ Int.ofNat (18446744073709551615 - a % 18446744073709551616) ∧ Int.ofNat (18446744073709551615 - a % 18446744073709551616) < 18446744073709551616
                 rw[iZ];omega
theorem qZc (p:Prop) [Decidable p]:0≤Xs p∧Xs p<18446744073709551616:=by unfold Xs;split<;>omega
theorem GB.setR {s:IM} {i v:Int} (h:GB s) (hv:0≤v∧v<18446744073709551616):GB (setR s i v):=⟨h.regs.set hv,h.out,h.its⟩
structure YN (l:List qO) (s:IM) (V:VM) (r:SM):Prop where
  gb:GB r.s
  good:jC r.v
  fr:frS r.v.lv≤frS V.lv+1
  sz:r.v.sz=V.sz
  K:r.v.K=V.K
  most:r.v.most=V.most
  next:r.e=0→r.blk=false→GI l { r.s with pc:=r.nx } r.v
  need:r.e=11→r.s=s∧Jg V r.v
  bl:r.blk=true→r.e=0
theorem qJE {l:List qO} {i:Nat} (h1:zi (qL l i).1=false) (h2:(qL l i).1≠18) (h3:jb (qL l i).1=0):qD l (i+1)=qD l i:=by rw[jG];unfold q9;rw[iQ (by rw[h1];simp[h2]),iQ omQ]
theorem GI.plain {l:List qO} {s s':IM} {V V':VM} {i:Nat} (G:GI l s V) (hi:s.pc=i) (hlt:i<l.length) (h1:zi (qL l i).1=false) (h2:(qL l i).1≠18) (h3:jb (qL l i).1=0)
  (gb:GB s') (ho:s'.opn=s.opn) (hl:s.out.length≤s'.out.length) (hv:V'.lv.length=V.lv.length) (hg:jC V'):GI l { s' with pc:=s.pc+1 } V':=by
 refine⟨⟨gb.regs,gb.out,gb.its⟩,⟨i+1,by show s.pc+1=_;omega,by omega⟩,by show∀p∈s'.opn,_;rw[ho];exact G.pts,by show ToldD s'.out.length s'.opn;rw[ho];exact G.told.mono hl,?_,by show V'.lv.length=s'.opn.length+1;rw[ho,hv];exact G.lv,hg⟩;show s'.opn.map _=(qD l (s.pc+1).toNat).reverse;rw[ho,hi,show((i:Int)+1).toNat=i+1 by omega,qJE h1 h2 h3,G.stk,hi,Int.toNat_natCast]
theorem U8 {l:List qO} {s:IM} {V:VM} {op:Int} {p:Nat} {st:List Int} (gb:GB s) (hp:p<l.length) (ho:(op=14∨op=17∨op=18)∧(qL l (p:Int)).1=op) (pts:∀p∈s.opn,PtOk l p) (told:ToldD s.out.length s.opn)
  (hst:s.opn.map (·.pc)=st.reverse) (hs2:qD l (p+1)=st++[(p:Int)]) (lv:V.lv.length=s.opn.length+1) (hd:s.opn.length<5) (G:jC V) :
  (zW op p ((p:Int)+1) s V).e=0∧(zW op p ((p:Int)+1) s V).blk=false∧(zW op p ((p:Int)+1) s V).nx=(p:Int)+1∧GI l { (zW op p ((p:Int)+1) s V).s with pc:=(p:Int)+1 } (zW op p ((p:Int)+1) s V).v∧
   (zW op p ((p:Int)+1) s V).v=(yp V).2:=by
 have h0:(yp V).1=0∧(yp V).2.lv=([],[])::V.lv:=by unfold yp kr;rw[iQ omQ];exact⟨rfl,rfl⟩
 unfold zW;rw[iJ h0.1];refine⟨rfl,rfl,rfl,⟨⟨gb.regs,gb.out,gb.its⟩,⟨p+1,rfl,by omega⟩,?_,⟨Nat.le_refl _,told⟩,?_,?_,G.openG.1⟩,rfl⟩
 ·intro q hq;rcases List.mem_cons.1 hq with rfl |hq
  ·exact⟨gb.regs,⟨p,rfl,hp⟩,ho⟩
  ·exact pts q hq
 ·show(p:Int)::s.opn.map _=(qD l ((p:Int)+1).toNat).reverse;rw[hst,show((p:Int)+1).toNat=p+1 by omega,hs2,List.reverse_append];rfl
 ·show(yp V).2.lv.length=_;rw[h0.2,List.length_cons,lv];rfl
theorem Vn {V:VM} (h:2≤V.lv.length):(xx V).1=0∧(xx V).2.lv=V.lv.tail:=by unfold xx ko;rw[iQ omQ];exact⟨rfl,rfl⟩
theorem VP {V:VM} (h:2≤V.lv.length):(vF V).1=0∧(vF V).2.lv.length+1=V.lv.length:=by
 unfold vF
 match hl:V.lv,h with
 |[],h=>simp at h
 |[x],h=>simp at h
 |x::y::r,_=>exact⟨rfl,by simp[Qh]⟩
theorem ToldD.tail {n:Nat} {p:PtM} {o:List PtM} (h:ToldD n (p::o)):ToldD n o:=h.2.mono h.1
theorem YN.plain {l:List qO} {s s':IM} {V V':VM} {i:Nat} {e:Int} (G:GI l s V) (hi:s.pc=i) (hlt:i<l.length) (h1:zi (qL l i).1=false) (h2:(qL l i).1≠18) (h3:jb (qL l i).1=0)
  (gb:GB s') (ho:s'.opn=s.opn) (hl:s.out.length≤s'.out.length) (hk:Jk V V') (hg:jC V') (hf:frS V'.lv≤frS V.lv+1) (hn:e=11→s'=s∧Jg V V'):YN l s V ⟨e,s.pc+1,false,s',V'⟩ :=
 ⟨gb,hg,hf,hk.sz,hk.K,hk.most,λ_ _=>G.plain hi hlt h1 h2 h3 gb ho hl hk.len hg,hn,λh=>(by cases h)⟩
theorem qQa {l:List qO} (F:Fit l) {i:Nat} (hlt:i<l.length) (ho:(qL l i).1=12∨(qL l i).1=13):∃c:Nat,(qL l i).2.2.2.1=c∧c≤l.length∧qD l c=qD l i:=by
 have hm:=(x7 (F.ok i hlt)).1;have hj:=F.jump i hlt;generalize qL l i=x at*;have hc:0≤x.2.2.2.1∧x.2.2.2.1≤40:=by
  unfold ve jA vU at hm;simp only[Bool.and_eq_true,decide_eq_true_eq]at hm;have:=hm.1.2;rcases ho with h |h
  ·rw[iQ omQ,iQ omQ,iQ omQ,iQ omQ,iJ h]at this;exact this
  ·rw[iQ omQ,iQ omQ,iQ omQ,iQ omQ,iQ omQ,iJ h]at this;exact this
 obtain⟨c,hcc⟩:∃c:Nat,x.2.2.2.1=c:=⟨x.2.2.2.1.toNat,by omega⟩;refine⟨c,hcc,?_⟩;unfold Ja at hj;rw[hcc]at hj;have hle:c≤l.length:=by
  rcases Nat.lt_or_ge l.length c with h |h
  ·exact absurd ⟨ho,.inl omQ⟩ hj
  ·exact h
 refine⟨hle,?_⟩;by_cases he:c=l.length
 ·subst he;rw[F.nil];have:qM (vI l 0 []) (i:Int)= -1:=Classical.not_not.1 λh=>hj ⟨ho,.inr (.inl ⟨rfl,h⟩)⟩;rw[wG F hlt]at this
  exact(Classical.not_not.1 λh=>by
   have:=(KZ (l:=l) i).1.inmost (λh'=>h h'.symm)
   omega:[]=qD l i)
 ·have:qM (vI l 0 []) (c:Int)=qM (vI l 0 []) (i:Int):=Classical.not_not.1 λh=>hj ⟨ho,.inr (.inr ⟨by omega,h⟩)⟩;rw[wG F hlt,wG F omQ]at this;exact qWi this
theorem UV {l:List qO} (F:Fit l):∀i,i≤l.length→(qD l i).length≤5:=by
 intro i
 induction i with
 |zero=>intro _;simp[qD]
 |succ i ih=>
  intro h;have h1:=ih omQ;have hw:=x7 (F.ok i omQ);rw[jG];unfold q9
  repeat' split
  ·rename_i hb he;have hne:qD l i≠[]:=(xK (F.ok i omQ)).2.1 (.inl he);have:=List.length_pos_iff.2 hne;simp;omega
  ·rename_i hb he;rcases hb with hb |hb
   ·have:=hw.2.2.2 hb;simp;omega
   ·exact absurd (by rw[hb];decide) he
  ·simp;omega
  ·exact h1
theorem JH {o:List PtM} {p:PtM} {st:List Int} (h:(p::o).map (·.pc)=st.reverse):st=st.dropLast++[p.pc]∧o.map (·.pc)=st.dropLast.reverse:=by
 have e:st=o.reverse.map (·.pc)++[p.pc]:=by have:=congrArg List.reverse h;rw[List.reverse_reverse]at this;rw[← this,List.map_cons,List.reverse_cons,List.map_reverse]
 have e2:st.dropLast=o.reverse.map (·.pc):=by rw[e,List.dropLast_concat]
 refine⟨by rw[e2];exact e,?_⟩;rw[e2,List.map_reverse,List.reverse_reverse]
def PreP (l:List qO) (st:List Int):Prop:=∀k p:Nat,st[k]? =some (p:Int)→qD l (p+1)=st.take (k+1)
theorem PreP.dropLast {l:List qO} {st:List Int} (h:PreP l st):PreP l st.dropLast:=by
 intro k p hk;have h1:=(List.getElem?_eq_some_iff.1 hk).1;have h2:k+1≤st.length-1:=by have:=h1;simp at this;omega
 rw[List.getElem?_dropLast]at hk
 split at hk
 ·rw[h k p hk,List.dropLast_eq_take,List.take_take,Nat.min_eq_left h2]
 ·cases hk
theorem GB.back {l:List qO} {s:IM} {p:PtM} (g:GB s) (h:PtOk l p):GB (Qy s p):=⟨h.regs,by
 show(s.out.take p.told).length≤16;have:=g.out
 simp;omega,λx hx=>g.its x (List.mem_of_mem_take hx)⟩
theorem qjt {l:List qO} {st:List Int} (hp:PreP l st) {o:List PtM} {p:PtM} {q:Nat} (h:(p::o).map (·.pc)=st.reverse) (hq:p.pc=q):qD l (q+1)=st:=by
 have e:=(JH h).1;have hl:st.length=st.dropLast.length+1:=by have:=congrArg List.length e;simpa using this
 have:=hp st.dropLast.length q (by rw[e,hq];simp);rw[this,List.take_of_length_le omQ]
theorem qQs {l:List qO} (F:Fit l) {s0:IM} {V0:VM}:∀(o:List PtM) (s:IM) (V:VM) (st:List Int),PreP l st→o.map (·.pc)=st.reverse→GB s→(∀p∈o,PtOk l p)→ToldD s.out.length o→V.lv.length=o.length+1→jC V→
  frS V.lv≤frS V0.lv→V.sz=V0.sz→V.K=V0.K→V.most=V0.most→YN l s0 V0 (ye (qS l) o s V):=by
 intro o
 induction o with
 |nil=>intro s V st hp hm gb _ _ hlv G hf h1 h2 h3;exact⟨⟨gb.regs,gb.out,gb.its⟩,G,by show frS V.lv≤_;omega,h1,h2,h3,λ_ h=>(by cases h),λh=>(by cases h),λ_=>rfl⟩
 |cons p o ih=>
  intro s V st hp hm gb pts told hlv G hf h1 h2 h3;have hd:=Vn (V:=V) (by rw[hlv];simp);have hdG:=G.dropG;have hlv2:(xx V).2.lv.length=o.length+1:=by rw[hd.2,List.length_tail,hlv];simp
  have hmt:=JH hm;unfold ye;rw[iJ hd.1]
  split
  ·rename_i hop;have P:=pts p (iK ..);obtain⟨q,hq,hql⟩:=P.pc;have hqo:(qL l (q:Int)).1=17:=by rw[← hq,P.op.2,hop]
   obtain⟨e,e1,e2,e3,e4,e5⟩:=gj F hql (.inr (.inl hqo));have hst:=qjt hp hm hq;have heo:(qL l (e:Int)).1=18:=by
    rw[hqo]at e4;unfold jb at e4
    repeat' split at e4
    all_goals first |assumption |omega
   have hst2:qD l (e+1)=st.dropLast++[(e:Int)]:=by rw[jG,e5,hst];unfold q9;rw[iJ (.inr heo),iJ (by rw[heo];decide)]
   have h5:=UV F e omQ;rw[e5,hst]at h5;have hl5:st.length=st.dropLast.length+1:=by have:=congrArg List.length hmt.1;simpa using this
   have hol:o.length=st.dropLast.length:=by have:=congrArg List.length hmt.2;simpa using this
   have gb2:GB { Qy s p with opn:=o }:=⟨(gb.back P).regs,(gb.back P).out,(gb.back P).its⟩;have told2:ToldD (s.out.take p.told).length o:=by rw[List.length_take,Nat.min_eq_left told.1];exact told.2
   have key:=U8 (l:=l) (s:={ Qy s p with opn:=o }) (V:=(xx V).2) (op:=18) (p:=e) (st:=st.dropLast) gb2 e3 ⟨.inr (.inr rfl),heo⟩ (λr hr=>pts r (iX _ hr)) told2 hmt.2 hst2 hlv2 (by show o.length<5;omega) hdG.1;rw[hq,e1];obtain⟨k1,k2,k3,k4,k5⟩:=key;have hoG:=hdG.1.openG;refine⟨k4.gb |> λg=>⟨g.regs,g.out,g.its⟩,k4.good,?_,?_,?_,?_,λ_ _=>?_,λh=>(by rw[k1]at h;cases h),λh=>(by rw[k2]at h;cases h)⟩
   ·rw[k5,hoG.2];have:=hdG.2;omega
   ·rw[k5];exact h1
   ·rw[k5];exact h2
   ·rw[k5];exact h3
   ·rw[k3];exact k4
  ·exact ih s (xx V).2 st.dropLast hp.dropLast hmt.2 gb (λr hr=>pts r (iX _ hr)) told.tail hlv2 hdG.1 (by have:=hdG.2;omega) h1 h2 h3
theorem qJb {l:List qO} {s:IM} {V:VM} {x:qO} (G:GI l s V) (hf:frS V.lv<10000) :
  GB (jM s V x).2.1∧(jM s V x).2.1.opn=s.opn∧(jM s V x).2.1.out=s.out∧(jM s V x).2.1.pc=s.pc∧Jk V (jM s V x).2.2∧jC (jM s V x).2.2∧frS (jM s V x).2.2.lv≤frS V.lv+1∧
   ((jM s V x).1=11→(jM s V x).2.1=s∧Jg V (jM s V x).2.2):=by
 have gb:=G.gb;have good:=G.good;have hr:=λi=>gb.regs.at i;have same:∀e:Int,e≠11→GB s∧s.opn=s.opn∧s.out=s.out∧s.pc=s.pc∧Jk V V∧jC V∧frS V.lv≤frS V.lv+1∧(e=11→s=s∧Jg V V) :=
  λe he=>⟨gb,rfl,rfl,rfl,.refl V,good,by omega,λh=>absurd h he⟩
 unfold jM
 split
 ·split
  ·split
   ·refine⟨gb.setR ?_,rfl,rfl,rfl,xX V _,good.read,by rw[xR];omega,λh=>by cases h⟩;exact good.wd.read
   ·exact⟨gb,rfl,rfl,rfl,xX V _,good.read,by rw[xR];omega,λh=>⟨rfl,kB h⟩⟩
  ·exact same 2 omQ
 ·split
  ·split
   ·exact⟨gb,rfl,rfl,rfl,gY good.ok,good.take (WdC.one1 (hr _)),by rw[gc];omega,λh=>(Ym h).elim⟩
   ·exact same 2 omQ
  ·split
   ·split
    ·exact same 3 omQ
    ·split
     ·rename_i h0;have hb:=qZ4 (x:=qM s.regs x.2.2.1) good.wd h0;exact⟨gb.setR omQ,rfl,rfl,rfl,UU good.ok,(good.alloc).1,by rw[(good.alloc).2];omega,λh=>by cases h⟩
     ·exact⟨gb,rfl,rfl,rfl,UU good.ok,(good.alloc).1,by rw[(good.alloc).2];omega,λh=>⟨rfl,qQi h⟩⟩
   ·split
    ·exact same 2 omQ
    ·exact⟨gb,rfl,rfl,rfl,qKd good.ok,(good.free omQ).1,(good.free omQ).2,λh=>⟨rfl,qX5 h⟩⟩
theorem KE {l:List qO} {s:IM} {V:VM} (G:GI l s V):s.opn.length=(qD l s.pc.toNat).length:=by have:=congrArg List.length G.stk;simpa using this
theorem GV {l:List qO} (F:Fit l) {s:IM} {V:VM} (G:GI l s V) {i:Nat} (hi:s.pc=i) (hlt:i<l.length) (hf:frS V.lv<10000) (hN:0≤(qL l i).2.2.2.2∧(qL l i).2.2.2.2<18446744073709551616) (hx:(qL l i).1≠23) :
  YN l s V (doM (qS l) s V (qL l i)):=by
 have hw:=x7 (F.ok i hlt);have hwo:=xK (F.ok i hlt);have hop:1≤(qL l i).1∧(qL l i).1≤23:=by have:=hw.1;unfold ve at this;simp only[Bool.and_eq_true,decide_eq_true_eq]at this;exact this.1.1.1.1
 have hbe:zi (qL l i).1=decide ((qL l i).1=14∨(qL l i).1=17):=rfl;have hend:jb (qL l i).1=if(qL l i).1=15 then 14 else if(qL l i).1=18 then 17 else if(qL l i).1=19 then 18 else 0:=rfl
 have hjmp:=λh=>qQa F hlt h;have hstk:=G.stk;rw[hi,Int.toNat_natCast]at hstk;have hol:=KE G;rw[hi,Int.toNat_natCast]at hol;have hr:=λi=>G.gb.regs.at i;have hmb:=λh=>gj F hlt h;have hmu:=λh=>kU F hlt h;have hss:qD l (i+1)=q9 (qD l i) i (qL l i).1:=jG;have plain:(qL l i).1≠14→(qL l i).1≠17→(qL l i).1≠15→(qL l i).1≠18→(qL l i).1≠19→zi (qL l i).1=false∧(qL l i).1≠18∧jb (qL l i).1=0:=by intro a b c d e;refine⟨by rw[hbe];exact iV omQ,d,?_⟩;rw[hend,iQ c,iQ d,iQ e]
 have keep:∀{s':IM} {V':VM} {e:Int},(qL l i).1≠14→(qL l i).1≠17→(qL l i).1≠15→(qL l i).1≠18→(qL l i).1≠19→GB s'→s'.opn=s.opn→s.out.length≤s'.out.length→Jk V V'→jC V'→frS V'.lv≤frS V.lv+1→
   (e=11→s'=s∧Jg V V')→YN l s V ⟨e,s.pc+1,false,s',V'⟩:=λa b c d e gb ho hl hk hg hf hn=>
  YN.plain G hi hlt (plain a b c d e).1 (plain a b c d e).2.1 (plain a b c d e).2.2 gb ho hl hk hg hf hn
 generalize hxe:qL l i=x at*;obtain⟨sregs,sout,spc,sopn⟩:=s;dsimp only at hi hstk hol hr keep ⊢;unfold doM;have reg:∀v:Int,x.1≠14→x.1≠17→x.1≠15→x.1≠18→x.1≠19→0≤v∧v<18446744073709551616→YN l ⟨sregs,sout,spc,sopn⟩ V ⟨0,spc+1,false,setR ⟨sregs,sout,spc,sopn⟩ x.2.1 v,V⟩ :=
  λv a b c d e hv=>keep a b c d e (G.gb.setR hv) rfl (Nat.le_refl _) (.refl V) G.good omQ λh=>by cases h
 have jump:∀n:Int,(x.1=12∨x.1=13)→(n=x.2.2.2.1∨n=spc+1)→YN l ⟨sregs,sout,spc,sopn⟩ V ⟨0,n,false,⟨sregs,sout,spc,sopn⟩,V⟩:=by
  intro n ho hn;rcases hn with rfl |rfl
  ·obtain⟨c,c1,c2,c3⟩:=hjmp ho;refine⟨G.gb,G.good,Nat.le_succ _,rfl,rfl,rfl,λ_ _=>⟨⟨G.gb.regs,G.gb.out,G.gb.its⟩,⟨c,c1,c2⟩,G.pts,G.told,?_,G.lv,G.good⟩,λh=>(by cases h),λh=>(by cases h)⟩;show sopn.map _=(qD l x.2.2.2.1.toNat).reverse;rw[c1,Int.toNat_natCast,c3];exact hstk
  ·exact keep omQ omQ omQ omQ omQ G.gb rfl (Nat.le_refl _) (.refl V) G.good omQ λh=>by cases h
 by_cases c1:x.1=1
 ·rw[iJ c1];exact reg _ omQ omQ omQ omQ omQ hN
 rw[iQ c1];by_cases c2:x.1=2
 ·rw[iJ c2];exact reg _ omQ omQ omQ omQ omQ (hr _)
 rw[iQ c2];by_cases c3:x.1=3
 ·rw[iJ c3];exact reg _ omQ omQ omQ omQ omQ (qZ6 _)
 rw[iQ c3];by_cases c4:x.1=4
 ·rw[iJ c4];exact reg _ omQ omQ omQ omQ omQ (qZ6 _)
 rw[iQ c4];by_cases c5:x.1=5
 ·rw[iJ c5];exact reg _ omQ omQ omQ omQ omQ (qZ6 _)
 rw[iQ c5];by_cases c6:x.1=6
 ·rw[iJ c6];exact reg _ omQ omQ omQ omQ omQ (qZc _)
 rw[iQ c6];by_cases c7:x.1=7
 ·rw[iJ c7];exact reg _ omQ omQ omQ omQ omQ (qZc _)
 rw[iQ c7];by_cases c12:x.1=12
 ·rw[iJ c12];exact jump _ (.inl c12) (.inl rfl)
 rw[iQ c12];by_cases c13:x.1=13
 ·rw[iJ c13];by_cases cz:qM sregs x.2.1=0
  ·rw[iJ cz];exact jump _ (.inr c13) (.inl rfl)
  ·rw[iQ cz];exact jump _ (.inr c13) (.inr rfl)
 rw[iQ c13];by_cases c21:x.1=21
 ·rw[iJ c21];have hk:∀e:Int,e≠11→YN l ⟨sregs,sout,spc,sopn⟩ V ⟨e,spc+1,false,⟨sregs,sout,spc,sopn⟩,V⟩:=λe he=>
   keep omQ omQ omQ omQ omQ G.gb rfl (Nat.le_refl _) (.refl V) G.good (Nat.le_succ _) λh=>absurd h he
  by_cases hlen:16≤sout.length
  ·rw[iJ hlen];exact hk 5 omQ
  ·rw[iQ hlen];refine keep omQ omQ omQ omQ omQ ⟨G.gb.regs,?_,?_⟩ rfl ?_ (.refl V) G.good (Nat.le_succ _) λh=>by cases h
   ·show(sout++[_]).length≤16;simp;omega
   ·intro y hy;rcases List.mem_append.1 hy with hy |hy
    ·exact G.gb.its y hy
    ·rw[List.mem_singleton]at hy;subst hy;exact hr _
   ·show sout.length≤(sout++[_]).length;simp
 rw[iQ c21];by_cases c22:x.1=22
 ·rw[iJ c22];exact keep omQ omQ omQ omQ omQ G.gb rfl (Nat.le_refl _) (.refl V) G.good (Nat.le_succ _) λh=>by cases h
 rw[iQ c22];by_cases c8:x.1=8∨x.1=9∨x.1=10∨x.1=11
 ·rw[iJ c8];obtain⟨t1,t2,t3,t4,t5,t6,t7,t8⟩:=qJb (x:=x) G hf;exact keep omQ omQ omQ omQ omQ t1 t2 (by rw[t3];exact Nat.le_refl _) t5 t6 t7 t8
 rw[iQ c8];unfold gn;by_cases h:x.1=14∨x.1=17
 ·rw[iJ h];dsimp only;subst hi;have hb:zi x.1=true:=by rw[hbe];exact iG h
  have he:¬0<jb x.1:=by rw[hend,iQ omQ,iQ omQ,iQ omQ];omega
  have key:=U8 (l:=l) (s:=⟨sregs,sout,(i:Int),sopn⟩) (V:=V) (op:=x.1) (p:=i) (st:=qD l i) G.gb hlt ⟨by omega,by rw[hxe]⟩ G.pts G.told hstk (by rw[hss];unfold q9;rw[iJ (.inl hb),iQ he]) G.lv (by show sopn.length<5;rw[hol];exact hw.2.2.2 hb) G.good;obtain⟨k1,k2,k3,k4,k5⟩:=key;have hoG:=G.good.openG;refine⟨k4.gb |> λg=>⟨g.regs,g.out,g.its⟩,k4.good,?_,?_,?_,?_,λ_ _=>?_,λh=>(by rw[k1]at h;cases h),λh=>(by rw[k2]at h;cases h)⟩
  ·rw[k5,hoG.2];omega
  ·rw[k5];rfl
  ·rw[k5];rfl
  ·rw[k5];rfl
  ·rw[k3];exact k4
 rw[iQ h];clear h;by_cases h:x.1=15∨x.1=19
 ·rw[iJ h];have he:0<jb x.1:=by rw[hend];rcases h with h |h<;>rw[h]<;>decide
  have hne:=hwo.2.1 (.inl he)
  match sopn,hol,hstk,G with
  |[],hol,_,_=>exact absurd (iA hol.symm) hne
  |p::o,hol,hstk,G=>
   have hk:=VP (V:=V) (by rw[G.lv];simp);have hkG:=G.good.keepG omQ;have hlv:=G.lv
   refine⟨⟨G.gb.regs,G.gb.out,G.gb.its⟩,hkG.1,by rw[hkG.2];omega,rfl,rfl,rfl,λ_ _=>⟨⟨G.gb.regs,G.gb.out,G.gb.its⟩,⟨i+1,by show spc+1=_;omega,by omega⟩,λq hq=>G.pts q (iX _ hq),G.told.tail,?_,?_,hkG.1⟩,λh0=>(by
    dsimp only at h0;rw[hk.1]at h0;cases h0),λh=>(by cases h)⟩
   ·show o.map _=(qD l (spc+1).toNat).reverse;rw[hi,show((i:Int)+1).toNat=i+1 by omega,hss];unfold q9;rw[iQ (by rw[hbe];simp;omega),iJ he];exact(JH hstk).2
   ·show(vF V).2.lv.length=o.length+1;have:=hk.2;simp at hlv;omega
 rw[iQ h];clear h;by_cases h:x.1=18
 ·rw[iJ h];have he:0<jb x.1:=by rw[hend];rw[h];decide
  have hne:=hwo.2.1 (.inl he);obtain⟨e,e1,e2,e3,e4,e5⟩:=hmb (.inr (.inr h));have heo:(qL l (e:Int)).1=19:=by
   rw[h]at e4;unfold jb at e4
   repeat' split at e4
   all_goals first |assumption |omega
  match sopn,hol,hstk,G with
  |[],hol,_,_=>exact absurd (iA hol.symm) hne
  |p::o,hol,hstk,G=>
   have hk:=VP (V:=V) (by rw[G.lv];simp);have hkG:=G.good.keepG omQ;have hlv:=G.lv
   refine⟨⟨G.gb.regs,G.gb.out,G.gb.its⟩,hkG.1,by rw[hkG.2];omega,rfl,rfl,rfl,λ_ _=>⟨⟨G.gb.regs,G.gb.out,G.gb.its⟩,⟨e+1,by show qM (qS l) spc+1=_;rw[hi,e1];omega,by omega⟩,λq hq=>G.pts q (iX _ hq),G.told.tail,?_,?_,hkG.1⟩,λh0=>(by
    dsimp only at h0;rw[hk.1]at h0;cases h0),λh=>(by cases h)⟩
   ·show o.map _=(qD l (qM (qS l) spc+1).toNat).reverse;rw[hi,e1,show((e:Int)+1).toNat=e+1 by omega,jG,e5,hss];unfold q9;rw[iQ (by rw[heo];decide),iJ (by rw[heo];decide),iJ (.inr h),iJ he,List.dropLast_concat];exact(JH hstk).2
   ·show(vF V).2.lv.length=o.length+1;have:=hk.2;simp at hlv;omega
 rw[iQ h];clear h;by_cases h:x.1=16
 ·rw[iJ h];obtain⟨e,e1,e2,e3,e4,hne⟩:=hmu h
  match sopn,hol,hstk,G with
  |[],hol,_,_=>exact absurd (iA hol.symm) hne
  |p::o,hol,hstk,G=>
   have hk:=Vn (V:=V) (by rw[G.lv];simp);have hkG:=G.good.dropG;have hlv:=G.lv;have P:=G.pts p (iK ..);have told:=G.told;have gb2:=G.gb.back P
   refine⟨⟨gb2.regs,gb2.out,gb2.its⟩,hkG.1,by have:=hkG.2;dsimp only;omega,rfl,rfl,rfl,λ_ _=>⟨⟨gb2.regs,gb2.out,gb2.its⟩,⟨e+1,by show qM (qS l) spc+1=_;rw[hi,e1];omega,by omega⟩,λq hq=>G.pts q (iX _ hq),?_,?_,?_,hkG.1⟩,λh0=>(by
    dsimp only at h0;rw[hk.1]at h0;cases h0),λh=>(by cases h)⟩
   ·show ToldD (sout.take p.told).length o;rw[List.length_take,Nat.min_eq_left told.1];exact told.2
   ·show o.map _=(qD l (qM (qS l) spc+1).toNat).reverse;rw[hi,e1,show((e:Int)+1).toNat=e+1 by omega,jG,e4];unfold q9;rw[iQ (by rw[e3];decide),iJ (by rw[e3];decide)];exact(JH hstk).2
   ·show(xx V).2.lv.length=o.length+1;rw[hk.2,List.length_tail,hlv];simp
 ·rw[iQ h];exact qQs F sopn _ V (qD l i) (MQ i) hstk G.gb G.pts G.told G.lv G.good (Nat.le_refl _) rfl rfl rfl
end
section
variable {g h:AH} {L R:List SP}
theorem NS {b off n sz a:Nat} {k:IntKind} {K:AV→Go.Ae.R} {Q:AV→AH→Prop} (ha:a<n) (w:wp (K (.ptr b (off+a*sz))) Q):wp (kb (.ptr b off) (.int k (a:Int)) n sz K) Q:=by unfold kb;show wp (bif Nat.ble (a+1) n then _ else none) Q;rw[iY (show a+1≤n from ha)];exact w
theorem qY6 {z:Int} (h0:0≤z):∃a:Nat,z.tmod ((8:Nat):Int)=a∧a<8∧(z<8→z=a):=by refine⟨(z%8).toNat,?_,by omega,λh=>by omega⟩;rw[Int.tmod_eq_emod_of_nonneg h0];omega
def qvn (r:List Int):List AV:=[.int .u64 (qM r 0),.int .u64 (qM r 1),.int .u64 (qM r 2),.int .u64 (qM r 3),.int .u64 (qM r 4),.int .u64 (qM r 5),.int .u64 (qM r 6),.int .u64 (qM r 7)]
def xf (p:PtM):List AV:=[.int .i64 p.op,.int .i64 p.pc,.int .u64 (qM p.regs 0),.int .u64 (qM p.regs 1),.int .u64 (qM p.regs 2),.int .u64 (qM p.regs 3),.int .u64 (qM p.regs 4),.int .u64 (qM p.regs 5),.int .u64 (qM p.regs 6),.int .u64 (qM p.regs 7),.int .i64 (p.told:Int)]
def gB (c mv ov:AV) (v o:Nat) (bad err fin left nx pc:Int) (r:List Int):List AV :=
 [c,.ptr v 0,mv,.int .i64 bad,.int .i64 err,.int .i64 fin,.int .u64 (qM r 0),.int .u64 (qM r 1),.int .u64 (qM r 2),.int .u64 (qM r 3),.int .u64 (qM r 4),.int .u64 (qM r 5),.int .u64 (qM r 6),.int .u64 (qM r 7),
  .ptr o 0,.int .i64 pc,.int .i64 nx,.int .i64 left,ov]
section
variable {c mv ov:AV} {v o:Nat} {bad err fin left nx pc:Int} {r:List Int}
theorem Yj {a:Nat} (ha:a<8):(gB c mv ov v o bad err fin left nx pc r)[6+a*1]? =some (.int .u64 (qM r (a:Int))):=by
 rcases(show a=0∨a=1∨a=2∨a=3∨a=4∨a=5∨a=6∨a=7 by omega)with rfl |rfl |rfl |rfl |rfl |rfl |rfl |rfl<;>rfl
theorem qKn {i k:Nat} {z:Int} (hi:i<r.length):qM (r.set i z) (k:Int)=if i=k then z else qM r (k:Int):=by
 unfold qM;rw[Int.toNat_natCast,List.getElem?_set]
 split
 ·rename_i h;subst h;simp[hi]
 ·rfl
theorem qvE {a:Nat} {z:Int} (hr:r.length=8) (ha:a<8):(gB c mv ov v o bad err fin left nx pc r).set (6+a*1) (.int .u64 z)=gB c mv ov v o bad err fin left nx pc (r.set a z):=by have hs:=λk:Nat=>qKn (r:=r) (i:=a) (k:=k) (z:=z) omQ;have e0:=hs 0;have e1:=hs 1;have e2:=hs 2;have e3:=hs 3;have e4:=hs 4;have e5:=hs 5;have e6:=hs 6;have e7:=hs 7;simp only[iZ,show((0:Nat):Int)=0 from rfl,show((1:Nat):Int)=1 from rfl,show((2:Nat):Int)=2 from rfl,show((3:Nat):Int)=3 from rfl,show((4:Nat):Int)=4 from rfl,show((5:Nat):Int)=5 from rfl,show((6:Nat):Int)=6 from rfl,show((7:Nat):Int)=7 from rfl]at e0 e1 e2 e3 e4 e5 e6 e7;unfold gB;rw[e0,e1,e2,e3,e4,e5,e6,e7];rcases(show a=0∨a=1∨a=2∨a=3∨a=4∨a=5∨a=6∨a=7 by omega)with rfl |rfl |rfl |rfl |rfl |rfl |rfl |rfl<;>rfl
end
def IntC (x v:Nat) (l:List qO) (bad:Int) (mt:List Int) (s:IM) (err fin left nx:Int):SP:=.ex λc=>.ex λmv=>.ex λov=>.ex λo=>.all
 [qk x (gB c mv ov v o bad err fin left nx s.pc s.regs),qA 51 5 l.length c (l.flatMap jX),qA 3 1 mt.length mv (mt.map (.int .i64)),SlaC o s.out,qA 303 11 s.opn.length ov (s.opn.reverse.flatMap xf)]
section
variable {x v:Nat} {l:List qO} {bad:Int} {mt:List Int} {s:IM} {err fin left nx:Int}
theorem IntC.E (H:HS g h (IntC x v l bad mt s err fin left nx::R)):∃c mv ov o,HS g h (qk x (gB c mv ov v o bad err fin left nx s.pc s.regs)::qA 51 5 l.length c (l.flatMap jX)::qA 3 1 mt.length mv (mt.map (.int .i64))::SlaC o s.out::
  qA 303 11 s.opn.length ov (s.opn.reverse.flatMap xf)::R):=by
 obtain⟨c,H⟩:=H.exE;obtain⟨mv,H⟩:=H.exE;obtain⟨ov,H⟩:=H.exE;obtain⟨o,H⟩:=H.exE;exact⟨c,mv,ov,o,H.allE⟩
theorem IntC.I {c mv ov:AV} {o:Nat} (H:HS g h (qk x (gB c mv ov v o bad err fin left nx s.pc s.regs)::qA 51 5 l.length c (l.flatMap jX)::qA 3 1 mt.length mv (mt.map (.int .i64))::SlaC o s.out::
  qA 303 11 s.opn.length ov (s.opn.reverse.flatMap xf)::R)):HS g h (IntC x v l bad mt s err fin left nx::R) :=
 HS.exI c (HS.exI mv (HS.exI ov (HS.exI o H.allI)))
theorem qk5 {n o:Nat} (hn:1≤n) {l:List ItT} (H:HS g h (SlaC o l::R)):t_w n 302 [.ptr o 0] h λr h'=>r=.int .i64 (l.length:Int)∧h'=h:=by
 refine t_e1 (S:=S302) rfl omQ λk hk=>?_;unfold S302;try simp only[iZ]
 obtain⟨sv,H⟩:=SlaC.E H;refine qG (qQ (qX ‹_› .here rfl ?_));refine qi ‹_› e_1 ?_;exact qq ⟨rfl,rfl⟩
theorem qxL {n o:Nat} (hn:1≤n) {l:List ItT} {x:ItT} (H:HS g h (SlaC o l::R)) (hl:l.length≤16) :
  t_w n 214 [.ptr o 0,Qg x] h λr h'=>r=.bool (decide (l.length<16))∧HS g h' (SlaC o (if l.length<16 then l++[x]else l)::R):=by
 refine t_e2 (S:=S214) rfl omQ λk hk=>?_;unfold S214;try simp only[iZ]
 obtain⟨sv,H⟩:=SlaC.E H;by_cases h1:l.length<16
 ·rw[iJ h1,iG h1];refine qG (qQ (qX ‹_› .here rfl ?_));refine qi ‹_› e_1 ?_;refine zK omQ ?_;refine qJ (qG (qQ (qX ‹_› .here rfl ?_)))
  refine qe (n:=1) (l:=[Qg x]) (sz:=1) H rfl rfl (by
   have e:=(XL x).1
   simp only[yB,e,vY];rfl) (vJ (XL x)) λv2 h2 H2=>?_
  refine jR (H2.sel e_2) (H2.sl .here) omQ omQ (vJ (XL x)) λv3 h3 H3=>?_;have o3:=H3.one .here;refine qG (qQ (qg H3 (b:=o) e_2 o3 osQ λh4 H4=>?_));refine qq ⟨rfl,SlaC.I (sv:=v3) ?_⟩;rw[List.length_append,List.map_append];exact H4.sub (.cons .here (.cons .here (.drop .refl)))
 ·rw[iQ h1,iV h1];refine qG (qQ (qX ‹_› .here rfl ?_));refine qi ‹_› e_1 ?_;refine zv omQ ?_;refine qZ ?_;exact qq ⟨rfl,SlaC.I H⟩
theorem qzP {n o:Nat} (hn:2≤n) {l:List ItT} {u:Int} (H:HS g h (SlaC o l::R)) (hl:l.length≤16) :
  t_w n 194 [.ptr o 0,.int .u64 u] h λr h'=>r=.bool (decide (l.length<16))∧HS g h' (SlaC o (if l.length<16 then l++[(1,u)]else l)::R):=by
 refine t_e2 (S:=S194) rfl omQ λk hk=>?_;unfold S194;try simp only[iZ]
 refine qW (qxL (x:=(1,u)) omQ H hl) ?_;rintro _ h2 ⟨rfl,H2⟩;exact qq ⟨rfl,H2⟩
theorem Mw {n m:Nat} (hn:1≤n) {e:TypeId} {v:AV} {xs:List AV} (H:HS g h L) (s:Sel L (qA e 1 m v xs) R) (ha:qo xs=true) (hm:m≤1000000) :
  t_w n 183 [v] h λr h'=>HS g h' (qA 20 1 m r xs::L):=by
 refine t_e1 (S:=S183) rfl omQ λk hk=>?_;unfold S183;try simp only[iZ]
 refine Xj H s (λh1 h2=>?_) ?_
 ·subst h1 h2;have hx:xs=[]:=iA (by simpa using H.sl_len s);subst hx;exact qZ (qq H.nils)
 ·refine qJ (qe (n:=0) (l:=[]) (sz:=1) H rfl rfl rfl rfl λv2 h2 H2=>?_);refine jR H2 (H2.sl (.there s)) omQ omQ ha λv3 h3 H3=>?_;rw[Nat.zero_add,List.nil_append]at H3;exact qq H3
theorem qWD {n o:Nat} (hn:2≤n) {l:List ItT} (H:HS g h (SlaC o l::R)) (hl:l.length≤16) :
  t_w n 151 [.ptr o 0] h λr h'=>∃p,r=.ptr p 0∧HS g h' (SlaC p l::SlaC o l::R):=by
 refine t_e1 (S:=S151) rfl omQ λk hk=>?_;unfold S151;try simp only[iZ]
 obtain⟨sv,H⟩:=SlaC.E H;refine qG (qQ (qX ‹_› .here rfl ?_));refine qW (Mw omQ H e_1 (Uc l) omQ) ?_;intro cv h2 H2;have oc:=H2.one .here;refine qH (l:=[cv]) (by simp only[yB,oc.1];rfl) ?_;refine qI H2 (vJ oc) λp h3 H3=>qq ⟨p,rfl,?_⟩;have H4:=SlaC.I (o:=p) (l:=l) (sv:=cv) (R:=qk o [sv]::qA 20 1 l.length sv (l.map Qg)::R) H3;exact HS.unsel e_1 (SlaC.I (o:=o) (l:=l) (sv:=sv) (R:=SlaC p l::R) (H4.sub (.cons e_1 (.cons e_1 (.cons .here .refl)))))
theorem qxE {n o m:Nat} (hn:2≤n) {l:List ItT} (H:HS g h (SlaC o l::R)) (hl:l.length≤16) (hm:m≤l.length) :
  t_w n 304 [.ptr o 0,.int .i64 (m:Int)] h λ_ h'=>HS g h' (SlaC o (l.take m)::R):=by
 refine t_e2 (S:=S304) rfl omQ λk hk=>?_;unfold S304;try simp only[iZ]
 obtain⟨sv,H⟩:=SlaC.E H;refine qG (qQ (qX ‹_› .here rfl ?_));refine qG (qQ (qX ‹_› .here rfl ?_));refine qi ‹_› e_1 ?_;refine zZ (ze ?_);rw[show max ((0:Nat):Int) (min (m:Int) (l.length:Int))=(m:Int) by omega];refine XY (H.sel e_1) omQ hm λv2 H2=>?_;rw[Nat.mul_one,← List.map_take]at H2;refine qW (Mw omQ H2 .here (Uc _) omQ) ?_;intro cv h3 H3;have oc:=H3.one .here;refine qG (qQ (qg H3 (b:=o) e_2 oc osQ λh4 H4=>?_));refine qq (SlaC.I (sv:=cv) ?_);rw[show(l.take m).length=m by simp;omega];exact H4.sub (.cons .here (.cons .here (.drop .refl)))
theorem MF {n:Nat} (hn:1≤n) {p:Prop} [Decidable p]:t_w n 193 [.bool (decide p)] h λr h'=>r=.int .u64 (Xs p)∧h'=h:=by
 refine t_e1 (S:=S193) rfl omQ λk hk=>?_;unfold S193;try simp only[iZ]
 unfold Xs;by_cases hp:p
 ·rw[iG hp,iJ hp];exact qZ (qq ⟨rfl,rfl⟩)
 ·rw[iV hp,iQ hp];exact qJ (qq ⟨rfl,rfl⟩)
theorem OC {n:Nat} (hn:1≤n) {e:Int} (H:HS g h (IntC x v l bad mt s err fin left nx::R)) :
  t_w n 164 [.ptr x 0,.int .i64 e] h λ_ h'=>HS g h' (IntC x v l bad mt s e 4 left nx::R):=by
 refine t_e2 (S:=S164) rfl omQ λk hk=>?_;unfold S164;try simp only[iZ]
 obtain⟨c,mv,ov,o,H⟩:=IntC.E H;unfold gB at H;refine qG (qQ (qg H (b:=x) .here ⟨rfl,rfl⟩ osQ λh1 H1=>?_));refine qG (qQ (qg H1 (b:=x) .here ⟨rfl,rfl⟩ osQ λh2 H2=>?_));exact qq (IntC.I H2)
theorem qxC {n:Nat} (hn:1≤n) (H:HS g h (IntC x v l bad mt s err fin left nx::R)):t_w n 139 [.ptr x 0] h λr h'=>r=.int .i64 err∧h'=h:=by
 refine t_e1 (S:=S139) rfl omQ λk hk=>?_;unfold S139;try simp only[iZ]
 obtain⟨c,mv,ov,o,H⟩:=IntC.E H;unfold gB at H;refine qG (qQ (qX ‹_› .here rfl ?_));exact qq ⟨rfl,rfl⟩
theorem qVP {n:Nat} (hn:3≤n) (H:HS g h (IntC x v l bad mt s err fin left nx::R)) (hl:s.out.length≤16) :
  t_w n 124 [.ptr x 0] h λr h'=>∃p,r=.ptr p 0∧HS g h' (SlaC p s.out::IntC x v l bad mt s err fin left nx::R):=by
 refine t_e1 (S:=S124) rfl omQ λk hk=>?_;unfold S124;try simp only[iZ]
 obtain⟨c,mv,ov,o,H⟩:=IntC.E H;unfold gB at H;refine qG (qQ (qX ‹_› .here rfl ?_));refine qW (qWD omQ (H.sel (P:=SlaC o s.out) e_3) hl) ?_;rintro _ h2 ⟨p,rfl,H2⟩;refine qq ⟨p,rfl,?_⟩;exact HS.unsel e_1 (IntC.I (c:=c) (mv:=mv) (ov:=ov) (o:=o) (R:=SlaC p s.out::R) (H2.sub (.cons e_2 (.cons e_2 (.cons e_2 (.cons e_1 (.cons e_1 .refl)))))))
theorem V5 {n:Nat} (hn:1≤n) {b off:Int} (hb:0≤b∧b<18446744073709551616) (ho:0≤off∧off≤100):t_w n 229 [.int .u64 b,.int .i64 off] h λr h'=>r=.tup [.int .i64 (yE b off).1,.int .i64 (yE b off).2]∧h'=h:=by
 refine t_e2 (S:=S229) rfl omQ λk hk=>?_;unfold S229;try simp only[iZ]
 unfold yE;by_cases h1:2147483648≤b
 ·rw[iJ (.inl h1)];refine zv omQ ?_;refine qV ?_;(try dsimp only);refine qp ?_;(try dsimp only);refine qE (qV ?_);(try dsimp only);refine qp ?_;(try dsimp only);refine qE (qZ ?_)
  exact qq ⟨rfl,rfl⟩
 ·refine zK omQ ?_;refine qV ?_;(try dsimp only);refine qc ?_;(try dsimp only);refine xY omQ ?_;refine qb omQ ?_
  by_cases h2:2147483648≤b+off
  ·rw[iJ (.inr (.inl h2))];refine zv omQ ?_;refine qC (qV ?_);(try dsimp only);refine qp ?_;(try dsimp only);refine qE (qZ ?_)
   exact qq ⟨rfl,rfl⟩
  ·refine zK omQ ?_;refine qC (qV ?_);(try dsimp only);refine qc ?_;(try dsimp only);refine xY omQ ?_;refine qb omQ ?_
   by_cases h3:b+off<6
   ·rw[iJ (.inr (.inr h3))];refine jB omQ ?_;refine qC (qZ ?_);exact qq ⟨rfl,rfl⟩
   ·rw[iQ omQ];refine jK omQ ?_;refine qC (qJ (xY omQ ?_));refine qb omQ ?_;exact qq ⟨rfl,rfl⟩
theorem qGi {most:Nat} {lv:List LvM} {p z:Int} (h:¬(gX most lv p z).1=0):(gX most lv p z).2=lv:=by
 cases lv with
 |nil=>rfl
 |cons y r=>
  unfold gX at h ⊢;dsimp only at h ⊢
  split
  ·rfl
  ·rename_i h1;rw[iQ h1]at h
   split
   ·rfl
   ·rename_i h2;rw[iQ h2]at h;exact absurd rfl h
theorem qK8 {n:Nat} (hn:6≤n) {v:Nat} {M:VM} {p z:Int} (H:HS g h (ViewC v M::R)) (O:OkV M) :
  t_w n 230 [.ptr v 0,.int .i64 p,.int .u64 z] h λr h'=>r=.int .i64 (ju M [(p,z)]).1∧HS g h' (ViewC v (ju M [(p,z)]).2::R):=by
 refine t_e3 (S:=S230) rfl omQ λk hk=>?_;unfold S230;try simp only[iZ]
 refine qW (Nr omQ H) ?_;rintro _ _ ⟨rfl,rfl⟩;by_cases hp:1≤p∧p<M.sz
 ·rw[iG hp];obtain⟨fv,ov,q,e,H⟩:=ViewC.E H;refine jW (qJ (qG (qQ (qX ‹_› .here rfl ?_))));refine qW (qZT omQ (H.sel (P:=LgC q M.most M.lv) e_3) O.lvs) ?_;rintro _ h2 ⟨rfl,H2⟩;have e2:ju M [(p,z)]=((gX M.most M.lv p z).1,{ M with lv:=(gX M.most M.lv p z).2 }):=by
   unfold ju;rw[iJ (by intro c hc;rw[List.mem_singleton]at hc;subst hc;exact hp),gK]
   split
   ·rename_i h0;rw[h0];rfl
   ·rename_i h0;have hx:=qGi h0;rw[hx]
  rw[e2];exact qq ⟨rfl,ViewC.I (M:={ M with lv:=(gX M.most M.lv p z).2 }) (fv:=fv) (ov:=ov) (q:=q) (e:=e) (H2.sub (.cons e_1 (.cons e_1 (.cons e_1 (.refl)))))⟩
 ·rw[iV hp];have e2:ju M [(p,z)]=(2,M):=by
   unfold ju;rw[iQ (λhh=>hp (hh (p,z) (List.mem_singleton_self _)))]
  rw[e2];refine jk (qZ ?_);exact qq ⟨rfl,H⟩
end
end
section
variable {g h:AH} {L R:List SP}
section
variable {x v:Nat} {l:List qO} {bad:Int} {mt:List Int} {s:IM} {err fin left nx:Int}
theorem qWs (o:List PtM):(o.reverse.flatMap xf).length=o.length*11:=by rw[YT (sz:=11) _ (λ_=>rfl),List.length_reverse]
theorem qjC (p:PtM):qo (xf p)=true:=rfl
theorem Vo (p:PtM) (o:List PtM):(p::o).reverse.flatMap xf=o.reverse.flatMap xf++xf p:=by rw[List.reverse_cons,List.flatMap_append];simp
theorem J9 {n:Nat} (hn:1≤n) {p:PtM} {o:List PtM} (ho:s.opn=p::o) (hlo:o.length≤100) (H:HS g h (IntC x v l bad mt s err fin left nx::R)) :
  t_w n 234 [.ptr x 0] h λr h'=>r=.agg (xf p)∧HS g h' (IntC x v l bad mt { s with opn:=o } err fin left nx::R):=by
 refine t_e1 (S:=S234) rfl omQ λk hk=>?_;unfold S234;try simp only[iZ]
 obtain⟨c,mv,ov,q,H⟩:=IntC.E H;rw[ho,Vo,List.length_cons]at H;have hol:=qWs o;generalize hA:o.reverse.flatMap xf=A at*;unfold gB at H;refine qI H rfl λb0 h1 H1=>?_;clear H;refine qG (qQ (qX ‹_› e_1 rfl ?_));refine qG (qQ (qX ‹_› e_1 rfl ?_));refine qi ‹_› e_5 ?_;refine jr omQ ?_;rw[show((o.length+1:Nat):Int)-((1:Nat):Int)=(o.length:Int) by omega]
 refine zH (l:=xf p) (H1.sl e_5) (i:=o.length) omQ omQ (by
  rw[List.drop_append_of_le_length omQ,List.drop_of_length_le omQ,List.nil_append];rfl) ?_
 refine qI H1 rfl λb2 h3 H3=>qd H3 .here rfl (by show 0+11≤11;omega) rfl λh4 H4=>?_
 have H5:HS g h4 (qk b2 (xf p)::qk b0 [.int .i64 ((0:Nat):Int),.int .i64 ((0:Nat):Int),.int .u64 ((0:Nat):Int),.int .u64 ((0:Nat):Int),.int .u64 ((0:Nat):Int),.int .u64 ((0:Nat):Int),.int .u64 ((0:Nat):Int),.int .u64 ((0:Nat):Int),.int .u64 ((0:Nat):Int),.int .u64 ((0:Nat):Int),.int .i64 ((0:Nat):Int)]::
  qk x (gB c mv ov v q bad err fin left nx s.pc s.regs)::qA 51 5 l.length c (l.flatMap jX)::qA 3 1 mt.length mv (mt.map (.int .i64))::SlaC q s.out::
  qA 303 11 (o.length+1) ov (A++xf p)::R):=H4
 clear H1 H3 H4;unfold gB at H5;refine qG (qQ (qX ‹_› e_2 rfl ?_));refine qG (qQ (qX ‹_› e_2 rfl ?_));refine qi ‹_› e_6 ?_;refine jr omQ ?_;rw[show((o.length+1:Nat):Int)-((1:Nat):Int)=(o.length:Int) by omega];refine XY (hi:=o.length) (H5.sel e_6) omQ omQ λv6 H6=>?_;rw[List.take_append_of_le_length omQ,List.take_of_length_le omQ]at H6;have o6:=H6.one .here;clear H5;refine qG (qQ (qg H6 (b:=x) e_3 o6 osQ λh7 H7=>?_));refine qF H7 (b:=b2) (off:=0) e_2 rfl omQ (l:=xf p) rfl ?_;refine qd H7 (b:=b0) e_3 rfl (by show 0+11≤11;omega) rfl λh8 H8=>?_
 have H8:HS g h8 (qk b0 (xf p)::qk x (gB c mv v6 v q bad err fin left nx s.pc s.regs)::qA 303 11 o.length v6 A::qk b2 (xf p)::
  qA 51 5 l.length c (l.flatMap jX)::qA 3 1 mt.length mv (mt.map (.int .i64))::SlaC q s.out::R):=H8
 refine qF H8 (b:=b0) (off:=0) .here rfl omQ (l:=xf p) rfl ?_;refine qq ⟨rfl,IntC.I (s:={ s with opn:=o }) (c:=c) (mv:=mv) (ov:=v6) (o:=q) ?_⟩
 show HS g h8 (qk x (gB c mv v6 v q bad err fin left nx s.pc s.regs)::qA 51 5 l.length c (l.flatMap jX)::qA 3 1 mt.length mv (mt.map (.int .i64))::SlaC q s.out::
  qA 303 11 o.length v6 (o.reverse.flatMap xf)::R)
 rw[hA];exact H8.sub (.cons e_1 (.cons e_3 (.cons e_3 (.cons e_3 (.cons e_1 (.drop (.drop .refl)))))))
theorem Ou {n:Nat} (hn:3≤n) {p:PtM} (ht:p.told≤s.out.length) (hl:s.out.length≤16) (H:HS g h (IntC x v l bad mt s err fin left nx::R)) :
  t_w n 236 [.ptr x 0,.agg (xf p)] h λ_ h'=>HS g h' (IntC x v l bad mt (Qy s p) err fin left nx::R):=by
 refine t_e2 (S:=S236) rfl omQ λk hk=>?_;unfold S236;try simp only[iZ]
 refine qI H (qjC p) λb0 h1 H1=>?_;obtain⟨c,mv,ov,q,H2⟩:=IntC.E (H1.sel (P:=IntC x v l bad mt s err fin left nx) e_1);clear H H1;refine qQ (qF H2 (b:=b0) (off:=2) e_5 rfl omQ (l:=qvn p.regs) rfl ?_);refine qG (qQ ?_);refine qd H2 (b:=x) .here rfl (by show 6+8≤19;omega) rfl λh3 H3=>?_
 have H3:HS g h3 (qk x (gB c mv ov v q bad err fin left nx s.pc p.regs)::qA 51 5 l.length c (l.flatMap jX)::qA 3 1 mt.length mv (mt.map (.int .i64))::SlaC q s.out::
  qA 303 11 s.opn.length ov (s.opn.reverse.flatMap xf)::qk b0 (xf p)::R):=H3
 clear H2;have H4:=H3;unfold gB xf at H4;refine qG (qQ (qX ‹_› .here rfl ?_));refine qQ (qX ‹_› e_5 rfl ?_);refine qW (qxE omQ (H3.sel (P:=SlaC q s.out) e_3) hl ht) ?_;intro _ h5 H5;clear H4 H3;exact qq (IntC.I (s:=Qy s p) (c:=c) (mv:=mv) (ov:=ov) (o:=q) (H5.sub (.cons e_1 (.cons e_1 (.cons e_1 (.cons .here (.cons .here (.drop .refl))))))))
theorem Mq {n:Nat} (hn:5≤n) {op at_ nx0:Int} {V:VM} (O:OkV V) (hlo:s.opn.length≤100) (H:HS g h (IntC x v l bad mt s err fin left nx::ViewC v V::R)) :
  t_w n 233 [.ptr x 0,.int .i64 op,.int .i64 at_] h λr h'=>r=.int .i64 (zW op at_ nx0 s V).e∧HS g h' (IntC x v l bad mt (zW op at_ nx0 s V).s err fin left nx::ViewC v (zW op at_ nx0 s V).v::R):=by
 refine t_e3 (S:=S233) rfl omQ λk hk=>?_;unfold S233;try simp only[iZ]
 obtain⟨c,mv,ov,q,H⟩:=IntC.E H;unfold gB at H;refine qG (qQ (qX ‹_› .here rfl ?_));refine qW (qYR omQ (H.sel (P:=ViewC v V) e_5) O) ?_;rintro _ h2 ⟨rfl,H2⟩
 have H2:HS g h2 (ViewC v (yp V).2::qk x (gB c mv ov v q bad err fin left nx s.pc s.regs)::qA 51 5 l.length c (l.flatMap jX)::qA 3 1 mt.length mv (mt.map (.int .i64))::SlaC q s.out::
  qA 303 11 s.opn.length ov (s.opn.reverse.flatMap xf)::R):=H2
 clear H;unfold zW;by_cases h0:(yp V).1=0
 ·rw[iJ h0];refine q8 h0 (qJ ?_);have H3:=H2;unfold gB at H3;refine qV ?_
  try dsimp only
  refine qG (qQ ?_);refine qX H2 (b:=x) e_1 rfl ?_;refine qG (qQ ?_);refine qF H2 (b:=x) (off:=6) e_1 rfl omQ (l:=qvn s.regs) rfl ?_;refine qG (qQ ?_);refine qX H2 (b:=x) e_1 rfl ?_;refine qW (qk5 omQ (H2.sel (P:=SlaC q s.out) e_4)) ?_;rintro _ _ ⟨rfl,rfl⟩;refine qH (l:=xf ⟨op,at_,s.regs,s.out.length⟩) rfl ?_;refine qe (n:=1) (l:=xf ⟨op,at_,s.regs,s.out.length⟩) (sz:=11) H2 rfl rfl rfl rfl λv4 h4 H4=>?_;refine jR (H4.sel e_6) (H4.sl .here) omQ omQ rfl λv5 h5 H5=>?_;have o5:=H5.one .here;refine qG (qQ ?_);refine qg H5 (b:=x) e_3 o5 (by show 18<19;omega) λh6 H6=>?_;refine zA H2 (b:=x) e_1 rfl H2 e_1 rfl rfl omQ (HS.lt H2 e_1) ?_;refine qU H2 (b:=x) e_1 rfl H2 e_1 rfl (HS.lt H2 e_1) ?_;refine qq ⟨rfl,IntC.I (s:={ s with opn:=⟨op,at_,s.regs,s.out.length⟩::s.opn }) (c:=c) (mv:=mv) (ov:=v5) (o:=q) ?_⟩
  show HS g h6 (qk x (gB c mv v5 v q bad err fin left nx s.pc s.regs)::qA 51 5 l.length c (l.flatMap jX)::qA 3 1 mt.length mv (mt.map (.int .i64))::SlaC q s.out::
   qA 303 11 (s.opn.length+1) v5 ((⟨op,at_,s.regs,s.out.length⟩::s.opn).reverse.flatMap xf)::ViewC v (yp V).2::R)
  rw[Vo];exact H6.sub (.cons .here (.cons e_3 (.cons e_3 (.cons e_3 (.cons .here (.drop .refl))))))
 ·rw[iQ h0];refine qu h0 (qZ ?_);exact qq ⟨rfl,IntC.I (s:=s) (c:=c) (mv:=mv) (ov:=ov) (o:=q) (H2.sub (.cons e_1 (.cons e_1 (.cons e_1 (.cons e_1 (.cons e_1 .refl))))))⟩
end
end
section
variable {g h:AH} {L R:List SP}
section
variable {x v:Nat} {l:List qO} {bad:Int} {mt:List Int} {s:IM} {err fin left nx:Int}
def MtAt (mt:List Int) (p:Int):Prop:=∃k:Nat,p=k∧∃z:Int,mt[k]? =some z∧ -1≤z∧z≤1000
theorem MtAt.num {mt:List Int} {p z:Int} {k:Nat} (h1:p=k) (h2:mt[k]? =some z):qM mt p=z:=by unfold qM;rw[h1,Int.toNat_natCast,h2];rfl
theorem MtAt.idx {mt:List Int} {k:Nat} {z:Int} (h:mt[k]? =some z):(mt.map (AV.int .i64))[k]? =some (.int .i64 z)∧k<mt.length:=by refine⟨by rw[List.getElem?_map,h];rfl,(List.getElem?_eq_some_iff.1 h).1⟩
theorem qVe {n:Nat} (hn:8≤n) {V:VM} (G:jC V) (hlo:s.opn.length≤100) (hout:s.out.length≤16) (told:ToldD s.out.length s.opn) (hm:∀p∈s.opn,p.op=17→MtAt mt p.pc) (hpc:0≤s.pc∧s.pc≤100)
  (H:HS g h (IntC x v l bad mt s err 0 left (s.pc+1)::ViewC v V::R)) :
  t_w n 238 [.ptr x 0] h λr h'=>r=.int .i64 (ye mt s.opn s V).e∧
   HS g h' (IntC x v l bad mt (ye mt s.opn s V).s err (if(ye mt s.opn s V).blk=true then 3 else 0) left (ye mt s.opn s V).nx::ViewC v (ye mt s.opn s V).v::R):=by
 refine t_e1 (S:=S238) rfl omQ λk hk=>?_;unfold S238;try simp only[iZ]
 generalize hD:ye mt s.opn s V=D;have hs:s={ s with opn:=s.opn }:=rfl;refine jw (λm st h'=>∃(o:List PtM) (V':VM),st=(.ptr x 0,())∧m=o.length∧o.length≤100∧HS g h' (IntC x v l bad mt { s with opn:=o } err 0 left (s.pc+1)::ViewC v V'::R)∧jC V'∧ToldD s.out.length o∧(∀p∈o,p.op=17→MtAt mt p.pc)∧ye mt o s V'=D)
  ?_ (m:=s.opn.length) (by show _<1000000000;omega) ⟨s.opn,V,rfl,rfl,hlo,H,G,told,hm,hD⟩
 clear H G told hm hD hlo hs;rintro m ih st h2 hih ⟨o,V,rfl,rfl,hlo,H,G,told,hm,hD⟩;dsimp only;obtain⟨c,mv,ov,q,H1⟩:=IntC.E H
 have H1:HS g h2 (qk x (gB c mv ov v q bad err 0 left (s.pc+1) s.pc s.regs)::qA 51 5 l.length c (l.flatMap jX)::qA 3 1 mt.length mv (mt.map (.int .i64))::SlaC q s.out::
  qA 303 11 o.length ov (o.reverse.flatMap xf)::ViewC v V::R):=H1
 refine qG (qQ (qX H1 (b:=x) .here rfl ?_));refine qi H1 e_4 ?_;cases o with
 |nil=>refine xW osQ (qJ ?_);refine qG (qQ (qX H1 (b:=x) .here rfl ?_));refine qG (qQ ?_);refine qg H1 (b:=x) .here ⟨rfl,rfl⟩ (by show 16<19;omega) λh3 H3=>?_;refine qG (qQ ?_);refine qg H3 (b:=x) .here ⟨rfl,rfl⟩ (by show 5<19;omega) λh4 H4=>?_;subst hD;exact qx (qq ⟨rfl,IntC.I (s:={ s with opn:=[] }) (c:=c) (mv:=mv) (ov:=ov) (o:=q) H4⟩)
 |cons p o=>
  refine yj (by rw[List.length_cons];omega) (qZ ?_);refine qW (J9 (s:={ s with opn:=p::o }) (p:=p) (o:=o) omQ rfl (by simp at hlo;omega) H) ?_;rintro _ h3 ⟨rfl,H3⟩;clear H H1;refine qI H3 rfl λb h4 H4=>qd H4 .here rfl (by show 0+11≤11;omega) rfl λh5 H5=>?_;have H5:HS g h5 (qk b (xf p)::IntC x v l bad mt { s with opn:=o } err 0 left (s.pc+1)::ViewC v V::R):=H5;clear H3 H4;obtain⟨c,mv,ov,q,H6⟩:=IntC.E (H5.sel (P:=IntC x v l bad mt { s with opn:=o } err 0 left (s.pc+1)) e_1)
  have H6:HS g h5 (qk x (gB c mv ov v q bad err 0 left (s.pc+1) s.pc s.regs)::qA 51 5 l.length c (l.flatMap jX)::qA 3 1 mt.length mv (mt.map (.int .i64))::SlaC q s.out::
   qA 303 11 o.length ov (o.reverse.flatMap xf)::qk b (xf p)::ViewC v V::R):=H6
  refine qG (qQ (qX H6 (b:=x) .here rfl ?_));clear H6;refine qW (N9 omQ (H5.sel (P:=ViewC v V) e_2) G.ok) ?_;rintro _ h6 ⟨rfl,H6⟩;have GD:=G.dropG;clear H5;unfold ye at hD;by_cases h0:(xx V).1=0
  ·rw[iJ h0]at hD;refine q8 h0 (qJ ?_);refine qQ (qX H6 (b:=b) e_1 rfl ?_);by_cases h17:p.op=17
   ·rw[iJ h17]at hD;refine qz h17 (qZ ?_);refine qF H6 (b:=b) (off:=0) e_1 rfl omQ (l:=xf p) rfl ?_;have H7:=H6.sub (L':=IntC x v l bad mt { s with opn:=o } err 0 left (s.pc+1)::ViewC v (xx V).2::qk b (xf p)::R) (.cons e_2 (.cons .here (.cons .here .refl)));refine qW (Ou (s:={ s with opn:=o }) (p:=p) omQ told.1 hout H7) ?_;intro _ h8 H8;clear H6 H7;obtain⟨c,mv,ov,q,H9⟩:=IntC.E H8
    have H9:HS g h8 (qk x (gB c mv ov v q bad err 0 left (s.pc+1) s.pc p.regs)::qA 51 5 l.length c (l.flatMap jX)::qA 3 1 mt.length mv (mt.map (.int .i64))::SlaC q (s.out.take p.told)::
     qA 303 11 o.length ov (o.reverse.flatMap xf)::ViewC v (xx V).2::qk b (xf p)::R):=H9
    clear H8;obtain⟨kk,hk1,z,hk2,hk3,hk4⟩:=hm p (iK ..) h17;rw[MtAt.num hk1 hk2]at hD;refine qG (qQ (qX H9 (b:=x) .here rfl ?_));refine qQ (qX H9 (b:=b) e_6 rfl ?_);rw[hk1];refine jI (H9.sl e_2) (MtAt.idx hk2).1 ?_;refine qb omQ ?_;refine qG (qQ ?_);refine qg H9 (b:=x) .here ⟨rfl,rfl⟩ (by show 16<19;omega) λh10 H10=>?_;have H11:HS g h10 (IntC x v l bad mt { Qy s p with opn:=o } err 0 left (z+1)::ViewC v (xx V).2::qk b (xf p)::R):=IntC.I (s:={ Qy s p with opn:=o }) (c:=c) (mv:=mv) (ov:=ov) (o:=q) H10;clear H9 H10;refine qW (Mq (s:={ Qy s p with opn:=o }) (nx0:=z+1) omQ GD.1.ok (by simp at hlo;show o.length≤100;omega) H11) ?_;rintro _ h12 ⟨rfl,H12⟩;subst hD;have hb:(zW 18 z (z+1) { Qy s p with opn:=o } (xx V).2).blk=false∧(zW 18 z (z+1) { Qy s p with opn:=o } (xx V).2).nx=z+1:=by unfold zW;split<;>exact⟨rfl,rfl⟩
    refine qx (qq ⟨rfl,?_⟩);rw[hb.1,hb.2];exact H12.sub (.cons .here (.cons .here (.drop .refl)))
   ·rw[iQ h17]at hD;refine qK h17 (qJ ?_);exact hih o.length _ _ osQ ⟨o,(xx V).2,rfl,rfl,by simp at hlo;omega,H6.sub (.cons e_2 (.cons .here (.drop .refl))),GD.1,told.tail,λr hr=>hm r (iX _ hr),hD⟩
  ·rw[iQ h0]at hD;refine qu h0 (qZ ?_);subst hD;exact qx (qq ⟨rfl,H6.sub (.cons e_2 (.cons .here (.drop .refl)))⟩)
theorem qWR {n:Nat} (hn:9≤n) {V:VM} {i:qO} (G:jC V) (hlo:s.opn.length≤100) (hout:s.out.length≤16) (told:ToldD s.out.length s.opn) (hm:∀p∈s.opn,p.op=17→MtAt mt p.pc) (hpc:0≤s.pc∧s.pc≤100)
  (hne:i.1=15∨i.1=19∨i.1=18∨i.1=16→s.opn≠[]) (hmt:i.1=18∨i.1=16→MtAt mt s.pc) (H:HS g h (IntC x v l bad mt s err 0 left (s.pc+1)::ViewC v V::R)) :
  t_w n 197 [.ptr x 0,.agg (jX i)] h λr h'=>r=.int .i64 (gn mt s V i.1).e∧
   HS g h' (IntC x v l bad mt (gn mt s V i.1).s err (if(gn mt s V i.1).blk=true then 3 else 0) left (gn mt s V i.1).nx::ViewC v (gn mt s V i.1).v::R):=by
 refine t_e2 (S:=S197) rfl omQ λk hk=>?_;unfold S197;try simp only[iZ]
 refine qI H rfl λb h1 H1=>?_;clear H;have H1:HS g h1 (qk b (jX i)::IntC x v l bad mt s err 0 left (s.pc+1)::ViewC v V::R):=H1;refine qQ (qX H1 (b:=b) .here rfl ?_);refine qV ?_
 try dsimp only
 unfold gn;have HB:=H1.sub (L':=IntC x v l bad mt s err 0 left (s.pc+1)::ViewC v V::qk b (jX i)::R) (.cons e_1 (.cons e_1 (.cons .here .refl)));by_cases c1:i.1=14∨i.1=17
 ·rw[iJ c1]
  have key:wp (qm (.ptr b 0) 0 λv8=>jq h1 v8 λv9=>xg (.ptr x 0) λv10=>qm v10 15 λv11=>jq h1 v11 λv12=>
    jm (callT tab qj k) (.fn 233 [] []) [.ptr x 0,v9,v12] h1 λv13 h14=>zO [] h14 λh15=>some (v13,h15)) λr h'=>r=.int .i64 (zW i.1 s.pc (s.pc+1) s V).e∧
   HS g h' (IntC x v l bad mt (zW i.1 s.pc (s.pc+1) s V).s err (if(zW i.1 s.pc (s.pc+1) s V).blk=true then 3 else 0) left (zW i.1 s.pc (s.pc+1) s V).nx::ViewC v (zW i.1 s.pc (s.pc+1) s V).v::R):=by
   refine qQ (qX H1 (b:=b) .here rfl ?_);obtain⟨c,mv,ov,q,H2⟩:=IntC.E HB;refine qG (qQ (qX H2 (b:=x) .here rfl ?_));refine qW (Mq (nx0:=s.pc+1) omQ G.ok hlo HB) ?_;rintro _ h12 ⟨rfl,H12⟩;have hb:(zW i.1 s.pc (s.pc+1) s V).blk=false∧(zW i.1 s.pc (s.pc+1) s V).nx=s.pc+1:=by unfold zW;split<;>exact⟨rfl,rfl⟩
   refine qx (qq ⟨rfl,?_⟩);rw[hb.1,hb.2];exact H12.sub (.cons .here (.cons .here (.drop .refl)))
  by_cases c2:i.1=14
  ·refine qz c2 (qZ (qZ ?_));exact key
  ·refine qK c2 (qJ ?_);refine qz omQ (qZ ?_);exact key
 ·rw[iQ c1];refine qK omQ (qJ ?_);refine qK omQ (qJ ?_);refine qV ?_
  try dsimp only
  by_cases c3:i.1=15∨i.1=19
  ·rw[iJ c3]
   have key:wp (jm (callT tab qj k) (.fn 234 [] []) [.ptr x 0] h1 λ_ h21=>xg (.ptr x 0) λv22=>qm v22 1 λv23=>jq h21 v23 λv24=>
     jm (callT tab qj k) (.fn 235 [] []) [v24] h21 λv25 h26=>zO [] h26 λh27=>some (v25,h27)) λr h'=>r=.int .i64 (vF V).1∧
    HS g h' (IntC x v l bad mt { s with opn:=s.opn.tail } err (if false=true then 3 else 0) left (s.pc+1)::ViewC v (vF V).2::R):=by
    obtain⟨p,o,ho⟩:∃p o,s.opn=p::o:=List.exists_cons_of_ne_nil (hne omQ);refine qW (J9 (p:=p) (o:=o) omQ ho (by rw[ho]at hlo;simp at hlo;omega) HB) ?_;rintro _ h3 ⟨-,H3⟩;obtain⟨c,mv,ov,q,H4⟩:=IntC.E H3;refine qG (qQ (qX H4 (b:=x) .here rfl ?_));refine qW (Zt omQ (H3.sel (P:=ViewC v V) e_1) G.ok) ?_;rintro _ h5 ⟨rfl,H5⟩;refine qx (qq ⟨rfl,?_⟩);rw[ho];exact H5.sub (.cons e_1 (.cons .here (.drop .refl)))
   by_cases c4:i.1=15
   ·refine qz c4 (qZ (qZ ?_));exact key
   ·refine qK c4 (qJ ?_);refine qz omQ (qZ ?_);exact key
  ·rw[iQ c3];refine qK omQ (qJ ?_);refine qK omQ (qJ ?_);by_cases c5:i.1=18
   ·rw[iJ c5];refine qz c5 (qZ ?_);obtain⟨p,o,ho⟩:∃p o,s.opn=p::o:=List.exists_cons_of_ne_nil (hne omQ);refine qW (J9 (p:=p) (o:=o) omQ ho (by rw[ho]at hlo;simp at hlo;omega) HB) ?_;rintro _ h3 ⟨-,H3⟩;obtain⟨c,mv,ov,q,H4⟩:=IntC.E H3
    have H4:HS g h3 (qk x (gB c mv ov v q bad err 0 left (s.pc+1) s.pc s.regs)::qA 51 5 l.length c (l.flatMap jX)::qA 3 1 mt.length mv (mt.map (.int .i64))::SlaC q s.out::
     qA 303 11 o.length ov (o.reverse.flatMap xf)::ViewC v V::qk b (jX i)::R):=H4
    obtain⟨kk,hk1,z,hk2,hk3,hk4⟩:=hmt (.inl c5);rw[MtAt.num hk1 hk2,ho];refine qG (qQ (qX H4 (b:=x) .here rfl ?_));refine qG (qQ (qX H4 (b:=x) .here rfl ?_));rw[hk1];refine jI (H4.sl e_2) (MtAt.idx hk2).1 ?_;refine qb omQ ?_;refine qG (qQ ?_);rw[← hk1];refine qg H4 (b:=x) .here ⟨rfl,rfl⟩ (by show 16<19;omega) λh10 H10=>?_;refine qG (qQ (qX H10 (b:=x) .here rfl ?_));have H11:HS g h10 (IntC x v l bad mt { s with opn:=o } err 0 left (z+1)::ViewC v V::qk b (jX i)::R):=IntC.I (s:={ s with opn:=o }) (c:=c) (mv:=mv) (ov:=ov) (o:=q) H10;refine qW (Zt omQ (H11.sel (P:=ViewC v V) e_1) G.ok) ?_;rintro _ h5 ⟨rfl,H5⟩;exact qx (qq ⟨rfl,H5.sub (.cons e_1 (.cons .here (.drop .refl)))⟩)
   ·rw[iQ c5];refine qK c5 (qJ ?_);by_cases c6:i.1=16
    ·rw[iJ c6];refine qz c6 (qZ ?_);obtain⟨p,o,ho⟩:∃p o,s.opn=p::o:=List.exists_cons_of_ne_nil (hne omQ);refine qW (J9 (p:=p) (o:=o) omQ ho (by rw[ho]at hlo;simp at hlo;omega) HB) ?_;rintro _ h3 ⟨rfl,H3⟩;rw[ho]at told;refine qW (Ou (s:={ s with opn:=o }) (p:=p) omQ told.1 hout H3) ?_;intro _ h4 H4';obtain⟨c,mv,ov,q,H4⟩:=IntC.E H4'
     have H4:HS g h4 (qk x (gB c mv ov v q bad err 0 left (s.pc+1) s.pc p.regs)::qA 51 5 l.length c (l.flatMap jX)::qA 3 1 mt.length mv (mt.map (.int .i64))::SlaC q (s.out.take p.told)::
      qA 303 11 o.length ov (o.reverse.flatMap xf)::ViewC v V::qk b (jX i)::R):=H4
     obtain⟨kk,hk1,z,hk2,hk3,hk4⟩:=hmt (.inr c6);rw[MtAt.num hk1 hk2,ho];refine qG (qQ (qX H4 (b:=x) .here rfl ?_));refine qG (qQ (qX H4 (b:=x) .here rfl ?_));rw[hk1];refine jI (H4.sl e_2) (MtAt.idx hk2).1 ?_;refine qb omQ ?_;refine qG (qQ ?_);refine qg H4 (b:=x) .here ⟨rfl,rfl⟩ (by show 16<19;omega) λh10 H10=>?_;refine qG (qQ (qX H10 (b:=x) .here rfl ?_));have H11:HS g h10 (IntC x v l bad mt { Qy s p with opn:=o } err 0 left (z+1)::ViewC v V::qk b (jX i)::R):=IntC.I (s:={ Qy s p with opn:=o }) (c:=c) (mv:=mv) (ov:=ov) (o:=q) H10;refine qW (N9 omQ (H11.sel (P:=ViewC v V) e_1) G.ok) ?_;rintro _ h5 ⟨rfl,H5⟩;exact qx (qq ⟨rfl,H5.sub (.cons e_1 (.cons .here (.drop .refl)))⟩)
    ·rw[iQ c6];refine qK c6 (qJ ?_);refine qW (qVe omQ G hlo hout told hm hpc HB) ?_;rintro _ h3 ⟨rfl,H3⟩;exact qx (qq ⟨rfl,H3.sub (.cons .here (.cons .here (.drop .refl)))⟩)
end
end
section
variable {g h:AH} {L R:List SP}
section
variable {x v:Nat} {l:List qO} {bad:Int} {mt:List Int} {s:IM} {err fin left nx:Int}
theorem qJf {c mv ov:AV} {q a:Nat} {z:Int} {ai:Int} (hr:s.regs.length=8) (ha:a<8) (hai:ai=a)
  (H:HS g h (qk x ((gB c mv ov v q bad err fin left nx s.pc s.regs).set (6+a*1) (.int .u64 z))::qA 51 5 l.length c (l.flatMap jX)::qA 3 1 mt.length mv (mt.map (.int .i64))::SlaC q s.out::
  qA 303 11 s.opn.length ov (s.opn.reverse.flatMap xf)::R)):HS g h (IntC x v l bad mt (setR s ai z) err fin left nx::R):=by
 rw[qvE hr ha]at H;have e:s.regs.set a z=(setR s ai z).regs:=by unfold setR;rw[hai,Int.toNat_natCast]
 rw[e]at H;exact IntC.I (s:=setR s ai z) H
theorem qK1 {n:Nat} (hn:12≤n) {V:VM} {i:qO} {a:Nat} (G:jC V) (ro:JY s.regs) (hop:i.1=8∨i.1=9∨i.1=10∨i.1=11) (ha:a<8) (hai:i.2.1=a) (hc:0≤i.2.2.2.1∧i.2.2.2.1≤100)
  (H:HS g h (IntC x v l bad mt s err fin left nx::ViewC v V::R)) :
  t_w n 196 [.ptr x 0,.agg (jX i),.ptr x (6+a*1),.int .u64 (qM s.regs i.2.2.1)] h λr h'=>r=.int .i64 (jM s V i).1∧
   HS g h' (IntC x v l bad mt (jM s V i).2.1 err fin left nx::ViewC v (jM s V i).2.2::R):=by
 refine t_e4 (S:=S196) rfl omQ λk hk=>?_;unfold S196;try simp only[iZ]
 refine qI H rfl λb h1 H1=>?_;clear H;have H1:HS g h1 (qk b (jX i)::IntC x v l bad mt s err fin left nx::ViewC v V::R):=H1;have HB:=H1.sub (L':=IntC x v l bad mt s err fin left nx::ViewC v V::qk b (jX i)::R) (.cons e_1 (.cons e_1 (.cons .here .refl)));obtain⟨c,mv,ov,q,H2⟩:=IntC.E HB;refine qQ (qX H1 (b:=b) .here rfl ?_);have hra:=ro.at (a:Int);have hrb:=ro.at i.2.2.1;unfold jM;rw[hai];by_cases c8:i.1=8
 ·rw[iJ c8];refine qz c8 (qZ ?_);refine qQ (qX H1 (b:=b) .here rfl ?_);refine qW (V5 omQ hrb hc) ?_;rintro _ _ ⟨rfl,rfl⟩;refine qy rfl (qy rfl ?_);by_cases h0:(yE (qM s.regs i.2.2.1) i.2.2.2.1).2=0
  ·rw[iJ h0];refine q8 h0 (qJ ?_);refine qG (qQ (qX H2 (b:=x) .here rfl ?_));refine qW (Qn omQ (HB.sel (P:=ViewC v V) e_1) G.ok) ?_;rintro _ h3 ⟨rfl,H3⟩;refine qy rfl (qy rfl ?_);refine qV ?_
   try dsimp only
   by_cases h4:(qf V (yE (qM s.regs i.2.2.1) i.2.2.2.1).1).1.2=0
   ·rw[iJ h4];refine qz h4 (qZ ?_);obtain⟨c,mv,ov,q,H5⟩:=IntC.E (H3.sel (P:=IntC x v l bad mt s err fin left nx) e_1);refine qG (qg H5 (b:=x) .here ⟨rfl,rfl⟩ (by show 6+a*1<19;omega) λh6 H6=>?_);refine qx (qq ⟨by rw[h4],?_⟩);exact(qJf ro.len ha rfl H6).sub (.cons .here (.cons .here (.drop .refl)))
   ·rw[iQ h4];refine qK h4 (qJ ?_);exact qx (qq ⟨rfl,H3.sub (.cons e_1 (.cons .here (.drop .refl)))⟩)
  ·rw[iQ h0];refine qu h0 (qZ ?_);refine qq ⟨?_,HB.sub (.cons .here (.cons .here (.drop .refl)))⟩;unfold yE at h0 ⊢
   split
   ·rfl
   ·rename_i hh;rw[iQ hh]at h0;exact absurd rfl h0
 ·rw[iQ c8];refine qK c8 (qJ ?_);by_cases c9:i.1=9
  ·rw[iJ c9];refine qz c9 (qZ ?_);refine qG (qX H2 (b:=x) .here (Yj ha) ?_);refine qQ (qX H1 (b:=b) .here rfl ?_);refine qW (V5 omQ hra hc) ?_;rintro _ _ ⟨rfl,rfl⟩;refine qy rfl (qy rfl ?_);by_cases h0:(yE (qM s.regs (a:Int)) i.2.2.2.1).2=0
   ·rw[iJ h0];refine q8 h0 (qJ ?_);refine qG (qQ (qX H2 (b:=x) .here rfl ?_));refine qW (qK8 omQ (HB.sel (P:=ViewC v V) e_1) G.ok) ?_;rintro _ h3 ⟨rfl,H3⟩;exact qq ⟨rfl,H3.sub (.cons e_1 (.cons .here (.drop .refl)))⟩
   ·rw[iQ h0];refine qu h0 (qZ ?_);refine qq ⟨?_,HB.sub (.cons .here (.cons .here (.drop .refl)))⟩;unfold yE at h0 ⊢
    split
    ·rfl
    ·rename_i hh;rw[iQ hh]at h0;exact absurd rfl h0
  ·rw[iQ c9];refine qK c9 (qJ ?_);by_cases c10:i.1=10
   ·rw[iJ c10];refine qz c10 (qZ ?_);by_cases h0:2147483648≤qM s.regs i.2.2.1
    ·rw[iJ h0];refine zv omQ (qZ ?_);exact qq ⟨rfl,HB.sub (.cons .here (.cons .here (.drop .refl)))⟩
    ·rw[iQ h0];refine zK omQ (qJ ?_);refine qG (qQ (qX H2 (b:=x) .here rfl ?_));refine xY omQ ?_;refine qW (qXe omQ (HB.sel (P:=ViewC v V) e_1) G.ok G.wd) ?_;rintro _ h3 ⟨rfl,H3⟩;refine qy rfl (qy rfl ?_);refine qV ?_
     try dsimp only
     by_cases h4:(zd V (qM s.regs i.2.2.1)).1.2=0
     ·rw[iJ h4];have hb:=qZ4 (x:=qM s.regs i.2.2.1) G.wd h4;refine qz h4 (qZ ?_);obtain⟨c,mv,ov,q,H5⟩:=IntC.E (H3.sel (P:=IntC x v l bad mt s err fin left nx) e_1);refine kC omQ (qG ?_);refine qg H5 (b:=x) .here ⟨rfl,rfl⟩ (by show 6+a*1<19;omega) λh6 H6=>?_;refine qx (qq ⟨by rw[h4],?_⟩);exact(qJf ro.len ha rfl H6).sub (.cons .here (.cons .here (.drop .refl)))
     ·rw[iQ h4];refine qK h4 (qJ ?_);exact qx (qq ⟨rfl,H3.sub (.cons e_1 (.cons .here (.drop .refl)))⟩)
   ·rw[iQ c10];refine qK c10 (qJ ?_);refine qG (qX H2 (b:=x) .here (Yj ha) ?_);by_cases h0:2147483648≤qM s.regs (a:Int)
    ·rw[iJ h0];refine zv omQ (qZ ?_);exact qq ⟨rfl,HB.sub (.cons .here (.cons .here (.drop .refl)))⟩
    ·rw[iQ h0];refine zK omQ (qJ ?_);refine qG (qQ (qX H2 (b:=x) .here rfl ?_));refine qG (qX H2 (b:=x) .here (Yj ha) ?_);refine xY omQ ?_;refine qW (qGn omQ (HB.sel (P:=ViewC v V) e_1) G.ok) ?_;rintro _ h3 ⟨rfl,H3⟩;exact qq ⟨rfl,H3.sub (.cons e_1 (.cons .here (.drop .refl)))⟩
structure DoP (l:List qO) (mt:List Int) (s:IM) (V:VM) (i:qO):Prop where
  good:jC V
  regs:JY s.regs
  out:s.out.length≤16
  lo:s.opn.length≤100
  told:ToldD s.out.length s.opn
  ways:∀p∈s.opn,p.op=17→MtAt mt p.pc
  pc:0≤s.pc∧s.pc≤100
  op:1≤i.1∧i.1<23
  a:0≤i.2.1∧i.2.1≤7
  b:0≤i.2.2.1∧i.2.2.1≤7
  c:0≤i.2.2.2.1∧i.2.2.2.1≤100
  c7:3≤i.1∧i.1≤7→i.2.2.2.1≤7
  ne:i.1=15∨i.1=19∨i.1=18∨i.1=16→s.opn≠[]
  mt:i.1=18∨i.1=16→MtAt mt s.pc
theorem qwI {n:Nat} (hn:13≤n) {V:VM} {i:qO} (P:DoP l mt s V i) (H:HS g h (IntC x v l bad mt s err 0 left (s.pc+1)::ViewC v V::R)) :
  t_w n 165 [.ptr x 0,.agg (jX i)] h λr h'=>r=.int .i64 (doM mt s V i).e∧
   HS g h' (IntC x v l bad mt (doM mt s V i).s err (if(doM mt s V i).blk=true then 3 else 0) left (doM mt s V i).nx::ViewC v (doM mt s V i).v::R):=by
 refine t_e2 (S:=S165) rfl omQ λk hk=>?_;unfold S165;try simp only[iZ]
 refine qI H rfl λb h1 H1=>?_;clear H;have H1:HS g h1 (qk b (jX i)::IntC x v l bad mt s err 0 left (s.pc+1)::ViewC v V::R):=H1;have HB:=H1.sub (L':=IntC x v l bad mt s err 0 left (s.pc+1)::ViewC v V::qk b (jX i)::R) (.cons e_1 (.cons e_1 (.cons .here .refl)));obtain⟨c,mv,ov,q,H2⟩:=IntC.E HB;obtain⟨a,ha1,ha2,ha3⟩:=qY6 P.a.1;obtain⟨bb,hb1,hb2,hb3⟩:=qY6 P.b.1;obtain⟨cc,hc1,hc2,hc3⟩:=qY6 P.c.1;have ha3:=ha3 (by have:=P.a.2;omega);have hb3:=hb3 (by have:=P.b.2;omega);have ro:=P.regs;have hop:=P.op;have hc7:=P.c7;refine qQ (qX H1 (b:=b) .here rfl (Q7 od ?_));rw[ha1];refine qG (qQ (NS ha2 ?_));refine qQ (qX H1 (b:=b) .here rfl (Q7 od ?_));rw[hb1];refine qG (qQ (NS hb2 ?_));refine qX H2 (b:=x) .here (Yj hb2) ?_;refine qQ (qX H1 (b:=b) .here rfl (Q7 od ?_));rw[hc1];refine qG (qQ (NS hc2 ?_));refine qX H2 (b:=x) .here (Yj hc2) ?_;refine qQ (qX H1 (b:=b) .here rfl ?_);refine qV ?_
 try dsimp only
 have fin:∀(z:Int) (D:SM) (h0:AH),D=⟨0,s.pc+1,false,setR s i.2.1 z,V⟩→HS g h0 (IntC x v l bad mt s err 0 left (s.pc+1)::ViewC v V::qk b (jX i)::R)→
   wp (xg (.ptr x (6+a*1)) λv32=>jD h0 v32 (.int .u64 z) 1 λh33=>zO [] h33 λh28=>some (.int .i64 ((0:Nat):Int),h28)) λr h'=>r=.int .i64 D.e∧
    HS g h' (IntC x v l bad mt D.s err (if D.blk=true then 3 else 0) left D.nx::ViewC v D.v::R):=by
  rintro z D h0 rfl H0;obtain⟨c,mv,ov,q,H5⟩:=IntC.E H0;refine qG (qg H5 (b:=x) .here ⟨rfl,rfl⟩ (by show 6+a*1<19;omega) λh6 H6=>?_);refine qx (qq ⟨rfl,?_⟩);exact(qJf ro.len ha2 ha3 H6).sub (.cons .here (.cons .here (.drop .refl)))
 by_cases c1:i.1=1
 ·refine qz c1 (qZ ?_);refine qQ (qX H1 (b:=b) .here rfl ?_);exact fin _ _ _ (by unfold doM;rw[iJ c1]) HB
 refine qK c1 (qJ ?_);by_cases c2:i.1=2
 ·refine qz c2 (qZ ?_);exact fin _ _ _ (by unfold doM;rw[iQ c1,iJ c2,hb3]) HB
 refine qK c2 (qJ ?_);by_cases c3:i.1=3
 ·refine qz c3 (qZ (Ns ?_));have hc3:=hc3 (by have:=hc7 omQ;omega);exact fin _ _ _ (by unfold doM;rw[iQ c1,iQ c2,iJ c3,hb3,hc3]) HB
 refine qK c3 (qJ ?_);by_cases c4:i.1=4
 ·refine qz c4 (qZ (qQu ?_));have hc3:=hc3 (by have:=hc7 omQ;omega);exact fin _ _ _ (by unfold doM;rw[iQ c1,iQ c2,iQ c3,iJ c4,hb3,hc3]) HB
 refine qK c4 (qJ ?_);by_cases c5:i.1=5
 ·refine qz c5 (qZ (qY0 ?_));have hc3:=hc3 (by have:=hc7 omQ;omega);exact fin _ _ _ (by unfold doM;rw[iQ c1,iQ c2,iQ c3,iQ c4,iJ c5,hb3,hc3]) HB
 refine qK c5 (qJ ?_);by_cases c6:i.1=6
 ·refine qz c6 (qZ (kF ?_));have hc3:=hc3 (by have:=hc7 omQ;omega);refine qW (MF omQ) ?_;rintro _ _ ⟨rfl,rfl⟩;exact fin _ _ _ (by unfold doM;rw[iQ c1,iQ c2,iQ c3,iQ c4,iQ c5,iJ c6,hb3,hc3]) HB
 refine qK c6 (qJ ?_);by_cases c7:i.1=7
 ·refine qz c7 (qZ (Jt ?_));have hc3:=hc3 (by have:=hc7 omQ;omega);refine qW (MF omQ) ?_;rintro _ _ ⟨rfl,rfl⟩;exact fin _ _ _ (by unfold doM;rw[iQ c1,iQ c2,iQ c3,iQ c4,iQ c5,iQ c6,iJ c7,hb3,hc3]) HB
 refine qK c7 (qJ ?_);by_cases c12:i.1=12
 ·refine qz c12 (qZ ?_);have e:doM mt s V i=⟨0,i.2.2.2.1,false,s,V⟩:=by unfold doM;rw[iQ c1,iQ c2,iQ c3,iQ c4,iQ c5,iQ c6,iQ c7,iJ c12]
  rw[e];refine qQ (qX H1 (b:=b) .here rfl ?_);refine qG (qQ ?_);refine qg H2 (b:=x) .here ⟨rfl,rfl⟩ (by show 16<19;omega) λh6 H6=>?_;exact qx (qq ⟨rfl,(IntC.I (c:=c) (mv:=mv) (ov:=ov) (o:=q) H6).sub (.cons .here (.cons .here (.drop .refl)))⟩)
 refine qK c12 (qJ ?_);by_cases c13:i.1=13
 ·refine qz c13 (qZ ?_);have e:doM mt s V i=⟨0,if qM s.regs i.2.1=0 then i.2.2.2.1 else s.pc+1,false,s,V⟩:=by unfold doM;rw[iQ c1,iQ c2,iQ c3,iQ c4,iQ c5,iQ c6,iQ c7,iQ c12,iJ c13]
  rw[e,ha3];refine qG (qX H2 (b:=x) .here (Yj ha2) ?_);by_cases hz:qM s.regs (a:Int)=0
  ·rw[iJ hz];refine qz hz (qZ ?_);refine qQ (qX H1 (b:=b) .here rfl ?_);refine qG (qQ ?_);refine qg H2 (b:=x) .here ⟨rfl,rfl⟩ (by show 16<19;omega) λh6 H6=>?_;exact qx (qq ⟨rfl,(IntC.I (c:=c) (mv:=mv) (ov:=ov) (o:=q) H6).sub (.cons .here (.cons .here (.drop .refl)))⟩)
  ·rw[iQ hz];refine qK hz (qJ ?_);exact qx (qq ⟨rfl,HB.sub (.cons .here (.cons .here (.drop .refl)))⟩)
 refine qK c13 (qJ ?_);by_cases c21:i.1=21
 ·refine qz c21 (qZ ?_);refine qG (qQ (qX H2 (b:=x) .here rfl ?_));refine qG (qX H2 (b:=x) .here (Yj ha2) ?_);refine qW (qzP omQ (H2.sel (P:=SlaC q s.out) e_3) P.out) ?_;rintro _ h3 ⟨rfl,H3⟩;by_cases h16:16≤s.out.length
  ·have e:doM mt s V i=⟨5,s.pc+1,false,s,V⟩:=by unfold doM;rw[iQ c1,iQ c2,iQ c3,iQ c4,iQ c5,iQ c6,iQ c7,iQ c12,iQ c13,iJ c21,iJ h16]
   rw[e];rw[iQ omQ]at H3;rw[iV omQ];refine jk (qZ ?_);exact qq ⟨rfl,(IntC.I (c:=c) (mv:=mv) (ov:=ov) (o:=q) (R:=ViewC v V::qk b (jX i)::R) (H3.sub (.cons e_1 (.cons e_1 (.cons e_1 (.cons .here (.cons .here .refl))))))).sub (.cons .here (.cons .here (.drop .refl)))⟩
  ·have e:doM mt s V i=⟨0,s.pc+1,false,{ s with out:=s.out++[(1,qM s.regs i.2.1)] },V⟩:=by unfold doM;rw[iQ c1,iQ c2,iQ c3,iQ c4,iQ c5,iQ c6,iQ c7,iQ c12,iQ c13,iJ c21,iQ h16]
   rw[e,ha3];rw[iJ omQ]at H3;rw[iG omQ];refine jW (qJ ?_);exact qx (qq ⟨rfl,(IntC.I (s:={ s with out:=s.out++[(1,qM s.regs (a:Int))] }) (c:=c) (mv:=mv) (ov:=ov) (o:=q) (R:=ViewC v V::qk b (jX i)::R) (H3.sub (.cons e_1 (.cons e_1 (.cons e_1 (.cons .here (.cons .here .refl))))))).sub (.cons .here (.cons .here (.drop .refl)))⟩)
 refine qK c21 (qJ ?_);by_cases c22:i.1=22
 ·refine qz c22 (qZ ?_);have e:doM mt s V i=⟨13,s.pc+1,false,s,V⟩:=by unfold doM;rw[iQ c1,iQ c2,iQ c3,iQ c4,iQ c5,iQ c6,iQ c7,iQ c12,iQ c13,iQ c21,iJ c22]
  rw[e];exact qq ⟨rfl,HB.sub (.cons .here (.cons .here (.drop .refl)))⟩
 refine qK c22 (qJ ?_);refine qK omQ (qJ ?_);refine qV ?_
 try dsimp only
 by_cases ct:i.1=8∨i.1=9∨i.1=10∨i.1=11
 ·have e:doM mt s V i=⟨(jM s V i).1,s.pc+1,false,(jM s V i).2.1,(jM s V i).2.2⟩:=by unfold doM;rw[iQ c1,iQ c2,iQ c3,iQ c4,iQ c5,iQ c6,iQ c7,iQ c12,iQ c13,iQ c21,iQ c22,iJ ct]
  rw[e];have key:wp (zY h1 (.ptr b 0) 5 λv94=>jm (callT tab qj k) (.fn 196 [] []) [.ptr x 0,v94,.ptr x (6+a*1),.int .u64 (qM s.regs (bb:Int))] h1 λv95 h96=>zO [] h96 λh97=>some (v95,h97)) λr h'=>
    r=.int .i64 (jM s V i).1∧HS g h' (IntC x v l bad mt (jM s V i).2.1 err (if false=true then 3 else 0) left (s.pc+1)::ViewC v (jM s V i).2.2::R):=by
   refine qF H1 (b:=b) (off:=0) .here rfl omQ (l:=jX i) rfl ?_;rw[← hb3];refine qW (qK1 omQ P.good ro ct ha2 ha3 P.c HB) ?_;rintro _ h3 ⟨rfl,H3⟩;exact qx (qq ⟨rfl,H3.sub (.cons .here (.cons .here (.drop .refl)))⟩)
  by_cases t8:i.1=8
  ·refine qz t8 (qZ (qZ ?_));exact key
  refine qK t8 (qJ ?_);by_cases t9:i.1=9
  ·refine qz t9 (qZ (qZ ?_));exact key
  refine qK t9 (qJ ?_);by_cases t10:i.1=10
  ·refine qz t10 (qZ (qZ ?_));exact key
  refine qK t10 (qJ ?_);refine qz omQ (qZ ?_);exact key
 ·have e:doM mt s V i=gn mt s V i.1:=by unfold doM;rw[iQ c1,iQ c2,iQ c3,iQ c4,iQ c5,iQ c6,iQ c7,iQ c12,iQ c13,iQ c21,iQ c22,iQ ct]
  rw[e];refine qK omQ (qJ ?_);refine qK omQ (qJ ?_);refine qK omQ (qJ ?_);refine qK omQ (qJ ?_);refine qF H1 (b:=b) (off:=0) .here rfl omQ (l:=jX i) rfl ?_;refine qW (qWR omQ P.good P.lo P.out P.told P.ways P.pc P.ne P.mt HB) ?_;rintro _ h3 ⟨rfl,H3⟩;exact qx (qq ⟨rfl,H3.sub (.cons .here (.cons .here (.drop .refl)))⟩)
end
end
section
variable {g h:AH} {L R:List SP}
theorem wO {a:List Int} {k:Nat} (h:k<a.length):a[k]? =some (qM a (k:Int)):=by unfold qM;rw[Int.toNat_natCast,iW h];rfl
theorem qZi {x:qO} (h:ve x=true) (hx:x.1≠23):(1≤x.1∧x.1<23)∧(0≤x.2.1∧x.2.1≤7)∧(0≤x.2.2.1∧x.2.2.1≤7)∧(0≤x.2.2.2.1∧x.2.2.2.1≤40)∧(3≤x.1∧x.1≤7→x.2.2.2.1≤7):=by
 unfold ve vU at h;simp only[Bool.and_eq_true,decide_eq_true_eq]at h;obtain⟨⟨⟨⟨h1,h2⟩,h3⟩,h4⟩,_⟩:=h;unfold jA at h2 h3 h4;by_cases c1:x.1=1∨x.1=11∨x.1=21
 ·rw[iJ c1]at h2 h3 h4;dsimp only at h2 h3 h4;omega
 rw[iQ c1]at h2 h3 h4;by_cases c2:x.1=2∨x.1=10
 ·rw[iJ c2]at h2 h3 h4;dsimp only at h2 h3 h4;omega
 rw[iQ c2]at h2 h3 h4;by_cases c3:x.1=3∨x.1=4∨x.1=5∨x.1=6∨x.1=7
 ·rw[iJ c3]at h2 h3 h4;dsimp only at h2 h3 h4;omega
 rw[iQ c3]at h2 h3 h4;by_cases c4:x.1=8∨x.1=9
 ·rw[iJ c4]at h2 h3 h4;dsimp only at h2 h3 h4;omega
 rw[iQ c4]at h2 h3 h4;by_cases c5:x.1=12
 ·rw[iJ c5]at h2 h3 h4;dsimp only at h2 h3 h4;omega
 rw[iQ c5]at h2 h3 h4;by_cases c6:x.1=13
 ·rw[iJ c6]at h2 h3 h4;dsimp only at h2 h3 h4;omega
 rw[iQ c6,iQ hx]at h2 h3 h4;dsimp only at h2 h3 h4;omega
theorem OX {l:List qO} (F:Fit l) {k:Nat} (hk:k<l.length) (ho:(qL l k).1=14∨(qL l k).1=17∨(qL l k).1=18∨(qL l k).1=16):MtAt (qS l) (k:Int):=by
 have hl:=F.le;refine⟨k,rfl,_,wO (by rw[qK5];exact hk),?_⟩;by_cases h:(qL l k).1=16
 ·obtain⟨e,e1,e2,_⟩:=kU F hk h;rw[e1];omega
 ·obtain⟨e,e1,_,e2,_⟩:=gj F hk omQ;rw[e1];omega
theorem qg4 {l:List qO} {s:IM} {V:VM} (F:Fit l) (G:GI l s V) {i:Nat} (hi:s.pc=i) (hlt:i<l.length) (hx:(qL l i).1≠23):DoP l (qS l) s V (qL l i):=by
 have hw:=x7 (F.ok i hlt);have hwo:=xK (F.ok i hlt);have hb:=qZi hw.1 hx;have hol:=KE G;have h5:=UV F i omQ;have hl:=F.le;rw[hi,Int.toNat_natCast]at hol;refine⟨G.good,G.gb.regs,G.gb.out,by omega,G.told,?_,by omega,hb.1,hb.2.1,hb.2.2.1,by omega,hb.2.2.2.2,?_,?_⟩
 ·intro p hp hop;obtain⟨q,hq,hql⟩:=(G.pts p hp).pc;have:=(G.pts p hp).op.2;rw[hop,hq]at this;rw[hq];exact OX F hql omQ
 ·intro ho h0;rw[h0]at hol;have he:0<jb (qL l i).1∨(qL l i).1=16:=by
   rcases ho with h |h |h |h
   ·exact .inl (by rw[h];decide)
   ·exact .inl (by rw[h];decide)
   ·exact .inl (by rw[h];decide)
   ·exact .inr h
  exact hwo.2.1 he (iA hol.symm)
 ·intro ho;rw[hi];exact OX F hlt omQ
def Quiet (l:List qO):Prop:=∀x∈l,x.1≠23∧0≤x.2.2.2.2∧x.2.2.2.2<18446744073709551616
theorem Quiet.at {l:List qO} (Q:Quiet l) {i:Nat} (h:i<l.length):(qL l i).1≠23∧0≤(qL l i).2.2.2.2∧(qL l i).2.2.2.2<18446744073709551616:=by rw[xI h];exact Q _ (List.getElem_mem h)
structure RunB (V:VM) (r:RM):Prop where
  gb:GB r.s
  good:jC r.v
  sz:r.v.sz=V.sz
  K:r.v.K=V.K
  most:r.v.most=V.most
theorem qQo {l:List qO} (F:Fit l) (Q:Quiet l):∀(n:Nat) {s:IM} {V:VM},GI l s V→frS V.lv+n<9000→RunB V (jf l (qS l) n s V)∧frS (jf l (qS l) n s V).v.lv≤frS V.lv+n∧
  ((jf l (qS l) n s V).kind=2→(jf l (qS l) n s V).v.lv.length=1)∧
  ((jf l (qS l) n s V).kind=1→GI l (jf l (qS l) n s V).s (jf l (qS l) n s V).v∧1≤(jf l (qS l) n s V).v.need∧(jf l (qS l) n s V).v.need<V.sz∧zj (jf l (qS l) n s V).v.need V.K=none)∧
  ((jf l (qS l) n s V).kind=1∨(jf l (qS l) n s V).kind=2∨(jf l (qS l) n s V).kind=3∨(jf l (qS l) n s V).kind=4):=by
 intro n
 induction n with
 |zero=>
  intro s V G hf;rw[kH]
  split
  ·rename_i h0;refine⟨⟨G.gb,G.good,rfl,rfl,rfl⟩,by simp,λ_=>?_,λh=>(by cases h),by simp⟩;have:=KE G;rw[h0,Int.toNat_natCast,F.nil]at this;have hl:=G.lv;show V.lv.length=1;rw[hl,this];rfl
  ·exact⟨⟨G.gb,G.good,rfl,rfl,rfl⟩,by simp,λh=>(by cases h),λh=>(by cases h),by simp⟩
 |succ n ih=>
  intro s V G hf;rw[QW]
  split
  ·rename_i h0;refine⟨⟨G.gb,G.good,rfl,rfl,rfl⟩,by simp,λ_=>?_,λh=>(by cases h),by simp⟩;have:=KE G;rw[h0,Int.toNat_natCast,F.nil]at this;have hl:=G.lv;show V.lv.length=1;rw[hl,this];rfl
  ·rename_i h0;obtain⟨i,hi,hil⟩:=G.pc;have hlt:i<l.length:=by omega
   rw[hi];have S:=GV F G hi hlt omQ (Q.at hlt).2 (Q.at hlt).1;generalize doM (qS l) s V (qL l i)=D at*
   split
   ·rename_i h1
    split
    ·exact⟨⟨⟨S.gb.regs,S.gb.out,S.gb.its⟩,S.good,S.sz,S.K,S.most⟩,by have:=S.fr;dsimp only;omega,λh=>(by cases h),λh=>(by cases h),by simp⟩
    ·rename_i h2;have G2:=S.next h1 (by simpa using h2);have hfr:=S.fr;obtain⟨a,b,c,d,e⟩:=ih G2 omQ;refine⟨⟨a.gb,a.good,a.sz.trans S.sz,a.K.trans S.K,a.most.trans S.most⟩,by omega,c,λh=>?_,e⟩;have:=d h;rw[S.sz,S.K]at this;exact this
   ·split
    ·rename_i h11;obtain⟨n1,n2,n3,n4,n5⟩:=S.need h11;refine⟨⟨S.gb,S.good,S.sz,S.K,S.most⟩,by have:=S.fr;dsimp only;omega,λh=>(by cases h),λ_=>⟨?_,n3,n4,n5⟩,by simp⟩;show GI l D.s D.v;rw[n1];exact⟨G.gb,G.pc,G.pts,G.told,G.stk,by rw[n2];exact G.lv,S.good⟩
    ·exact⟨⟨S.gb,S.good,S.sz,S.K,S.most⟩,by have:=S.fr;dsimp only;omega,λh=>(by cases h),λh=>(by cases h),by simp⟩
section
variable {x v:Nat} {l:List qO} {bad:Int} {mt:List Int} {s:IM} {err fin left nx:Int}
theorem qk2 {n:Nat} (hn:14≤n) (F:Fit l) (Q:Quiet l) {left:Nat} {V:VM} (G:GI l s V) (hf:frS V.lv+left<9000) (hl:left≤1000) (H:HS g h (IntC x v l 0 (qS l) s 0 0 left nx::ViewC v V::R)) :
  t_w n 138 [.ptr x 0] h λr h'=>r=.int .i64 (jf l (qS l) left s V).kind∧
   ∃nx',HS g h' (IntC x v l 0 (qS l) (jf l (qS l) left s V).s (jf l (qS l) left s V).err (if(jf l (qS l) left s V).kind=1 then 0 else(jf l (qS l) left s V).kind) ((jf l (qS l) left s V).left:Int) nx'::ViewC v (jf l (qS l) left s V).v::R):=by
 refine t_e1 (S:=S138) rfl omQ λk hk=>?_;unfold S138;try simp only[iZ]
 generalize hRM:jf l (qS l) left s V=RM
 refine jw (λm st h'=>st=(.ptr x 0,())∧((∃(s':IM) (V':VM) (left':Nat) (nx':Int),m=left'+1∧left'≤1000∧GI l s' V'∧frS V'.lv+left'<9000∧jf l (qS l) left' s' V'=RM∧HS g h' (IntC x v l 0 (qS l) s' 0 0 left' nx'::ViewC v V'::R))∨
   (m=0∧RM.kind≠0∧RM.kind≠1∧∃nx',HS g h' (IntC x v l 0 (qS l) RM.s RM.err RM.kind RM.left nx'::ViewC v RM.v::R))))
  ?_ (m:=left+1) (by show _<1000000000;omega) ⟨rfl,.inl ⟨s,V,left,nx,rfl,hl,G,hf,hRM,H⟩⟩
 clear H G hf hRM hl;rintro m ih st h2 hih ⟨rfl,⟨s,V,left,nx,rfl,hl,G,hf,hRM,H⟩ |⟨rfl,hk0,hk1,nx,H⟩⟩
 rotate_left
 ·dsimp only;obtain⟨c,mv,ov,q,H1⟩:=IntC.E H;refine qG (qQ (qX H1 (b:=x) .here rfl ?_));refine qK hk0 (qJ ?_);refine qG (qQ (qX H1 (b:=x) .here rfl ?_));refine qx (qq ⟨rfl,nx,?_⟩);rw[iQ hk1];exact H
 dsimp only;obtain⟨i,hi,hil⟩:=G.pc;have hlen:=F.le;obtain⟨c,mv,ov,q,H1⟩:=IntC.E H;refine qG (qQ (qX H1 (b:=x) .here rfl ?_));refine qz rfl (qZ ?_);refine qV ?_
 try dsimp only
 refine qG (qQ (qX H1 (b:=x) .here rfl ?_));refine q8 rfl (qJ ?_);refine qG (qQ (qX H1 (b:=x) .here rfl ?_));refine qG (qQ (qQ (qX H1 (b:=x) .here rfl ?_)));refine qi H1 e_1 ?_;by_cases h0:s.pc=l.length
 ·refine qz h0 (qZ ?_);rw[qq9 h0]at hRM;subst hRM;refine qG (qQ ?_);refine qg H1 (b:=x) .here ⟨rfl,rfl⟩ (by show 5<19;omega) λh3 H3=>?_;exact hih 0 _ _ omQ ⟨rfl,.inr ⟨rfl,by show(2:Int)≠0;decide,by show(2:Int)≠1;decide,nx,IntC.I (c:=c) (mv:=mv) (ov:=ov) (o:=q) H3⟩⟩
 refine qK h0 (qJ ?_);refine qG (qQ (qX H1 (b:=x) .here rfl ?_));cases left with
 |zero=>refine qz rfl (qZ ?_);rw[kH,iQ h0]at hRM;subst hRM;refine qW (OC omQ H) ?_;intro _ h3 H3;exact hih 0 _ _ omQ ⟨rfl,.inr ⟨rfl,by show(4:Int)≠0;decide,by show(4:Int)≠1;decide,nx,H3⟩⟩
 |succ left=>
  refine qK omQ (qJ ?_);rw[QW,iQ h0]at hRM;have hlt:i<l.length:=by omega
  have S:=GV F G hi hlt omQ (Q.at hlt).2 (Q.at hlt).1;have P:=qg4 F G hi hlt (Q.at hlt).1;refine qG (qQ (qX H1 (b:=x) .here rfl ?_));rw[hi];refine qb omQ (qG (qQ ?_));refine qg H1 (b:=x) .here ⟨rfl,rfl⟩ (by show 16<19;omega) λh3 H3=>?_;refine qG (qQ (qQ (qX H3 (b:=x) .here rfl ?_)));refine qG (qQ (qX H3 (b:=x) .here rfl ?_));rw[hi];refine zH (l:=jX l[i]) (H3.sl e_1) hlt omQ (Xb hlt) ?_;have H4:HS g h3 (IntC x v l 0 (qS l) s 0 0 ((left+1:Nat):Int) (s.pc+1)::ViewC v V::R):=IntC.I (c:=c) (mv:=mv) (ov:=ov) (o:=q) (by rw[hi]at H3 ⊢;exact H3);clear H H1 H3;rw[← xI hlt];refine qW (qwI omQ P H4) ?_;rintro _ h5 ⟨rfl,H5⟩;rw[hi]at hRM;generalize doM (qS l) s V (qL l i)=D at*;refine qV ?_
  try dsimp only
  obtain⟨c,mv,ov,q,H6⟩:=IntC.E H5;by_cases h1:D.e=0
  ·refine qz h1 (qZ ?_);rw[iJ h1]at hRM;refine qG (qQ (qX H6 (b:=x) .here rfl ?_));refine qG (qQ ?_);refine qg H6 (b:=x) .here ⟨rfl,rfl⟩ (by show 15<19;omega) λh7 H7=>?_;refine qG (qQ (qX H7 (b:=x) .here rfl ?_));refine jr omQ (qG (qQ ?_));rw[show((left+1:Nat):Int)-((1:Nat):Int)=(left:Int) by omega];refine qg H7 (b:=x) .here ⟨rfl,rfl⟩ (by show 17<19;omega) λh8 H8=>?_;have H9:HS g h8 (IntC x v l 0 (qS l) { D.s with pc:=D.nx } 0 (if D.blk=true then 3 else 0) left D.nx::ViewC v D.v::R):=IntC.I (s:={ D.s with pc:=D.nx }) (c:=c) (mv:=mv) (ov:=ov) (o:=q) H8;clear H6 H7 H8 H5;cases h2:D.blk with
   |true=>rw[h2,iJ rfl]at hRM;rw[h2,iJ rfl]at H9;subst hRM;exact hih 0 _ _ omQ ⟨rfl,.inr ⟨rfl,by show(3:Int)≠0;decide,by show(3:Int)≠1;decide,D.nx,H9⟩⟩
   |false=>rw[h2,iQ osQ]at hRM;rw[h2,iQ osQ]at H9;have:=S.fr;exact hih (left+1) _ _ omQ ⟨rfl,.inl ⟨_,D.v,left,D.nx,rfl,by omega,S.next h1 h2,by omega,hRM,H9⟩⟩
  ·refine qK h1 (qJ ?_);rw[iQ h1]at hRM;have hb:D.blk=false:=by
    cases hb:D.blk with
    |false=>rfl
    |true=>exact absurd (S.bl hb) h1
   rw[hb,iQ osQ]at H5;by_cases h11:D.e=11
   ·rw[iJ h11]at hRM;subst hRM;refine qz h11 (qZ ?_);refine qx (qq ⟨rfl,D.nx,?_⟩);rw[iJ rfl];exact H5
   ·rw[iQ h11]at hRM;subst hRM;refine qK h11 (qJ ?_);refine qW (OC omQ H5) ?_;intro _ h7 H7;exact hih 0 _ _ omQ ⟨rfl,.inr ⟨rfl,by show(4:Int)≠0;decide,by show(4:Int)≠1;decide,D.nx,H7⟩⟩
end
end
section
variable {g h:AH} {L R:List SP}
def Ko (l:List qO):List Int:=if(zt l).2=0 then qS l else[]
theorem qQC {n:Nat} (hn:7≤n) {l:List qO} {sv:AV} (H:HS g h R) (S:Rd g R 5 l.length sv (l.flatMap jX)) (hl:l.length≤100) :
  t_w n 136 [.agg [sv]] h λv h'=>HS g h' (qA 3 1 (Ko l).length v ((Ko l).map (.int .i64))::R):=by
 refine t_e1 (S:=S136) rfl omQ λk hk=>?_;unfold S136;try simp only[iZ]
 refine qI H (vJ (Qx (S.sl H))) λb0 h1 H1=>?_;have hLV:=(S.sl H).lenV;clear H;refine qF H1 (b:=b0) (off:=0) .here rfl omQ rfl ?_;refine qW (MN omQ H1 S.more hl) ?_;rintro _ h2 ⟨rfl,H2⟩;clear H1;refine qy rfl ?_;refine qy rfl ?_;by_cases c0:(zt l).2=0
 rotate_left
 ·refine qu c0 ?_;refine qZ ?_;unfold Ko;rw[iQ c0];exact qq H2.drop.nils
 have hG:=UL c0;have F:=GP c0;have hnr:=λ{j:Nat} (h:j<l.length)=>wG F h;have hrg:=λ{j:Nat} (h:j<l.length)=>F.reg j h;unfold Ko;rw[iJ c0];have hM:qS l=mt2 l (vI l 0 []) l.length:=rfl;rw[hM];clear hM;refine q8 c0 ?_;refine qJ (qF H2 (b:=b0) (off:=0) .here rfl omQ rfl ?_);refine qW (Gm omQ H2 S.more hG hl) ?_;intro av h3 H3;clear H2;refine qQ (qX ‹_› e_1 rfl ?_);refine yY ‹_› ?_;refine Jr (n:=l.length) H3 omQ λev h4 H4=>?_;refine qi H4 .here ?_;clear H3;have hA:(vI l 0 []).length=l.length:=Ka;have hin:=λ{i:Nat}=>qwU (i:=i) hG;generalize vI l 0 []=A at*
 refine jw (λm s h'=>∃(i:Nat),s=(.int .i64 (i:Int),.int .i64 (l.length:Int),ev,av,.ptr b0 0,())∧i≤l.length∧m=l.length-i∧
  HS g h' (qA 3 1 l.length ev ((List.replicate i (-1:Int)++List.replicate (l.length-i) 0).map (.int .i64))::qA 3 1 l.length av (A.map (.int .i64))::qk b0 [sv]::R))
  ?_ (m:=l.length) (by show _<1000000000;omega) ⟨0,rfl,by omega,by omega,by rw[List.replicate_zero,List.nil_append,Nat.sub_zero,List.map_replicate];exact H4⟩
 clear H4;rintro m ih s h5 hih ⟨i,rfl,hi,rfl,H⟩;dsimp only;by_cases hlt:i<l.length
 ·refine jB omQ ?_;refine qZ (X0 H hlt ⟨rfl,rfl⟩ λh6 H6=>?_);refine qb omQ ?_;have h0:(AV.int .i64 (Int.negSucc 0))=.int .i64 (-1):=rfl;rw[h0,← List.map_set]at H6;have es:(List.replicate i (-1:Int)++List.replicate (l.length-i) 0).set i (-1)=List.replicate (i+1) (-1:Int)++List.replicate (l.length-(i+1)) 0:=by
   rw[show l.length-i=(l.length-(i+1))+1 by omega,List.replicate_succ,List.set_append_right _ _ osQ,List.length_replicate,Nat.sub_self,List.set_cons_zero,List.replicate_succ' (n:=i),List.append_assoc];rfl
  rw[es]at H6;exact hih (l.length-(i+1)) _ _ omQ ⟨i+1,rfl,by omega,rfl,H6⟩
 obtain rfl:i=l.length:=by omega
 clear hih;rw[Nat.sub_self,List.replicate_zero,List.append_nil]at H;have hL1:∀i,(mt1 l A i).length=l.length:=λi=>Nv i;have hL2:∀i,(mt2 l A i).length=l.length:=λi=>NX i;refine jK omQ ?_;refine qJ (qQ (qX ‹_› e_2 rfl ?_));refine yY ‹_› ?_
 refine jw (λm s h'=>∃(i:Nat),s=(.int .i64 (i:Int),.int .i64 (l.length:Int),sv,ev,av,.ptr b0 0,())∧i≤l.length∧m=l.length-i∧
  HS g h' (qA 3 1 l.length ev ((mt1 l A i).map (.int .i64))::qA 3 1 l.length av (A.map (.int .i64))::qk b0 [sv]::R))
  ?_ (m:=l.length) (by show _<1000000000;omega) ⟨0,rfl,by omega,by omega,H⟩
 clear H;rintro m ih s h6 hih ⟨i,rfl,hi,rfl,H⟩;dsimp only;by_cases hlt:i<l.length
 ·have hrow:=Xb hlt;have hini:=hin hlt;have hrgi:=hrg hlt;have hnri:=hnr hlt;have hstep:mt1 l A (i+1)=if 0<jb (qL l (i:Int)).1 then(mt1 l A i).set (qM A (i:Int)).toNat i else mt1 l A i:=rfl
  rw[xI hlt]at hstep;generalize l[i]=x at*;refine jB omQ (qZ ?_)
  refine jd [] (λs h'=>s=(.int .i64 (i:Int),.int .i64 (l.length:Int),sv,ev,av,.ptr b0 0,())∧
   HS g h' (qA 3 1 l.length ev ((mt1 l A (i+1)).map (.int .i64))::qA 3 1 l.length av (A.map (.int .i64))::qk b0 [sv]::R)) ?_ ?_
  rotate_left
  ·rintro s h7 ⟨rfl,H7⟩;refine qb omQ ?_;exact hih (l.length-(i+1)) _ _ omQ ⟨i+1,rfl,by omega,rfl,H7⟩
  intro j hj;refine zH (S.sl H.drop.drop.drop) hlt omQ hrow ?_;refine qI H rfl λb h7 H7=>?_;refine qd H7 (b:=b) .here rfl (by simp[jX]) rfl λh8 H8=>?_;have H8:HS g h8 (qk b [.int .i64 x.1,.int .i64 x.2.1,.int .i64 x.2.2.1,.int .i64 x.2.2.2.1,.int .u64 x.2.2.2.2]::qA 3 1 l.length ev ((mt1 l A i).map (.int .i64))::qA 3 1 l.length av (A.map (.int .i64))::qk b0 [sv]::R):=H8;clear H H7;refine qQ (qX ‹_› .here rfl ?_);refine qW (Yu omQ) ?_;rintro _ h8 ⟨rfl,rfl⟩;by_cases he:0<jb x.1
  ·obtain⟨p,hp,hpl⟩:=hini (.inl he);refine yj he (qZ ?_);refine jI (H8.sl e_2) (x:=.int .i64 (p:Int)) (by rw[List.getElem?_map,hp];rfl) ?_;refine X0 (H8.sel e_1) hpl ⟨rfl,rfl⟩ λh9 H9=>?_;rw[← List.map_set]at H9;have hnp:qM A (i:Int)=p:=by unfold qM;rw[Int.toNat_natCast,hp];rfl
   rw[iJ he,hnp,Int.toNat_natCast]at hstep;rw[← hstep]at H9;exact hj _ _ ⟨rfl,H9.sub (.cons .here (.cons e_1 (.cons e_1 (.drop .refl))))⟩
  ·refine xW he (qJ ?_);rw[iQ he]at hstep;exact hj _ _ ⟨rfl,by rw[hstep];exact H8.drop⟩
 obtain rfl:i=l.length:=by omega
 clear hih;refine jK omQ ?_;refine qJ (qQ (qX ‹_› e_2 rfl ?_));refine yY ‹_› ?_
 refine jw (λm s h'=>∃(i:Nat),s=(.int .i64 (i:Int),.int .i64 (l.length:Int),sv,ev,av,())∧i≤l.length∧m=l.length-i∧
  HS g h' (qA 3 1 l.length ev ((mt2 l A i).map (.int .i64))::qA 3 1 l.length av (A.map (.int .i64))::qk b0 [sv]::R))
  ?_ (m:=l.length) (by show _<1000000000;omega) ⟨0,rfl,by omega,by omega,H⟩
 clear H;rintro m ih s h6 hih ⟨i,rfl,hi,rfl,H⟩;dsimp only;by_cases hlt:i<l.length
 ·have hrow:=Xb hlt;have hini:=hin hlt;have hstep:mt2 l A (i+1)=if(qL l (i:Int)).1=16 then(mt2 l A i).set i (qM (mt2 l A i) (qM A (i:Int)))else mt2 l A i:=rfl
  rw[xI hlt]at hstep;generalize l[i]=x at*;refine jB omQ (qZ ?_)
  refine jd [] (λs h'=>s=(.int .i64 (i:Int),.int .i64 (l.length:Int),sv,ev,av,())∧
   HS g h' (qA 3 1 l.length ev ((mt2 l A (i+1)).map (.int .i64))::qA 3 1 l.length av (A.map (.int .i64))::qk b0 [sv]::R)) ?_ ?_
  rotate_left
  ·rintro s h7 ⟨rfl,H7⟩;refine qb omQ ?_;exact hih (l.length-(i+1)) _ _ omQ ⟨i+1,rfl,by omega,rfl,H7⟩
  intro j hj;refine zH (S.sl H.drop.drop.drop) hlt omQ hrow ?_;refine qI H rfl λb h7 H7=>?_;refine qd H7 (b:=b) .here rfl (by simp[jX]) rfl λh8 H8=>?_;have H8:HS g h8 (qk b [.int .i64 x.1,.int .i64 x.2.1,.int .i64 x.2.2.1,.int .i64 x.2.2.2.1,.int .u64 x.2.2.2.2]::qA 3 1 l.length ev ((mt2 l A i).map (.int .i64))::qA 3 1 l.length av (A.map (.int .i64))::qk b0 [sv]::R):=H8;clear H H7;refine qQ (qX ‹_› .here rfl ?_);by_cases he:x.1=16
  ·obtain⟨p,hp,hpl⟩:=hini (.inr he);refine qz he (qZ ?_);refine jI (H8.sl e_2) (x:=.int .i64 (p:Int)) (by rw[List.getElem?_map,hp];rfl) ?_;refine jI (H8.sl e_1) (x:=.int .i64 (qM (mt2 l A i) (p:Int))) (by rw[List.getElem?_map,wO (by rw[hL2];exact hpl)];rfl) ?_;refine X0 (H8.sel e_1) hlt ⟨rfl,rfl⟩ λh9 H9=>?_;rw[← List.map_set]at H9;have hnp:qM A (i:Int)=p:=by unfold qM;rw[Int.toNat_natCast,hp];rfl
   rw[iJ he,hnp]at hstep;rw[← hstep]at H9;exact hj _ _ ⟨rfl,H9.sub (.cons .here (.cons e_1 (.cons e_1 (.drop .refl))))⟩
  ·refine qK he (qJ ?_);rw[iQ he]at hstep;exact hj _ _ ⟨rfl,by rw[hstep];exact H8.drop⟩
 obtain rfl:i=l.length:=by omega
 refine jK omQ ?_;refine qJ (qx (qq ?_));rw[hL2];exact H.sub (.cons .here (.drop (.drop .refl)))
def KU:IM:=⟨[0,0,0,0,0,0,0,0],[],0,[]⟩
theorem NT {l:List qO} {V:VM} (h1:V.lv.length=1) (G:jC V):GI l KU V :=
 ⟨⟨⟨rfl,by intro z hz;simp[KU]at hz;subst hz;omega⟩,Nat.zero_le _,λx hx=>by cases hx⟩,⟨0,rfl,Nat.zero_le _⟩,(λp hp=>by cases hp),trivial,rfl,h1,G⟩
def Xl (fuel:Int):Nat:=(max 0 (min fuel 400)).toNat
theorem qkn {n:Nat} (hn:8≤n) {l:List qO} {sv:AV} {v:Nat} {fuel:Int} (H:HS g h R) (S:Rd g R 5 l.length sv (l.flatMap jX)) (hl:l.length≤100) :
  t_w n 113 [.agg [sv],.ptr v 0,.int .i64 fuel] h λr h'=>∃x,r=.ptr x 0∧HS g h' (IntC x v l (zt l).2 (Ko l) KU 0 0 (Xl fuel:Nat) 0 ::R):=by
 refine t_e3 (S:=S113) rfl omQ λk hk=>?_;unfold S113;try simp only[iZ]
 refine qI H (vJ (Qx (S.sl H))) λb0 h1 H1=>?_;refine qQ (qX ‹_› .here rfl ?_);refine jR (H1.nils) (S.sl H1.drop) omQ omQ (Gn l) λcv h2 H2=>?_;rw[List.nil_append,Nat.zero_add]at H2;have oc:=H2.one .here;refine qQ (qg H2 (b:=b0) e_1 oc osQ λh3 H3=>?_);have H3:HS g h3 (qk b0 [cv]::qA 51 5 l.length cv (l.flatMap jX)::R):=H3;refine qF H3 (b:=b0) (off:=0) .here rfl omQ rfl ?_;refine qW (MN omQ H3 (Rd.own e_1) hl) ?_;rintro _ h4 ⟨rfl,H4⟩;refine qy rfl ?_;refine qy rfl ?_;refine qV ?_;(try dsimp only)
 refine qF H4 (b:=b0) (off:=0) .here rfl omQ rfl ?_;refine qF H4 (b:=b0) (off:=0) .here rfl omQ rfl ?_;refine qW (qQC omQ H4 (Rd.own e_1) hl) ?_;intro mv h5 H5;have om:=H5.one .here;refine qW (Q':=λr h'=>∃o,r=.ptr o 0∧HS g h' (qk o [.nils]::qA 3 1 (Ko l).length mv ((Ko l).map (.int .i64))::qk b0 [cv]::qA 51 5 l.length cv (l.flatMap jX)::R)) ?_ ?_
 ·refine t_e0 (S:=S137) rfl omQ λk hk=>?_;unfold S137;try simp only[iZ]
  refine qH rfl ?_;exact qI H5 rfl λo h6 H6=>qq ⟨o,rfl,H6⟩
 rintro _ h6 ⟨o,rfl,H6⟩;refine zZ (ze ?_);rw[show max ((0:Nat):Int) (min fuel ((400:Nat):Int))=((Xl fuel:Nat):Int) by unfold Xl;omega]
 refine qH (l:=gB cv mv .nils v o (zt l).2 0 0 (Xl fuel:Nat) 0 0 [0,0,0,0,0,0,0,0]) (by
  have e:(AV.agg (List.take 1 (List.drop 0 [cv]))).cells=[cv]:=rfl
  simp only[yB,e,om.1];rfl) ?_
 refine qI H6 (by unfold gB;simp only[qo,List.all_cons,oc.2,om.2];rfl) λx h7 H7=>?_;refine zA H5 (b:=b0) e_1 rfl H6 e_2 rfl rfl omQ (HS.lt H4 .here) ?_;refine zA H4 (b:=b0) .here rfl H5 e_1 rfl rfl omQ (HS.lt H4 .here) ?_
 skip
 refine qq ⟨x,rfl,?_⟩;have H8:=(H7.nils (e:=20) (sz:=1)).nils (e:=303) (sz:=11)
 have H9:HS g h7 (SlaC o []::qA 303 11 0 .nils []::qk x (gB cv mv .nils v o (zt l).2 0 0 (Xl fuel:Nat) 0 0 [0,0,0,0,0,0,0,0])::qA 3 1 (Ko l).length mv ((Ko l).map (.int .i64))::qk b0 [cv]::
  qA 51 5 l.length cv (l.flatMap jX)::R):=SlaC.I (l:=[]) (sv:=.nils) (H8.sub (.cons e_3 (.cons e_1 (.cons .here (.cons .here .refl)))))
 exact IntC.I (s:=KU) (c:=cv) (mv:=mv) (ov:=.nils) (o:=o) (H9.sub (.cons e_2 (.cons e_4 (.cons e_2 (.cons .here (.cons .here (.drop .refl)))))))
section
variable {x v:Nat} {l:List qO} {bad:Int} {mt:List Int} {s:IM} {err fin left nx:Int}
end
end
end Go.Proofs.YtepfejdhlgoekaaGreatDoor
