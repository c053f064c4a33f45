/- Lemmas for 'quietus/quietuslaw27.ThreadAlone': Blocks of words: by the program;Blocks of words: by the documents own text;Numbers brought into bounds;Are two lists of numbers the same?;Are two lists of ... No condition. -/
import Derived.Test.YtnalffoigcmnnabGreatDoorThreadAloneM1
import Derived.Test.YtnalffoigcmnnabGreatDoorThreadAloneAe7
import Derived.Test.YtnalffoigcmnnabGreatDoorThreadAloneT
import Derived.KernelRfl
import Derived.Lib.ItoaLen
namespace Go.Proofs.YtnalffoigcmnnabGreatDoor
open Go Go.Ae
set_option maxRecDepth 100000
variable {g h:AH} {L R:List SP}
def vT (x:Int):Int:=if x=1 then 2 else if x=2 then 4 else if x=3 then 8 else if x=4 then 16 else 0
def xL (x:Int):Int:=if x<1 then 0 else if x≤2 then 1 else if x≤4 then 2 else if x≤8 then 3 else if x≤16 then 4 else 0
theorem NC (x:Int):0≤vT x∧vT x≤16:=by unfold vT;repeat' split<;>omega
theorem Z4 (x:Int):0≤xL x∧xL x≤4:=by unfold xL;repeat' split<;>omega
structure WdV (M:VM):Prop where
  k:∀c∈M.K,0≤c.2∧c.2<18446744073709551616
  l:∀x∈M.lv,∀c∈x.1,0≤c.2∧c.2<18446744073709551616
theorem V4 {P:Int→Prop} {p x:Int}:∀{l:List Cl},(∀c∈l,P c.2)→zj p l=some x→P x:=by
 intro l
 induction l with
 |nil=>intro _ h;cases h
 |cons c l ih=>
  intro h e;unfold zj at e
  split at e
  ·cases e;exact h c (iK ..)
  ·exact ih (λd hd=>h d (iX _ hd)) e
theorem qGr {P:Int→Prop} {p x:Int}:∀{lv:List LvM},(∀y∈lv,∀c∈y.1,P c.2)→Y9 p lv=some x→P x:=by
 intro lv
 induction lv with
 |nil=>intro _ h;cases h
 |cons y r ih=>
  intro h e;unfold Y9 at e
  split at e
  ·rename_i v hv;cases e;exact V4 (h y (iK ..)) hv
  ·exact ih (λz hz=>h z (iX _ hz)) e
theorem WdV.read {M:VM} {p:Int} (W:WdV M):0≤(qh M p).1.1∧(qh M p).1.1<18446744073709551616:=by
 unfold qh
 split
 ·split
  ·rename_i x hx;exact qGr (P:=λx=>0≤x∧x<18446744073709551616) W.l hx
  ·split
   ·rename_i x hx;exact V4 (P:=λx=>0≤x∧x<18446744073709551616) W.k hx
   ·show(0:Int)≤0∧(0:Int)<18446744073709551616;omega
 ·show(0:Int)≤0∧(0:Int)<18446744073709551616;omega
theorem WdV.read2 {M:VM} {p:Int} (W:WdV M):WdV (qh M p).2:=by
 unfold qh
 repeat' split
 all_goals exact⟨W.k,W.l⟩
def WdC (cs:List Cl):Prop:=∀c∈cs,0≤c.2∧c.2<18446744073709551616
theorem WdC.put {l:List Cl} {p v:Int} (h:WdC l) (hv:0≤v∧v<18446744073709551616):WdC (yp p v l):=by
 induction l with
 |nil=>intro c hc;simp[yp]at hc;subst hc;exact hv
 |cons a l ih=>
  unfold yp
  split
  ·intro c hc;rcases List.mem_cons.1 hc with rfl |hc
   ·exact hv
   ·exact h c (iX _ hc)
  ·intro c hc;rcases List.mem_cons.1 hc with rfl |hc
   ·exact h _ (iK ..)
   ·exact ih (λc hc=>h c (iX _ hc)) c hc
theorem WdC.puts:∀{cs l:List Cl},WdC l→WdC cs→WdC (yl l cs):=by
 intro cs
 induction cs with
 |nil=>intro l h _;exact h
 |cons c cs ih=>intro l h hc;exact ih (h.put (hc c (iK ..))) λd hd=>hc d (iX _ hd)
theorem qqD {most:Nat} {was:List LvM} (hw:∀x∈was,WdC x.1):∀{cs:List Cl} {lv:List LvM},WdC cs→(∀x∈lv,WdC x.1)→∀x∈(vO most was lv cs).2,WdC x.1:=by
 intro cs
 induction cs with
 |nil=>intro lv _ h;exact h
 |cons c cs ih=>
  intro lv hc h;rw[vr]
  split
  ·refine ih (λd hd=>hc d (iX _ hd)) ?_;cases lv with
   |nil=>exact h
   |cons y r=>
    unfold vn;dsimp only
    split
    ·exact h
    ·split
     ·exact h
     ·intro x hx;rcases List.mem_cons.1 hx with rfl |hx
      ·exact(show WdC y.1 from h y (iK ..)).put (hc c (iK ..))
      ·exact h x (iX _ hx)
  ·exact hw
theorem WdV.take {M:VM} {cs:List Cl} (W:WdV M) (hc:WdC cs):WdV (zz M cs).2:=by
 unfold zz
 split
 ·exact⟨W.k,qqD W.l hc W.l⟩
 ·exact W
def yZ (M:VM) (c b:Int):(Int×Int)×VM :=
 if 2147483648≤b then((0,2),M)else
 if(qh M b).1.2=0 then
  (if(zz (qh M b).2 [(c,(qh M b).1.1),(b-1,c+8)]).1=0 then((b,0),(zz (qh M b).2 [(c,(qh M b).1.1),(b-1,c+8)]).2)
   else((0,(zz (qh M b).2 [(c,(qh M b).1.1),(b-1,c+8)]).1),(zz (qh M b).2 [(c,(qh M b).1.1),(b-1,c+8)]).2))
 else((0,(qh M b).1.2),(qh M b).2)
def x9 (M:VM) (c:Int):(Int×Int)×VM :=
 if(qh M 5).1.2=0 then
  (if(qh M 5).1.1<14∨2147483648≤(qh M 5).1.1∨(M.sz:Int)<(qh M 5).1.1+1+vT c then((0,4),(qh M 5).2)
   else if(zz (qh M 5).2 [(5,(qh M 5).1.1+1+vT c),((qh M 5).1.1,c+8)]).1=0 then(((qh M 5).1.1+1,0),(zz (qh M 5).2 [(5,(qh M 5).1.1+1+vT c),((qh M 5).1.1,c+8)]).2)
   else((0,(zz (qh M 5).2 [(5,(qh M 5).1.1+1+vT c),((qh M 5).1.1,c+8)]).1),(zz (qh M 5).2 [(5,(qh M 5).1.1+1+vT c),((qh M 5).1.1,c+8)]).2))
 else((0,(qh M 5).1.2),(qh M 5).2)
def zu (M:VM) (n:Int):(Int×Int)×VM :=
 if xL n=0 then((0,3),M)else
 if(qh M (xL n)).1.2=0 then
  (if(qh M (xL n)).1.1=0 then x9 (qh M (xL n)).2 (xL n)else yZ (qh M (xL n)).2 (xL n) (qh M (xL n)).1.1)
 else((0,(qh M (xL n)).1.2),(qh M (xL n)).2)
def X6 (w:Int):Int×Bool:=if 1≤w∧w≤4 then(w,false)else if 9≤w∧w≤12 then(w-8,true)else(0,false)
def zV (M:VM) (b:Int):(Int×Bool×Int)×VM :=
 if b≤14∨M.sz≤b then((0,false,2),M)else
 if(qh M (b-1)).1.2=0 then
  (if(X6 (qh M (b-1)).1.1).1=0 then((0,false,2),(qh M (b-1)).2)else(((X6 (qh M (b-1)).1.1).1,(X6 (qh M (b-1)).1.1).2,0),(qh M (b-1)).2))
 else((0,false,(qh M (b-1)).1.2),(qh M (b-1)).2)
def vF (M:VM) (b:Int):Int×VM :=
 if(zV M b).1.2.2=0 then
  (if(zV M b).1.2.1=true then
   (if(zz (zV M b).2 [(b-1,(zV M b).1.1)]).1=0 then(0,freeV (zz (zV M b).2 [(b-1,(zV M b).1.1)]).2 b)else zz (zV M b).2 [(b-1,(zV M b).1.1)])
  else(2,(zV M b).2))
 else((zV M b).1.2.2,(zV M b).2)
def zG (M:VM) (b:Int):Int×VM :=
 if(zV M b).1.2.2=0 then
  (if(zV M b).1.2.1=true then(2,(zV M b).2)else
   if(qh (zV M b).2 (zV M b).1.1).1.2=0 then zz (qh (zV M b).2 (zV M b).1.1).2 [(b,(qh (zV M b).2 (zV M b).1.1).1.1),((zV M b).1.1,b)]
   else((qh (zV M b).2 (zV M b).1.1).1.2,(qh (zV M b).2 (zV M b).1.1).2))
 else((zV M b).1.2.2,(zV M b).2)
theorem qY8 {M:VM} {p:Int}:(qh M p).2.sz=M.sz:=by
 unfold qh
 repeat' split
 all_goals rfl
theorem qxC (w:Int):0≤(X6 w).1∧(X6 w).1≤4:=by
 unfold X6
 repeat' split
 all_goals dsimp only
 all_goals omega
theorem Nc (M:VM) (b:Int):0≤(zV M b).1.1∧(zV M b).1.1≤4∧((zV M b).1.2.2=0→14<b∧b<M.sz):=by
 unfold zV
 split
 ·exact⟨Int.le_refl 0,by show(0:Int)≤4;omega,λh=>by cases h⟩
 ·split
  ·split
   ·exact⟨Int.le_refl 0,by show(0:Int)≤4;omega,λh=>by cases h⟩
   ·have:=qxC (qh M (b-1)).1.1;exact⟨this.1,this.2,λ_=>by omega⟩
  ·exact⟨Int.le_refl 0,by show(0:Int)≤4;omega,λ_=>by omega⟩
theorem XP {M:VM} {b:Int} (O:OkV M):OkV (zV M b).2:=by
 unfold zV
 split
 ·exact O
 ·split
  ·split<;>exact xm O
  ·exact xm O
theorem qvP {M:VM} {b:Int} (O:WdV M):WdV (zV M b).2:=by
 unfold zV
 split
 ·exact O
 ·split
  ·split<;>exact O.read2
  ·exact O.read2
theorem qjB {M:VM} {b:Int} (O:OkV M) (hf:∀x∈M.lv,x.2.length+1<100000):OkV (freeV M b):=by
 refine⟨O.lo,O.hi,qY9 O.lvs,O.ins,O.un,?_⟩;show∀x∈Jt M.lv b,x.2.length<100000;cases hl:M.lv with
 |nil=>intro x hx;cases hx
 |cons y r=>
  rw[hl]at hf;intro x hx;rcases List.mem_cons.1 hx with rfl |hx
  ·have:=hf y (iK ..);simpa using this
  ·have:=hf x (iX _ hx);omega
theorem GC {n:Nat} (hn:1≤n) {x:Int}:t_w n 289 [.int .i64 x] h λv h'=>v=.int .i64 (vT x)∧h'=h:=by
 refine t_e1 (S:=S289) rfl omQ λk hk=>?_;unfold S289;try simp only[iZ]
 repeat' (first |with_reducible refine qZ ?_ |with_reducible refine qJ ?_ |(with_reducible refine qa ?_;try dsimp only) |(with_reducible refine qo ?_;try dsimp only) |(with_reducible refine qS ?_;try dsimp only) |(with_reducible refine qd ?_;try dsimp only) |(with_reducible refine jt ?_;try dsimp only) |with_reducible refine qF ?_ |with_reducible refine qI ?_ |(with_reducible refine qV ?_;try dsimp only) |with_reducible refine qk ?_ |with_reducible refine jX ?_ |with_reducible refine jV ?_ |with_reducible refine qc omQ ?_ |with_reducible refine zQ omQ ?_ |with_reducible refine xd omQ ?_ |with_reducible refine yK omQ ?_ |with_reducible refine zX ?_ |with_reducible refine zC ?_ |with_reducible refine zy (λhc=>?_) (λhc=>?_) |with_reducible refine wP (λhc=>?_) (λhc=>?_) |with_reducible refine wR (λhc=>?_) (λhc=>?_) |with_reducible refine yY (λhc=>?_) (λhc=>?_) |with_reducible refine vU (λhc=>?_) (λhc=>?_) |with_reducible refine yS (λhc=>?_) (λhc=>?_) |with_reducible refine gT (λhc=>?_) (λhc=>?_))
 ·refine qj ⟨?_,rfl⟩;unfold vT;congr 1;repeat' split<;>omega
 ·refine qj ⟨?_,rfl⟩;unfold vT;congr 1;repeat' split<;>omega
 ·refine qwa omQ ?_;refine qj ⟨?_,rfl⟩;rcases(show x=1∨x=2∨x=3∨x=4 by omega)with rfl |rfl |rfl |rfl<;>rfl
theorem qVe {n:Nat} (hn:2≤n) {x:Int}:t_w n 251 [.int .i64 x] h λv h'=>v=.int .i64 (xL x)∧h'=h:=by
 refine t_e1 (S:=S251) rfl omQ λk hk=>?_;unfold S251;try simp only[iZ]
 repeat' (first |with_reducible refine qZ ?_ |with_reducible refine qJ ?_ |(with_reducible refine qa ?_;try dsimp only) |(with_reducible refine qo ?_;try dsimp only) |(with_reducible refine qS ?_;try dsimp only) |(with_reducible refine qd ?_;try dsimp only) |(with_reducible refine jt ?_;try dsimp only) |with_reducible refine qF ?_ |with_reducible refine qI ?_ |(with_reducible refine qV ?_;try dsimp only) |with_reducible refine qk ?_ |with_reducible refine jX ?_ |with_reducible refine jV ?_ |with_reducible refine qc omQ ?_ |with_reducible refine zQ omQ ?_ |with_reducible refine xd omQ ?_ |with_reducible refine yK omQ ?_ |with_reducible refine zX ?_ |with_reducible refine zC ?_ |with_reducible refine zy (λhc=>?_) (λhc=>?_) |with_reducible refine wP (λhc=>?_) (λhc=>?_) |with_reducible refine wR (λhc=>?_) (λhc=>?_) |with_reducible refine yY (λhc=>?_) (λhc=>?_) |with_reducible refine vU (λhc=>?_) (λhc=>?_) |with_reducible refine yS (λhc=>?_) (λhc=>?_) |with_reducible refine gT (λhc=>?_) (λhc=>?_))
 ·refine qj ⟨?_,rfl⟩;unfold xL;congr 1;repeat' split<;>omega
 ·refine jN (λm s g=>∃i:Int,s=(.int .i64 i,.int .i64 x,())∧1≤i∧i≤5∧(m:Int)=5-i∧g=h∧(1<i→2<x)∧(2<i→4<x)∧(3<i→8<x)∧(4<i→16<x)) ?_ (m:=4) od ⟨1,rfl,by omega,by omega,by omega,rfl,by omega,by omega,by omega,by omega⟩;rintro m ih s g hih ⟨i,rfl,h1,h2,h3,rfl,h4,h5,h6,h7⟩;dsimp only
  repeat' (first |with_reducible refine qZ ?_ |with_reducible refine qJ ?_ |(with_reducible refine qa ?_;try dsimp only) |(with_reducible refine qo ?_;try dsimp only) |(with_reducible refine qS ?_;try dsimp only) |(with_reducible refine qd ?_;try dsimp only) |(with_reducible refine jt ?_;try dsimp only) |with_reducible refine qF ?_ |with_reducible refine qI ?_ |(with_reducible refine qV ?_;try dsimp only) |with_reducible refine qk ?_ |with_reducible refine jX ?_ |with_reducible refine jV ?_ |with_reducible refine qc omQ ?_ |with_reducible refine zQ omQ ?_ |with_reducible refine xd omQ ?_ |with_reducible refine yK omQ ?_ |with_reducible refine zX ?_ |with_reducible refine zC ?_ |with_reducible refine zy (λhc=>?_) (λhc=>?_) |with_reducible refine wP (λhc=>?_) (λhc=>?_) |with_reducible refine wR (λhc=>?_) (λhc=>?_) |with_reducible refine yY (λhc=>?_) (λhc=>?_) |with_reducible refine vU (λhc=>?_) (λhc=>?_) |with_reducible refine yS (λhc=>?_) (λhc=>?_) |with_reducible refine gT (λhc=>?_) (λhc=>?_))
  ·refine qG (GC omQ) ?_;rintro v g' ⟨rfl,rfl⟩
   repeat' (first |with_reducible refine qZ ?_ |with_reducible refine qJ ?_ |(with_reducible refine qa ?_;try dsimp only) |(with_reducible refine qo ?_;try dsimp only) |(with_reducible refine qS ?_;try dsimp only) |(with_reducible refine qd ?_;try dsimp only) |(with_reducible refine jt ?_;try dsimp only) |with_reducible refine qF ?_ |with_reducible refine qI ?_ |(with_reducible refine qV ?_;try dsimp only) |with_reducible refine qk ?_ |with_reducible refine jX ?_ |with_reducible refine jV ?_ |with_reducible refine qc omQ ?_ |with_reducible refine zQ omQ ?_ |with_reducible refine xd omQ ?_ |with_reducible refine yK omQ ?_ |with_reducible refine zX ?_ |with_reducible refine zC ?_ |with_reducible refine zy (λhc=>?_) (λhc=>?_) |with_reducible refine wP (λhc=>?_) (λhc=>?_) |with_reducible refine wR (λhc=>?_) (λhc=>?_) |with_reducible refine yY (λhc=>?_) (λhc=>?_) |with_reducible refine vU (λhc=>?_) (λhc=>?_) |with_reducible refine yS (λhc=>?_) (λhc=>?_) |with_reducible refine gT (λhc=>?_) (λhc=>?_))
   ·refine qj ⟨?_,rfl⟩;unfold vT at*;unfold xL;congr 1;repeat' split<;>omega
   ·refine hih (m-1) _ _ omQ ⟨i+1,rfl,by omega,by omega,by omega,rfl,?_,?_,?_,?_⟩<;>(unfold vT at*;repeat' split at* <;>omega)
  ·refine qj ⟨?_,rfl⟩;unfold xL;congr 1;repeat' split<;>omega
theorem Y1 {n:Nat} (hn:1≤n) {c:Int} (hc:0≤c∧c≤4):t_w n 98 [.int .i64 c] h λv h'=>v=.int .i64 c∧h'=h:=by
 refine t_e1 (S:=S98) rfl omQ λk hk=>?_;unfold S98;try simp only[iZ]
 refine qc omQ ?_;exact qj ⟨by congr 1;omega,rfl⟩
theorem qJU {n:Nat} (hn:1≤n) {w:Int}:t_w n 147 [.int .u64 w] h λv h'=>v=.tup [.int .i64 (X6 w).1,.bool (X6 w).2]∧h'=h:=by
 refine t_e1 (S:=S147) rfl omQ λk hk=>?_;unfold S147;try simp only[iZ]
 unfold X6;by_cases h1:1≤w∧w≤4
 ·rw[iJ h1];refine zO omQ ?_;refine qV ?_;(try dsimp only);refine qa ?_;(try dsimp only);refine Jk omQ ?_;refine qF (qZ (xF omQ ?_))
  exact qj ⟨rfl,rfl⟩
 ·rw[iQ h1];by_cases h2:9≤w∧w≤12
  ·rw[iJ h2];refine zO omQ ?_;refine qV ?_;(try dsimp only);refine qa ?_;(try dsimp only);refine XH omQ ?_;refine qF (qJ (zO omQ ?_));refine qV ?_;(try dsimp only);refine qa ?_;(try dsimp only);refine Jk omQ ?_;refine qF (qZ (yK omQ ?_));refine xF omQ ?_
   exact qj ⟨rfl,rfl⟩
  ·rw[iQ h2]
   repeat' (first |with_reducible refine qZ ?_ |with_reducible refine qJ ?_ |(with_reducible refine qa ?_;try dsimp only) |(with_reducible refine qo ?_;try dsimp only) |(with_reducible refine qS ?_;try dsimp only) |(with_reducible refine qd ?_;try dsimp only) |(with_reducible refine jt ?_;try dsimp only) |with_reducible refine qF ?_ |with_reducible refine qI ?_ |(with_reducible refine qV ?_;try dsimp only) |with_reducible refine qk ?_ |with_reducible refine jX ?_ |with_reducible refine jV ?_ |with_reducible refine qc omQ ?_ |with_reducible refine zQ omQ ?_ |with_reducible refine xd omQ ?_ |with_reducible refine yK omQ ?_ |with_reducible refine zX ?_ |with_reducible refine zC ?_ |with_reducible refine qx omQ ?_ |with_reducible refine qX omQ ?_ |with_reducible refine jj omQ ?_ |with_reducible refine jY omQ ?_ |with_reducible refine jd omQ ?_ |with_reducible refine jH omQ ?_ |with_reducible refine Jk omQ ?_ |with_reducible refine XH omQ ?_ |with_reducible refine yB omQ ?_ |with_reducible refine yV omQ ?_ |with_reducible refine zO omQ ?_ |with_reducible refine zN omQ ?_ |with_reducible refine zy (λhc=>?_) (λhc=>?_) |with_reducible refine wP (λhc=>?_) (λhc=>?_) |with_reducible refine wR (λhc=>?_) (λhc=>?_) |with_reducible refine yY (λhc=>?_) (λhc=>?_) |with_reducible refine vU (λhc=>?_) (λhc=>?_) |with_reducible refine yS (λhc=>?_) (λhc=>?_) |with_reducible refine gT (λhc=>?_) (λhc=>?_))
   all_goals exact qj ⟨rfl,rfl⟩
theorem Nx {n:Nat} (hn:10≤n) {v:Nat} {M:VM} {b:Int} (H:HS g h (ViewC v M::R)) (O:OkV M) :
  t_w n 96 [.ptr v 0,.int .i64 b] h λr h'=>r=.tup [.int .i64 (zV M b).1.1,.bool (zV M b).1.2.1,.int .i64 (zV M b).1.2.2]∧HS g h' (ViewC v (zV M b).2::R):=by
 refine t_e2 (S:=S96) rfl omQ λk hk=>?_;unfold S96;try simp only[iZ]
 unfold zV;by_cases h1:b≤14
 ·rw[iJ (.inl h1)];refine Jk omQ ?_;refine qV ?_;(try dsimp only);refine qo ?_;(try dsimp only);refine qF (qZ ?_)
  exact qj ⟨rfl,H⟩
 ·refine XH omQ ?_;refine qV ?_;(try dsimp only);refine qd ?_;(try dsimp only)
  refine qG (Gz omQ H) ?_;rintro _ _ ⟨rfl,rfl⟩;by_cases h2:(M.sz:Int)≤b
  ·rw[iJ (.inr h2)];refine zO omQ ?_;refine qI (qZ ?_);exact qj ⟨rfl,H⟩
  ·rw[iQ omQ];refine zN omQ ?_;refine qI (qJ ?_);have:=O.hi;refine zQ omQ (qG (Qs omQ H O) ?_);rintro _ h3 ⟨rfl,H3⟩;simp only[show((1:Nat):Int)=1 from rfl]at H3 ⊢;refine qA rfl ?_;refine qA rfl ?_;by_cases h4:(qh M (b-1)).1.2=0
   ·rw[iJ h4];refine jY omQ ?_;refine qJ (qG (qJU omQ) ?_);rintro _ _ ⟨rfl,rfl⟩;refine qA rfl ?_;refine qA rfl ?_;by_cases h5:(X6 (qh M (b-1)).1.1).1=0
    ·rw[iJ h5];refine qx omQ ?_;refine qZ ?_;exact qj ⟨rfl,H3⟩
    ·rw[iQ h5];refine qX omQ ?_;refine qJ ?_;exact qj ⟨rfl,H3⟩
   ·rw[iQ h4];refine jj omQ ?_;refine qZ ?_;exact qj ⟨rfl,H3⟩
theorem qWa {n:Nat} (hn:11≤n) {v:Nat} {M:VM} {b:Int} (H:HS g h (ViewC v M::R)) (O:OkV M) :
  t_w n 188 [.ptr v 0,.int .i64 b] h λr h'=>r=.int .i64 (vF M b).1∧HS g h' (ViewC v (vF M b).2::R):=by
 refine t_e2 (S:=S188) rfl omQ λk hk=>?_;unfold S188;try simp only[iZ]
 refine qG (Nx omQ H O) ?_;rintro _ h1 ⟨rfl,H1⟩;have hb:=Nc M b;have hO:=XP (b:=b) O;have:=O.hi;unfold vF;refine qA rfl ?_;refine qA rfl ?_;refine qA rfl ?_;refine qV ?_;(try dsimp only)
 by_cases h2:(zV M b).1.2.2=0
 ·rw[iJ h2];refine qx omQ ?_;refine qV ?_;(try dsimp only);refine qa ?_;(try dsimp only)
  cases h3:(zV M b).1.2.1
  ·rw[iQ osQ];refine jV (qF (qZ (qV ?_)));(try dsimp only);refine qX omQ ?_;refine qJ (qV ?_);(try dsimp only);refine qX omQ ?_;refine qJ (qk ?_)
   exact qj ⟨rfl,H1⟩
  ·rw[iJ rfl];refine jX (qF (qJ (qV ?_)));(try dsimp only);refine qx omQ ?_;refine qZ (zQ omQ ?_);refine kM omQ ?_;refine qH rfl ?_
   simp only[show((1:Nat):Int)=1 from rfl];refine(qf (n:=1) (l:=[.int .i64 (b-1),.int .u64 (zV M b).1.1]) (sz:=2) H1 rfl rfl rfl rfl λv3 h3 H3=>?_);refine qG (Gy (cs:=[(b-1,(zV M b).1.1)]) omQ (H3.sel e_1) hO (.own .here) osQ) ?_;rintro _ h4 ⟨rfl,H4⟩;by_cases h5:(zz (zV M b).2 [(b-1,(zV M b).1.1)]).1=0
   ·rw[iJ h5];refine qV ?_;(try dsimp only);refine qx omQ ?_;refine qZ ?_
    refine qG (qY4 omQ H4 (ZX hO)) ?_;intro _ h6 H6;refine qk ?_;exact qj ⟨by rw[h5],H6.sub (.cons .here (.drop (.refl)))⟩
   ·rw[iQ h5];refine qV ?_;(try dsimp only);refine qX omQ ?_;refine qJ (qk ?_)
    exact qj ⟨rfl,H4.sub (.cons .here (.drop (.refl)))⟩
 ·rw[iQ h2];refine qX omQ ?_;refine qV ?_;(try dsimp only);refine qS ?_;(try dsimp only);refine qI (qJ (qV ?_));(try dsimp only);refine qX omQ ?_;refine qJ (qV ?_);(try dsimp only);refine qX omQ ?_;refine qJ (qk ?_)
  exact qj ⟨rfl,H1⟩
theorem Ot {n:Nat} (hn:11≤n) {v:Nat} {M:VM} {b:Int} (H:HS g h (ViewC v M::R)) (O:OkV M) :
  t_w n 53 [.ptr v 0,.int .i64 b] h λr h'=>r=.int .i64 (zG M b).1∧HS g h' (ViewC v (zG M b).2::R):=by
 refine t_e2 (S:=S53) rfl omQ λk hk=>?_;unfold S53;try simp only[iZ]
 refine qG (Nx omQ H O) ?_;rintro _ h1 ⟨rfl,H1⟩;have hb:=Nc M b;have hO:=XP (b:=b) O;have:=O.hi;unfold zG;refine qA rfl ?_;refine qA rfl ?_;refine qA rfl ?_;refine qV ?_;(try dsimp only)
 by_cases h2:(zV M b).1.2.2=0
 ·rw[iJ h2];refine qx omQ ?_;refine qV ?_;(try dsimp only);refine qa ?_;(try dsimp only);refine qF ?_
  cases h3:(zV M b).1.2.1
  ·rw[iQ osQ];refine qJ (jY omQ ?_);refine qJ (qG (Y1 omQ omQ) ?_);rintro _ _ ⟨rfl,rfl⟩;refine qG (Qs omQ H1 hO) ?_;rintro _ h4 ⟨rfl,H4⟩;refine qA rfl ?_;refine qA rfl ?_;by_cases h5:(qh (zV M b).2 (zV M b).1.1).1.2=0
   ·rw[iJ h5];refine jY omQ ?_;refine qJ (qH rfl ?_);refine qG (Y1 omQ omQ) ?_;rintro _ _ ⟨rfl,rfl⟩;refine kM omQ ?_;refine qH rfl (qf (n:=2) (l:=[.int .i64 b,.int .u64 (qh (zV M b).2 (zV M b).1.1).1.1,.int .i64 (zV M b).1.1,.int .u64 b]) (sz:=2) H4 rfl rfl rfl rfl λv5 h5 H5=>?_);refine qG (Gy (cs:=[(b,(qh (zV M b).2 (zV M b).1.1).1.1),((zV M b).1.1,b)]) omQ (H5.sel e_1) (xm hO) (.own .here) osQ) ?_;rintro _ h6 ⟨rfl,H6⟩;refine qk ?_;exact qj ⟨rfl,H6.sub (.cons .here (.drop (.refl)))⟩
   ·rw[iQ h5];refine jj omQ ?_;refine qZ (qk ?_);exact qj ⟨rfl,H4⟩
  ·rw[iJ rfl];refine qZ (jj omQ ?_);refine qZ (qk ?_);exact qj ⟨rfl,H1⟩
 ·rw[iQ h2];refine qX omQ ?_;refine qV ?_;(try dsimp only);refine qS ?_;(try dsimp only);refine qI (qJ (jj omQ ?_));refine qZ (qk ?_)
  exact qj ⟨rfl,H1⟩
theorem qKr {n:Nat} (hn:10≤n) {v:Nat} {M:VM} {c b:Int} (H:HS g h (ViewC v M::R)) (O:OkV M) (hc:1≤c∧c≤4) (hb:0≤b) :
  t_w n 252 [.ptr v 0,.int .i64 c,.int .u64 b] h λr h'=>r=.tup [.int .i64 (yZ M c b).1.1,.int .i64 (yZ M c b).1.2]∧HS g h' (ViewC v (yZ M c b).2::R):=by
 refine t_e3 (S:=S252) rfl omQ λk hk=>?_;unfold S252;try simp only[iZ]
 unfold yZ;by_cases h1:2147483648≤b
 ·rw[iJ h1];refine zO omQ ?_;refine qZ ?_;exact qj ⟨rfl,H⟩
 ·rw[iQ h1];refine zN omQ ?_;refine qJ (xF omQ ?_);refine qG (Qs omQ H O) ?_;rintro _ h3 ⟨rfl,H3⟩;refine qA rfl ?_;refine qA rfl ?_;refine qV ?_;(try dsimp only)
  by_cases h4:(qh M b).1.2=0
  ·rw[iJ h4];refine qx omQ ?_;refine qZ (qG (Y1 omQ omQ) ?_);rintro _ _ ⟨rfl,rfl⟩;refine qH rfl (zQ omQ (qc omQ (kM omQ (qH rfl ?_))));refine qf (n:=2) (l:=[.int .i64 c,.int .u64 (qh M b).1.1,.int .i64 (b-1),.int .u64 (c+8)]) (sz:=2) H3 rfl rfl rfl rfl λv5 h5 H5=>?_;refine qG (Gy (cs:=[(c,(qh M b).1.1),(b-1,c+8)]) omQ (H5.sel e_1) (xm O) (.own .here) osQ) ?_;rintro _ h6 ⟨rfl,H6⟩;by_cases h7:(zz (qh M b).2 [(c,(qh M b).1.1),(b-1,c+8)]).1=0
   ·rw[iJ h7];refine jY omQ ?_;refine qJ (qk ?_);exact qj ⟨rfl,H6.sub (.cons .here (.drop (.refl)))⟩
   ·rw[iQ h7];refine jj omQ ?_;refine qZ (qk ?_);exact qj ⟨rfl,H6.sub (.cons .here (.drop (.refl)))⟩
  ·rw[iQ h4];refine qX omQ ?_;refine qJ (jj omQ ?_);refine qZ (qk ?_);exact qj ⟨rfl,H3⟩
theorem qKu {n:Nat} (hn:10≤n) {v:Nat} {M:VM} {c:Int} (H:HS g h (ViewC v M::R)) (O:OkV M) (W:WdV M) (hc:1≤c∧c≤4) :
  t_w n 253 [.ptr v 0,.int .i64 c] h λr h'=>r=.tup [.int .i64 (x9 M c).1.1,.int .i64 (x9 M c).1.2]∧HS g h' (ViewC v (x9 M c).2::R):=by
 refine t_e2 (S:=S253) rfl omQ λk hk=>?_;unfold S253;try simp only[iZ]
 unfold x9;refine qG (Qs omQ H O) ?_;rintro _ h3 ⟨rfl,H3⟩;have hw:=W.read (p:=5);simp only[show((5:Nat):Int)=5 from rfl]at H3 ⊢;have hs:=NC c;have hO:=O.hi;refine qA rfl ?_;refine qA rfl ?_;by_cases h4:(qh M 5).1.2=0
 ·rw[iJ h4];refine jY omQ ?_;refine qJ ?_;have hsz:(qh M 5).2.sz=M.sz:=qY8;by_cases h5:(qh M 5).1.1<14∨2147483648≤(qh M 5).1.1∨(M.sz:Int)<(qh M 5).1.1+1+vT c
  ·rw[iJ h5];by_cases h6:(qh M 5).1.1<14
   ·refine jd omQ ?_;refine qV ?_;(try dsimp only);refine qo ?_;(try dsimp only);refine qF (qV ?_);(try dsimp only);refine qo ?_;(try dsimp only);refine qF (qZ ?_)
    exact qj ⟨rfl,H3⟩
   ·by_cases h7:2147483648≤(qh M 5).1.1
    ·refine jH omQ ?_;refine qV ?_;(try dsimp only);refine qd ?_;(try dsimp only);refine zO omQ ?_;refine qI (qV ?_);(try dsimp only);refine qo ?_;(try dsimp only);refine qF (qZ ?_)
     exact qj ⟨rfl,H3⟩
    ·refine jH omQ ?_;refine qV ?_;(try dsimp only);refine qd ?_;(try dsimp only);refine zN omQ ?_;refine qI (qV ?_);(try dsimp only);refine qd ?_;(try dsimp only);refine xF omQ ?_;refine qc omQ ?_
     refine qG (GC omQ) ?_;rintro _ _ ⟨rfl,rfl⟩;refine qc omQ ?_;refine qG (Gz omQ H3) ?_;rintro _ _ ⟨rfl,rfl⟩;rw[hsz];refine yB omQ ?_;refine qI (qZ ?_);exact qj ⟨rfl,H3⟩
  ·rw[iQ h5];refine jH omQ ?_;refine qV ?_;(try dsimp only);refine qd ?_;(try dsimp only);refine zN omQ ?_;refine qI (qV ?_);(try dsimp only);refine qd ?_;(try dsimp only);refine xF omQ ?_;refine qc omQ ?_
   refine qG (GC omQ) ?_;rintro _ _ ⟨rfl,rfl⟩;refine qc omQ ?_;refine qG (Gz omQ H3) ?_;rintro _ _ ⟨rfl,rfl⟩;rw[hsz];refine yV omQ ?_;refine qI (qJ (xF omQ ?_));refine qc omQ ?_;refine qG (GC omQ) ?_;rintro _ _ ⟨rfl,rfl⟩;refine qc omQ (kM omQ (qH rfl (qc omQ (kM omQ (qH rfl ?_)))));refine qf (n:=2) (l:=[.int .i64 5,.int .u64 ((qh M 5).1.1+1+vT c),.int .i64 (qh M 5).1.1,.int .u64 (c+8)]) (sz:=2) H3 rfl rfl rfl rfl λv5 h5 H5=>?_;refine qG (Gy (cs:=[(5,(qh M 5).1.1+1+vT c),((qh M 5).1.1,c+8)]) omQ (H5.sel e_1) (xm O) (.own .here) osQ) ?_;rintro _ h6 ⟨rfl,H6⟩;by_cases h7:(zz (qh M 5).2 [(5,(qh M 5).1.1+1+vT c),((qh M 5).1.1,c+8)]).1=0
   ·rw[iJ h7];refine jY omQ ?_;refine qJ (qc omQ ?_);exact qj ⟨rfl,H6.sub (.cons .here (.drop (.refl)))⟩
   ·rw[iQ h7];refine jj omQ ?_;refine qZ ?_;exact qj ⟨rfl,H6.sub (.cons .here (.drop (.refl)))⟩
 ·rw[iQ h4];refine jj omQ ?_;refine qZ ?_;exact qj ⟨rfl,H3⟩
theorem qKP {n:Nat} (hn:11≤n) {v:Nat} {M:VM} {x:Int} (H:HS g h (ViewC v M::R)) (O:OkV M) (W:WdV M) :
  t_w n 187 [.ptr v 0,.int .i64 x] h λr h'=>r=.tup [.int .i64 (zu M x).1.1,.int .i64 (zu M x).1.2]∧HS g h' (ViewC v (zu M x).2::R):=by
 refine t_e2 (S:=S187) rfl omQ λk hk=>?_;unfold S187;try simp only[iZ]
 refine qG (qVe omQ) ?_;rintro _ _ ⟨rfl,rfl⟩;have hc:=Z4 x;unfold zu;by_cases h1:xL x=0
 ·rw[iJ h1];refine qx omQ ?_;refine qZ ?_;exact qj ⟨rfl,H⟩
 ·rw[iQ h1];refine qX omQ ?_;refine qJ (qG (Y1 omQ hc) ?_);rintro _ _ ⟨rfl,rfl⟩;refine qG (Qs omQ H O) ?_;rintro _ h3 ⟨rfl,H3⟩;have hw:=W.read (p:=xL x);refine qA rfl ?_;refine qA rfl ?_;by_cases h4:(qh M (xL x)).1.2=0
  ·rw[iJ h4];by_cases h5:(qh M (xL x)).1.1=0
   ·rw[iJ h5];refine jY omQ ?_;refine qJ (jY omQ ?_);refine qJ (qG (qKu omQ H3 (xm O) W.read2 omQ) ?_);rintro _ h6 ⟨rfl,H6⟩;refine qA rfl ?_;refine qA rfl ?_;exact qj ⟨rfl,H6⟩
   ·rw[iQ h5];refine jY omQ ?_;refine qJ (jj omQ ?_);refine qZ (qG (qKr omQ H3 (xm O) omQ hw.1) ?_);rintro _ h6 ⟨rfl,H6⟩;refine qA rfl ?_;refine qA rfl ?_;exact qj ⟨rfl,H6⟩
  ·rw[iQ h4];refine jj omQ ?_;refine qZ ?_;exact qj ⟨rfl,H3⟩
end Go.Proofs.YtnalffoigcmnnabGreatDoor
namespace Go.Proofs.YtnalffoigcmnnabGreatDoor
open Go Go.Ae
set_option maxRecDepth 100000
variable {g h:AH} {L R:List SP}
end Go.Proofs.YtnalffoigcmnnabGreatDoor
namespace Go.Proofs.YtnalffoigcmnnabGreatDoor
open Go Go.Ae
set_option maxRecDepth 100000
def jo (x lo hi:Int):Int:=lo+(if x.tmod (hi-lo+1)<0 then x.tmod (hi-lo+1)+(hi-lo+1)else x.tmod (hi-lo+1))
theorem Ja (x:Int) {m:Int} (hm:0<m):-m<x.tmod m∧x.tmod m<m:=by refine⟨?_,Int.tmod_lt_of_pos x hm⟩;have:=Int.tmod_lt_of_pos (-x) hm;rw[Int.neg_tmod]at this;omega
theorem zF (x:Int) {lo hi:Int} (h:lo≤hi):lo≤jo x lo hi∧jo x lo hi≤hi:=by
 have:=Ja x (show 0<hi-lo+1 by omega);unfold jo
 split<;>omega
theorem xh {n:Nat} (hn:1≤n) {x lo hi:Int} {h:AH} (h1:lo≤hi) (h2:-1000000000≤lo) (h3:hi≤1000000000) :
  t_w n 21 [.int .i64 x,.int .i64 lo,.int .i64 hi] h λv h'=>v=.int .i64 (jo x lo hi)∧h'=h:=by
 refine t_e3 (S:=S21) rfl omQ λk hk=>?_;unfold S21;try simp only[iZ]
 simp only[show((1:Nat):Int)=1 from rfl,show((0:Nat):Int)=0 from rfl];have hb:=Ja x (show 0<hi-lo+1 by omega);unfold jo
 repeat' (first |(first |with_reducible refine qZ ?_ |with_reducible refine qJ ?_ |(with_reducible refine qa ?_;try dsimp only) |(with_reducible refine qo ?_;try dsimp only) |(with_reducible refine qS ?_;try dsimp only) |(with_reducible refine qd ?_;try dsimp only) |(with_reducible refine jt ?_;try dsimp only) |with_reducible refine qF ?_ |with_reducible refine qI ?_ |(with_reducible refine qV ?_;try dsimp only) |with_reducible refine qk ?_ |with_reducible refine jX ?_ |with_reducible refine jV ?_ |with_reducible refine qc omQ ?_ |with_reducible refine zQ omQ ?_ |with_reducible refine xd omQ ?_ |with_reducible refine yK omQ ?_ |with_reducible refine zX ?_ |with_reducible refine zC ?_) |with_reducible refine JZ omQ ?_ |(first |with_reducible refine zy (λhc=>?_) (λhc=>?_) |with_reducible refine wP (λhc=>?_) (λhc=>?_) |with_reducible refine wR (λhc=>?_) (λhc=>?_) |with_reducible refine yY (λhc=>?_) (λhc=>?_) |with_reducible refine vU (λhc=>?_) (λhc=>?_) |with_reducible refine yS (λhc=>?_) (λhc=>?_) |with_reducible refine gT (λhc=>?_) (λhc=>?_)))
 all_goals refine qj ⟨?_,rfl⟩
 all_goals congr 1
 all_goals (first |rw[iJ omQ] |rw[iQ omQ])
 all_goals omega
end Go.Proofs.YtnalffoigcmnnabGreatDoor
namespace Go.Proofs.YtnalffoigcmnnabGreatDoor
open Go Go.Ae
set_option maxRecDepth 100000
end Go.Proofs.YtnalffoigcmnnabGreatDoor
namespace Go.Proofs.YtnalffoigcmnnabGreatDoor
open Go Go.Ae
set_option maxRecDepth 100000
theorem qWI {D1 D2:Nat→Prop} {n p q:Nat} (hn:1≤n) {a b:AV} {xs ys:List Int} {h:AH} (S1:Sl D1 h 1 p a (xs.map (.int .u64))) (S2:Sl D2 h 1 q b (ys.map (.int .u64))) (hp:p<1000000000) :
  t_w n 17 [a,b] h λv h'=>v=.bool (decide (xs=ys))∧h'=h:=by
 have hxl:xs.length=p:=by simpa using S1.len
 have hyl:ys.length=q:=by simpa using S2.len
 refine t_e2 (S:=S17) rfl omQ λk hk=>?_;unfold S17;try simp only[iZ]
 refine xW S1 (xW S2 (yS (λhne=>?_) λheq=>?_))
 ·refine qZ (qj ⟨?_,rfl⟩);rw[iV];rintro rfl;exact hne omQ
 ·refine qJ (jN (λm s g=>∃i:Nat,s=(.int .i64 (i:Int),b,a,())∧i≤p∧m=p-i∧g=h∧xs.take i=ys.take i) ?_ (m:=p) (by show p<1000000000;omega) ⟨0,rfl,by omega,by omega,rfl,rfl⟩);rintro m ih s g hih ⟨i,rfl,h1,rfl,rfl,h2⟩;dsimp only;refine xW S1 (zy (λhlt=>qZ ?_) λhge=>qJ (qk (qj ⟨?_,rfl⟩)))
  ·have hi:i<p:=by omega
   refine zJ S1 (x:=.int .u64 xs[i]) (by rw[List.getElem?_map,iW omQ];rfl) ?_;refine zJ S2 (x:=.int .u64 ys[i]) (by rw[List.getElem?_map,iW omQ];rfl) ?_;refine yS (λhne=>qZ (qk (qj ⟨?_,rfl⟩))) λhe=>qJ (qc omQ ?_)
   ·rw[iV];rintro rfl;exact hne rfl
   ·refine hih (p-(i+1)) _ _ omQ ⟨i+1,rfl,by omega,rfl,rfl,?_⟩;rw[List.take_succ_eq_append_getElem omQ,List.take_succ_eq_append_getElem omQ,h2,he]
  ·rw[iG];rw[List.take_of_length_le omQ,List.take_of_length_le omQ]at h2;exact h2
end Go.Proofs.YtnalffoigcmnnabGreatDoor
namespace Go.Proofs.YtnalffoigcmnnabGreatDoor
open Go Go.Ae
set_option maxRecDepth 100000
theorem qX4 {l:List ES} {a b:List AV} {K:AV→Go.Ae.R} {Q:AV→AH→Prop} {neg:Bool} {p:Prop} [Decidable p] (e:xA l a b=some (decide p)) (h1:p→wp (K (.bool (!neg))) Q) (h2:¬p→wp (K (.bool neg)) Q):wp (GG l neg (.agg a) (.agg b) K) Q:=by
 unfold GG;simp only[e,ob];by_cases h:p
 ·have:=h1 h;simpa[h]using this
 ·have:=h2 h;simpa[h]using this
end Go.Proofs.YtnalffoigcmnnabGreatDoor
namespace Go.Proofs.YtnalffoigcmnnabGreatDoor
open Go Go.Ae
set_option maxRecDepth 100000
variable {g h:AH} {L R:List SP}
def AskP (M M':VM):Prop:=M'.sz=M.sz∧M'.K=M.K∧M'.most=M.most∧(M'.need=M.need∨M'.lv=M.lv∧1≤M'.need∧M'.need<M.sz∧zj M'.need M.K=none)
theorem AskP.refl (M:VM):AskP M M:=⟨rfl,rfl,rfl,.inl rfl⟩
theorem KG {M:VM} {p:Int} (h:(qh M p).1.2=0):(qh M p).2=M:=by
 unfold qh at h ⊢
 split
 ·rename_i h1;rw[iJ h1]at h
  split
  ·rfl
  ·rename_i h2;rw[h2]at h;dsimp only at h ⊢
   split
   ·rfl
   ·rename_i h3;rw[h3]at h;cases h
 ·rfl
theorem UY (M:VM) (p:Int):AskP M (qh M p).2:=by
 unfold qh
 split
 ·rename_i h1
  split
  ·exact .refl M
  ·split
   ·exact .refl M
   ·rename_i h3;exact⟨rfl,rfl,rfl,.inr ⟨rfl,h1.1,h1.2,h3⟩⟩
 ·exact .refl M
theorem qvI (M:VM) (b:Int):AskP M (zV M b).2∧((zV M b).1.2.2=0→(zV M b).2=M):=by
 unfold zV
 split
 ·exact⟨.refl M,λ_=>rfl⟩
 ·split
  ·rename_i h1
   split
   ·exact⟨UY M _,λ_=>KG h1⟩
   ·exact⟨UY M _,λ_=>KG h1⟩
  ·rename_i h1;exact⟨UY M _,λh=>absurd h h1⟩
theorem frS_put {most:Nat} {lv:List LvM} {p v:Int}:frS (vn most lv p v).2=frS lv:=by
 cases lv with
 |nil=>rfl
 |cons x r=>obtain⟨c,hc⟩:=G3 (most:=most) (x:=x) (r:=r) (p:=p) (v:=v);rw[hc,ki,ki]
theorem qG9 {most:Nat} {was:List LvM}:∀{cs:List Cl} {lv:List LvM},frS lv=frS was→frS (vO most was lv cs).2=frS was:=by
 intro cs
 induction cs with
 |nil=>intro lv h;exact h
 |cons c cs ih=>
  intro lv h;rw[vr]
  split
  ·exact ih (frS_put.trans h)
  ·rfl
theorem gi {M:VM} {cs:List Cl}:frS (zz M cs).2.lv=frS M.lv:=by
 unfold zz
 split
 ·exact qG9 rfl
 ·rfl
theorem xn {M:VM} {p:Int}:frS (qh M p).2.lv=frS M.lv:=by
 unfold qh
 repeat' split
 all_goals rfl
theorem kE {M:VM} {b:Int}:frS (zV M b).2.lv=frS M.lv:=by
 unfold zV
 repeat' split
 all_goals first |rfl |exact xn
theorem qVo {lv:List LvM} {b:Int}:frS (Jt lv b)≤frS lv+1:=by
 cases lv with
 |nil=>simp[Jt]
 |cons x r=>show frS ((x.1,x.2++[b])::r)≤_;rw[ki,ki,List.length_append];simp;omega
theorem qgh:∀{lv:List LvM} {x:LvM},x∈lv→x.2.length≤frS lv:=by
 intro l
 induction l with
 |nil=>intro x hx;cases hx
 |cons y r ih=>
  intro x hx;rw[ki];rcases List.mem_cons.1 hx with rfl |hx
  ·omega
  ·have:=ih hx;omega
structure jk (M:VM):Prop where
  ok:OkV M
  wd:WdV M
theorem jk.read {M:VM} {p:Int} (G:jk M):jk (qh M p).2:=⟨xm G.ok,G.wd.read2⟩
theorem jk.take {M:VM} {cs:List Cl} (G:jk M) (h:WdC cs):jk (zz M cs).2:=⟨ZX G.ok,G.wd.take h⟩
theorem jk.ask {M:VM} {b:Int} (G:jk M):jk (zV M b).2:=⟨XP G.ok,qvP G.wd⟩
theorem WdC.two {a b:Cl} (ha:0≤a.2∧a.2<18446744073709551616) (hb:0≤b.2∧b.2<18446744073709551616):WdC [a,b]:=by
 intro c hc;rcases List.mem_cons.1 hc with rfl |hc
 ·exact ha
 ·rw[List.mem_singleton]at hc;subst hc;exact hb
theorem WdC.one1 {a:Cl} (ha:0≤a.2∧a.2<18446744073709551616):WdC [a]:=by intro c hc;rw[List.mem_singleton]at hc;subst hc;exact ha
theorem jk.freeV {M:VM} {b:Int} (G:jk M) (hf:frS M.lv<90000):jk (freeV M b):=by
 refine⟨qjB G.ok λx hx=>by have:=qgh hx;omega,G.wd.k,?_⟩;show∀x∈Jt M.lv b,∀c∈x.1,0≤c.2∧c.2<18446744073709551616;have:=G.wd.l;cases hl:M.lv with
 |nil=>intro x hx;cases hx
 |cons y r=>
  rw[hl]at this;intro x hx;rcases List.mem_cons.1 hx with rfl |hx
  ·exact this y (iK ..)
  ·exact this x (iX _ hx)
theorem jk.free {M:VM} {b:Int} (G:jk M) (hf:frS M.lv<90000):jk (vF M b).2∧frS (vF M b).2.lv≤frS M.lv+1:=by
 have hb:=Nc M b;have hc:WdC [(b-1,(zV M b).1.1)]:=.one1 ⟨hb.1,by dsimp only;omega⟩;unfold vF
 repeat' split
 ·refine⟨(G.ask.take hc).freeV (by rw[gi,kE];exact hf),?_⟩;have:=qVo (lv:=(zz (zV M b).2 [(b-1,(zV M b).1.1)]).2.lv) (b:=b);rw[gi,kE]at this;exact this
 ·exact⟨G.ask.take hc,by rw[gi,kE];omega⟩
 ·exact⟨G.ask,by rw[kE];omega⟩
 ·exact⟨G.ask,by rw[kE];omega⟩
theorem jk.give {M:VM} {b:Int} (G:jk M):jk (zG M b).2∧frS (zG M b).2.lv=frS M.lv:=by
 have hb:=Nc M b;have hO:=G.ok.hi;unfold zG
 split
 ·rename_i h1;have hbb:=hb.2.2 h1
  split
  ·exact⟨G.ask,kE⟩
  ·split
   ·refine⟨(G.ask.read).take (.two G.ask.wd.read ⟨by dsimp only;omega,by dsimp only;omega⟩),by rw[gi,xn,kE]⟩
   ·exact⟨G.ask.read,by rw[xn,kE]⟩
 ·exact⟨G.ask,kE⟩
theorem jk.again {M:VM} {c b:Int} (G:jk M) (hc:0≤c∧c≤4):jk (yZ M c b).2∧frS (yZ M c b).2.lv=frS M.lv:=by
 have ht:WdC [(c,(qh M b).1.1),(b-1,c+8)]:=.two G.wd.read ⟨by dsimp only;omega,by dsimp only;omega⟩;unfold yZ
 repeat' split
 ·exact⟨G,rfl⟩
 ·exact⟨G.read.take ht,by rw[gi,xn]⟩
 ·exact⟨G.read.take ht,by rw[gi,xn]⟩
 ·exact⟨G.read,xn⟩
theorem jk.grown {M:VM} {c:Int} (G:jk M) (hc:0≤c∧c≤4):jk (x9 M c).2∧frS (x9 M c).2.lv=frS M.lv:=by
 have hs:=NC c;have hw:=G.wd.read (p:=5);unfold x9
 split
 ·split
  ·exact⟨G.read,xn⟩
  ·rename_i h1;have ht:WdC [(5,(qh M 5).1.1+1+vT c),((qh M 5).1.1,c+8)]:=.two ⟨by dsimp only;omega,by dsimp only;omega⟩ ⟨by dsimp only;omega,by dsimp only;omega⟩
   split
   ·exact⟨G.read.take ht,by rw[gi,xn]⟩
   ·exact⟨G.read.take ht,by rw[gi,xn]⟩
 ·exact⟨G.read,xn⟩
theorem jk.alloc {M:VM} {x:Int} (G:jk M):jk (zu M x).2∧frS (zu M x).2.lv=frS M.lv:=by
 have hc:=Z4 x;unfold zu
 repeat' split
 ·exact⟨G,rfl⟩
 ·exact⟨(G.read.grown hc).1,by rw[(G.read.grown hc).2,xn]⟩
 ·exact⟨(G.read.again hc).1,by rw[(G.read.again hc).2,xn]⟩
 ·exact⟨G.read,xn⟩
theorem jk.openG {M:VM} (G:jk M):jk (y8 M).2∧frS (y8 M).2.lv=frS M.lv:=by
 have e:(ko M.lv).2=M.lv∨(ko M.lv).2=([],[])::M.lv:=by unfold ko;split<;>simp
 refine⟨⟨⟨G.ok.lo,G.ok.hi,qzE G.ok.lvs,G.ok.ins,G.ok.un,?_⟩,G.wd.k,?_⟩,?_⟩
 ·show∀x∈(ko M.lv).2,_;rcases e with e |e
  ·rw[e];exact G.ok.fr
  ·rw[e];intro x hx;rcases List.mem_cons.1 hx with rfl |hx
   ·simp
   ·exact G.ok.fr x hx
 ·show∀x∈(ko M.lv).2,_;rcases e with e |e
  ·rw[e];exact G.wd.l
  ·rw[e];intro x hx;rcases List.mem_cons.1 hx with rfl |hx
   ·intro c hc;cases hc
   ·exact G.wd.l x hx
 ·show frS (ko M.lv).2=_;rcases e with e |e
  ·rw[e]
  ·rw[e,ki];simp
theorem jk.dropG {M:VM} (G:jk M):jk (xO M).2∧frS (xO M).2.lv≤frS M.lv:=by
 have e:(kl M.lv).2=M.lv∨(kl M.lv).2=M.lv.tail:=by unfold kl;split<;>simp
 have hs:∀x∈(kl M.lv).2,x∈M.lv:=by
  rcases e with e |e
  ·rw[e];exact λx hx=>hx
  ·rw[e];exact λx hx=>List.mem_of_mem_tail hx
 refine⟨⟨⟨G.ok.lo,G.ok.hi,qq9 G.ok.lvs,G.ok.ins,G.ok.un,λx hx=>G.ok.fr x (hs x hx)⟩,G.wd.k,λx hx=>G.wd.l x (hs x hx)⟩,?_⟩;show frS (kl M.lv).2≤_;rcases e with e |e
 ·rw[e];exact Nat.le_refl _
 ·rw[e];cases M.lv with
  |nil=>exact Nat.le_refl _
  |cons x r=>rw[ki];show frS r≤_;omega
theorem jk.keepG {M:VM} (G:jk M) (hf:frS M.lv<90000):jk (vA M).2∧frS (vA M).2.lv=frS M.lv:=by
 have hd:=qj4 G.ok.lvs;have hfr:=λx (hx:x∈(Ql M.lv).2)=>qgh hx;obtain⟨sz,K,most,lv,need⟩:=M;rcases lv with _ |⟨x,_ |⟨y,r⟩⟩
 ·exact⟨G,rfl⟩
 ·exact⟨G,rfl⟩
 ·have e:=qWp (x:=x) (y:=y) (r:=r);refine⟨⟨⟨G.ok.lo,G.ok.hi,hd,G.ok.ins,G.ok.un,λz hz=>?_⟩,G.wd.k,λz hz=>?_⟩,e⟩
  ·have:=hfr z hz;rw[e]at this;have hf:frS (x::y::r)<90000:=hf;omega
  ·have hl:=G.wd.l;have hx:WdC x.1:=hl x osQ;have hy:WdC y.1:=hl y osQ;have hz:z∈(yl y.1 x.1,y.2++x.2)::r:=hz;rcases List.mem_cons.1 hz with rfl |hz
   ·exact hy.puts hx
   ·exact hl z (by simp[hz])
end Go.Proofs.YtnalffoigcmnnabGreatDoor
namespace Go.Proofs.YtnalffoigcmnnabGreatDoor
open Go Go.Ae
set_option maxRecDepth 100000
variable {g h:AH} {L R:List SP}
abbrev ItT:Type:=Int×Int
def itS (x:ItT):List UInt8:=if x.1=1 then Lib.decDigits x.2.toNat else if x.1=2 then(if x.2=1 then[121,101,115]else[110,111])else[110,111,110,101]
def Qg (x:ItT):AV:=if x.1=1 then .iface 23 (.int .u64 x.2)else if x.1=2 then .iface 4 (.bool (decide (x.2=1)))else .iface 333 (.agg [])
def qjU (x:ItT):Prop:=0≤x.2∧x.2<18446744073709551616
def qQl (l:List ItT):List UInt8:=Lib.join (l.map itS) [32]
theorem Xa (x:ItT):One (Qg x):=by unfold Qg;(repeat' split)<;>exact⟨rfl,rfl⟩
theorem VG (l:List ItT):qm (l.map Qg)=true:=by unfold qm;rw[List.all_eq_true];intro v hv;obtain⟨x,_,rfl⟩:=List.mem_map.1 hv;exact(Xa x).2
theorem MC {s:List UInt8} {k1 k2:IntKind} {lo hi:Nat} {K:AV→Go.Ae.R} {Q:AV→AH→Prop} (h1:lo≤hi) (h2:hi≤s.length) (w:wp (K (.str ((s.drop lo).take (hi-lo)))) Q):wp (gA (.str s) (some (.int k1 (lo:Int))) (some (.int k2 (hi:Int))) K) Q:=by unfold gA;simp only[xx h2,xx h1,ob,w5];rw[gE (by rw[List.length_drop];omega)];exact w
theorem qzn {n:Nat} (hn:1≤n) {i:Nat} (hi:i<100):t_w n 260 [.int .i64 (i:Int)] h λr h'=>r=.str (Lib.decDigits i)∧h'=h:=by
 (refine qB (g:=W260) rfl omQ λk hk=>?_;show wp (S260 (callT tab qz k) _ _) _;unfold S260;try simp only[iI,uU,iZ])
 by_cases h1:i<10
 ·refine jd omQ (qZ ?_);refine qc omQ ?_;rw[show(i:Int)+((1:Nat):Int)=((i+1:Nat):Int) by omega];refine MC omQ (by show i+1≤36;omega) (qj ⟨?_,rfl⟩);rw[← Lib.digits36_piece h1]
  congr 2
 ·refine jH omQ (qJ ?_);refine Kn omQ (Kn omQ (qc omQ ?_));rw[show(i:Int)*((2:Nat):Int)+((2:Nat):Int)=((i*2+2:Nat):Int) by omega,show(i:Int)*((2:Nat):Int)=((i*2:Nat):Int) by omega];refine MC omQ (by show i*2+2≤200;omega) (qj ⟨?_,rfl⟩);rw[← Lib.smalls_piece h1 hi]
  congr 2
theorem nd_ok {n:Nat} (hn:1≤n) {u:Nat} (h1:1≤u) (h2:u<18446744073709551616):t_w n 261 [.int .u64 (u:Int)] h λr h'=>r=.int .i64 (Lib.nDigits u:Int)∧h'=h:=by refine qB (g:=W261) rfl omQ λk hk=>?_;show wp (xNd _ [.int .u64 (.ofNat u)] h) _;unfold xNd;dsimp only;rw[iY h1,iY (show u+1≤18446744073709551616 by omega)];exact⟨_,_,rfl,rfl,rfl⟩
theorem qjD:∀(bs:List UInt8),qG5 (bs.map λc=>.int .u8 (.ofNat c.toNat))=some bs:=by
 intro bs
 induction bs with
 |nil=>rfl
 |cons b bs ih=>rw[List.map_cons];unfold qG5;rw[ih,iY (show b.toNat+1≤256 from b.toNat_lt)];simp
theorem fb_ok {n:Nat} (hn:1≤n) {b u nd:Nat} {bs:List UInt8} {ys:List AV} (H:HS g h (qg b ((bs.map λc=>.int .u8 (.ofNat c.toNat))++ys)::R)) (hb:bs.length=nd) (h1:u<10 ^ nd) (h2:u<18446744073709551616) (h3:nd≤100) (hys:qm ys=true) :
  t_w n 262 [.slice b 0 nd 24 false,.int .u64 (u:Int)] h λr h'=>HS g h' (qg b (dgs nd u++ys)::R):=by
 refine qB (g:=W262) rfl omQ λk hk=>?_;show wp (xFb _ [.slice b 0 nd 24 false,.int .u64 (.ofNat u)] h) _;obtain⟨D,⟨hD,e,A⟩,hb2,kk⟩:=H.act;obtain⟨c,c1,c2,c3⟩:=A.blk;unfold xFb;simp only[c1,c2];rw[List.take_append_of_le_length (by simp;omega),List.take_of_length_le (by simp;omega),qjD];simp only[];rw[show Nat.beq bs.length nd=true from by rw[hb];exact Nat.beq_refl _,iY (show u+1≤10 ^ nd by omega),iY (show u+1≤18446744073709551616 by omega),iY h3];simp only[Bool.and_self,cond_true];rw[List.drop_append_of_le_length (by simp;omega),List.drop_of_length_le (by simp;omega),List.nil_append];refine⟨_,_,rfl,kk _ (qg b (dgs nd u++ys)) D ⟨by simp,λa ha hn=>AH.get_put_ne h _ λe=>hn ((hD a).2 e.symm)⟩ ⟨hD,e,by simpa using A.lt,CT.ofList _,AH.get_put_same ..,CT.ofList_ok _,CT.full_ofList _⟩ λa ha=>⟨.inl ha,by simpa using(hb2 a ha).2⟩⟩
theorem qZ5:∀(xs:List (List UInt8)),Kx (xs.map .str)=some xs:=by
 intro xs
 induction xs with
 |nil=>rfl
 |cons x xs ih=>rw[List.map_cons];unfold Kx;rw[ih];rfl
theorem qvp {n:Nat} (hn:1≤n) {b m:Nat} {e:TypeId} {xs:List (List UInt8)} {sep:List UInt8} (H:HS g h (Cell b (xs.map .str) e false::R)) (hm:xs.length=m) (h1:m≤1000000) (h2:(Lib.join xs sep).length≤1000000) :
  t_w n 93 [.slice b 0 m m false,.str sep] h λr h'=>r=.str (Lib.join xs sep)∧h'=h:=by
 refine qB (g:=W93) rfl omQ λk hk=>?_;show wp (Ze _ [.slice b 0 m m false,.str sep] h) _;obtain⟨D,hD,A⟩:=H.p .here;obtain⟨c,c1,c2,c3⟩:=A.blk;unfold Ze;simp only[c1,c2,List.drop_zero];rw[List.take_of_length_le (by simp;omega),qZ5];simp only[];rw[show Nat.beq xs.length m=true from by rw[hm];exact Nat.beq_refl _,iY (Nat.le_refl m),iY h1,iY h2];exact⟨_,_,rfl,rfl,rfl⟩
theorem qGS (nd u:Nat):Qy (dgs nd u)=some ((List.range nd).map λt=>Lib.dg u (nd-1-t)):=by
 unfold dgs;have key:∀l:List Nat,Qy (l.map λt=>AV.int .u8 (.ofNat (Lib.dg u (nd-1-t)).toNat))=some (l.map λt=>Lib.dg u (nd-1-t)):=by
  intro l
  induction l with
  |nil=>rfl
  |cons a l ih=>rw[List.map_cons];unfold Qy;rw[ih];simp
 exact key _
theorem qKp {n:Nat} (hn:2≤n) {u:Nat} (h2:u<18446744073709551616) (H:HS g h R):t_w n 195 [.int .u64 (u:Int),.int .i64 10] h λr h'=>r=.str (Lib.decDigits u)∧HS g h' R:=by
 refine t_e2 (S:=S195) rfl omQ λk hk=>?_;unfold S195;try simp only[iZ]
 refine qx rfl (qZ ?_);by_cases h1:u<100
 ·refine jd omQ (qZ ?_);refine xF omQ ?_;refine qG (qzn omQ h1) ?_;rintro _ _ ⟨rfl,rfl⟩;exact qj ⟨rfl,H⟩
 ·refine jH omQ (qJ ?_);refine qO H rfl λb h3 H3=>?_;have hnd:=Lib.nDigits_le20 u h2;have hpos:=Lib.nDigits_pos u;have hlt:=Lib.lt_pow_nDigits u;have hdec:=Lib.decDigits_eq u;refine qG (nd_ok omQ omQ h2) ?_;generalize Lib.nDigits u=nd at*;have H4:HS g h3 (qg b (((List.replicate nd (0:UInt8)).map λc=>.int .u8 (.ofNat c.toNat))++List.replicate (24-nd) (.int .u8 (.ofNat 0)))::R):=by
   have e:(List.replicate nd (0:UInt8)).map (λc=>AV.int .u8 (.ofNat c.toNat))++List.replicate (24-nd) (AV.int .u8 (.ofNat 0))=List.replicate 24 (AV.int .u8 (.ofNat 0)):=by rw[List.map_replicate];show List.replicate nd (AV.int .u8 (.ofNat 0))++_=_;rw[List.replicate_append_replicate,show nd+(24-nd)=24 by omega]
   rw[e];exact H3
  rintro _ _ ⟨rfl,rfl⟩;have hcut:∀(K:AV→Go.Ae.R) (Q:AV→AH→Prop),wp (K (.slice b 0 nd 24 false)) Q→wp (gn 24 1 (.ptr b 0) none (some (.int .i64 (nd:Int))) K) Q:=by intro K Q w;unfold gn;simp only[xx (show nd≤24 by omega),ob,show yE none nd 0=some 0 from rfl];exact w
  refine hcut _ _ ?_;refine qG (fb_ok omQ H4 osQ hlt h2 omQ (by unfold qm;rw[List.all_eq_true];intro y hy;rw[List.eq_of_mem_replicate hy];rfl)) ?_;intro _ h5 H5;refine hcut _ _ ?_;obtain⟨e,A⟩:=H5.obj .here;unfold Vh;dsimp only;rw[U5 A (by simp[Q7]),List.drop_zero,List.take_append_of_le_length (by rw[Q7];exact Nat.le_refl _),List.take_of_length_le (by rw[Q7];exact Nat.le_refl _)];simp only[ob,qGS];exact qj ⟨by rw[hdec],H5.drop⟩
theorem qZl {n:Nat} (hn:3≤n) {u:Int} (h0:0≤u) (h2:u<18446744073709551616) (H:HS g h R):t_w n 139 [.int .u64 u,.int .i64 10] h λr h'=>r=.str (Lib.decDigits u.toNat)∧HS g h' R:=by
 refine t_e2 (S:=S139) rfl omQ λk hk=>?_;unfold S139;try simp only[iZ]
 obtain⟨m,rfl⟩:∃m:Nat,u=m:=⟨u.toNat,by omega⟩;refine qG (qKp omQ (u:=m) omQ H) ?_;rintro _ h3 ⟨rfl,H3⟩;exact qj ⟨rfl,H3⟩
theorem qZ9 {t:TypeId} {z x:AV} {K:AV→Go.Ae.R} {Q:AV→AH→Prop} (w:wp (K (.tup [x,.bool true])) Q):wp (yX t z (.iface t x) K) Q:=by show wp (bif Nat.beq t t then _ else _) Q;rw[Nat.beq_refl];exact w
theorem Oq {t u:TypeId} {z x:AV} {K:AV→Go.Ae.R} {Q:AV→AH→Prop} (h:Nat.beq u t=false) (w:wp (K (.tup [z,.bool false])) Q):wp (yX t z (.iface u x) K) Q:=by show wp (bif Nat.beq u t then _ else _) Q;rw[h];exact w
theorem qkM {n:Nat} (hn:4≤n) {x:ItT} (hx:qjU x) (H:HS g h R):t_w n 92 [Qg x] h λr h'=>r=.str (itS x)∧HS g h' R:=by
 (refine qB (g:=W92) rfl omQ λk hk=>?_;show wp (S92 (callT tab qz k) _ _) _;unfold S92;try simp only[iI,uU,iZ])
 unfold Qg itS;by_cases h1:x.1=1
 ·rw[iJ h1,iJ h1];refine qZ9 (qA rfl (qA rfl (qZ ?_)));refine qG (qZl omQ hx.1 hx.2 H) ?_;rintro _ h3 ⟨rfl,H3⟩;exact qj ⟨rfl,H3⟩
 ·rw[iQ h1,iQ h1];by_cases h2:x.1=2
  ·rw[iJ h2,iJ h2];refine Oq rfl ?_;refine qA rfl (qA rfl (qJ ?_));refine qZ9 (qA rfl (qA rfl (qZ ?_)));by_cases h3:x.2=1
   ·rw[iG h3,iJ h3];exact qZ (qj ⟨rfl,H⟩)
   ·rw[iV h3,iQ h3];exact qJ (qj ⟨rfl,H⟩)
  ·rw[iQ h2,iQ h2];refine Oq rfl ?_;refine qA rfl (qA rfl (qJ ?_));refine Oq rfl ?_;exact qA rfl (qA rfl (qJ (qj ⟨rfl,H⟩)))
theorem qxO (x:ItT) (hx:qjU x):(itS x).length≤20:=by
 unfold itS;have h1:=hx.1;have h2:=hx.2
 split
 ·rw[Lib.decDigits_length];exact Lib.nDigits_le20 _ omQ
 ·split
  ·split<;>decide
  ·decide
theorem qqT {m:Nat}:∀(xs:List (List UInt8)),(∀x∈xs,x.length≤m)→(Lib.join xs [32]).length≤xs.length*(m+1):=by
 intro xs hx;cases xs with
 |nil=>simp[Lib.join_nil]
 |cons x r=>
  rw[Lib.join_cons,List.length_append];have h1:=hx x (iK ..);have h2:∀r:List (List UInt8),(∀x∈r,x.length≤m)→(Lib.joinTail [32] r).length≤r.length*(m+1):=by
   intro r
   induction r with
   |nil=>intro _;simp[Lib.joinTail]
   |cons y r ih=>intro h;have a:=h y (iK ..);have b:=ih λz hz=>h z (iX _ hz);unfold Lib.joinTail at*;simp only[List.map_cons,List.flatten_cons,List.length_append,List.length_cons,List.length_nil,Nat.add_mul];omega
  have h3:=h2 r λz hz=>hx z (iX _ hz);rw[List.length_cons,Nat.add_mul];omega
theorem qz1 {l:List ItT} (hl:l.length≤1000) (hi:∀x∈l,qjU x):(qQl l).length≤1000000:=by unfold qQl;have:=qqT (m:=20) (l.map itS) (λy hy=>by obtain⟨x,hx,rfl⟩:=List.mem_map.1 hy;exact qxO x (hi x hx));rw[List.length_map]at this;omega
theorem qYF {e:TypeId} {z:AV} {n:Nat} {k1 k2:IntKind} {K2:AV→AH→Go.Ae.R} {Q:AV→AH→Prop} (H:HS g h L) (h2:n≤1073741824)
  (w:∀b h',HS g h' (Cell b (List.replicate n z) e false::L)→wp (K2 (.slice b 0 n n false) h') Q):wp (Qx h e [z] (.int k1 (n:Int)) (.int k2 (n:Int)) K2) Q:=by
 refine Ov (Nat.le_refl n) h2 λb h' hb A F=>w b h' (H.add (D':=λa=>a=b) F.none ⟨λa=>Iff.rfl,by rw[UL]at A;exact A⟩ ?_);rintro a rfl;exact⟨hb,A.lt⟩
def SlaC (o:Nat) (l:List ItT):SP:=.ex λsv=>.all [qg o [sv],qy 20 1 l.length sv (l.map Qg)]
theorem SlaC.E {o:Nat} {l:List ItT} (H:HS g h (SlaC o l::R)):∃sv,HS g h (qg o [sv]::qy 20 1 l.length sv (l.map Qg)::R):=by obtain⟨sv,H⟩:=H.exE;exact⟨sv,H.allE⟩
theorem SlaC.I {o:Nat} {l:List ItT} {sv:AV} (H:HS g h (qg o [sv]::qy 20 1 l.length sv (l.map Qg)::R)):HS g h (SlaC o l::R):=HS.exI sv H.allI
theorem qXr {n:Nat} (hn:5≤n) {o:Nat} {l:List ItT} (H:HS g h (SlaC o l::R)) (hl:l.length≤1000) (hi:∀x∈l,qjU x) :
  t_w n 49 [.ptr o 0] h λr h'=>r=.str (qQl l)∧HS g h' (SlaC o l::R):=by
 (refine qB (g:=W49) rfl omQ λk hk=>?_;show wp (S49 (callT tab qz k) _ _) _;unfold S49;try simp only[iI,uU,iZ])
 obtain⟨sv,H⟩:=SlaC.E H;refine qW (qQ (qK ‹_› .here rfl ?_));refine qi ‹_› e_1 ?_;refine qYF (n:=l.length) H omQ λb h2 H2=>?_;refine qW (qQ (qK ‹_› e_1 rfl ?_));refine qi ‹_› e_2 ?_
 refine jN (λm s h'=>∃i:Nat,s=(.int .i64 (i:Int),.int .i64 (l.length:Int),sv,.slice b 0 l.length l.length false,())∧i≤l.length∧m=l.length-i∧
  HS g h' (Cell b (((l.take i).map λx=>.str (itS x))++List.replicate (l.length-i) (.str [])) 9 false::qg o [sv]::qy 20 1 l.length sv (l.map Qg)::R))
  ?_ (m:=l.length) (by show _<1000000000;omega) ⟨0,rfl,by omega,by omega,H2⟩
 clear H H2;rintro m ih s h3 hih ⟨i,rfl,h1,rfl,H⟩;dsimp only;by_cases hlt:i<l.length
 ·refine jd omQ (qZ ?_);refine zJ (H.sl e_2) (x:=Qg l[i]) (by rw[List.getElem?_map,iW hlt];rfl) ?_;refine qG (qkM omQ (hi _ (List.getElem_mem hlt)) H) ?_;rintro _ h4 ⟨rfl,H4⟩;refine Xd (k:=.i64) hlt ?_;refine qqR H4 rfl (by simp;omega) rfl λh5 H5=>?_;refine qc omQ (hih (l.length-(i+1)) _ _ omQ ⟨i+1,rfl,by omega,rfl,?_⟩);have e:we (((l.take i).map λx=>AV.str (itS x))++List.replicate (l.length-i) (.str [])) (0+i*1) (AV.str (itS l[i])).cells=((l.take (i+1)).map λx=>AV.str (itS x))++List.replicate (l.length-(i+1)) (.str []):=by
   rw[Nat.zero_add,Nat.mul_one];show we _ i [AV.str (itS l[i])]=_;rw[J9 (by simp;omega),List.take_add_one,iW hlt,List.map_append,show l.length-i=(l.length-(i+1))+1 by omega,List.replicate_succ,List.set_append_right _ _ (by simp;omega)];have hz:i-((l.take i).map λx=>AV.str (itS x)).length=0:=by simp;omega
   rw[hz,List.set_cons_zero,List.append_assoc];rfl
  rw[e]at H5;exact H5
 ·obtain rfl:i=l.length:=by omega
  refine jH omQ (qJ ?_);rw[Nat.sub_self,List.take_length,List.replicate_zero,List.append_nil]at H;have H2:HS g h3 (Cell b ((l.map itS).map .str) 9 false::qg o [sv]::qy 20 1 l.length sv (l.map Qg)::R):=by rw[List.map_map];exact H
  refine qG (qvp omQ H2 osQ omQ (qz1 hl hi)) ?_;rintro _ _ ⟨rfl,rfl⟩;exact qk (qj ⟨rfl,SlaC.I H.drop⟩)
end Go.Proofs.YtnalffoigcmnnabGreatDoor
namespace Go.Proofs.YtnalffoigcmnnabGreatDoor
open Go Go.Ae
structure PtM where
  op:Int
  pc:Int
  regs:List Int
  told:Nat
structure IM where
  regs:List Int
  out:List ItT
  pc:Int
  opn:List PtM
structure SM where
  e:Int
  nx:Int
  blk:Bool
  s:IM
  v:VM
def setR (s:IM) (i v:Int):IM:={ s with regs:=s.regs.set i.toNat v }
def yP (b off:Int):Int×Int:=if 2147483648≤b∨2147483648≤b+off∨b+off<6 then(0,2)else(b+off,0)
def YJ (p:Prop) [Decidable p]:Int:=if p then 1 else 0
def jS (s:IM) (V:VM) (x:qR):Int×IM×VM :=
 if x.1=8 then
  (if(yP (qM s.regs x.2.2.1) x.2.2.2.1).2=0 then
   (if(qh V (yP (qM s.regs x.2.2.1) x.2.2.2.1).1).1.2=0 then(0,setR s x.2.1 (qh V (yP (qM s.regs x.2.2.1) x.2.2.2.1).1).1.1,(qh V (yP (qM s.regs x.2.2.1) x.2.2.2.1).1).2)
    else((qh V (yP (qM s.regs x.2.2.1) x.2.2.2.1).1).1.2,s,(qh V (yP (qM s.regs x.2.2.1) x.2.2.2.1).1).2))
  else(2,s,V))
 else if x.1=9 then
  (if(yP (qM s.regs x.2.1) x.2.2.2.1).2=0 then((zz V [((yP (qM s.regs x.2.1) x.2.2.2.1).1,qM s.regs x.2.2.1)]).1,s,(zz V [((yP (qM s.regs x.2.1) x.2.2.2.1).1,qM s.regs x.2.2.1)]).2)
  else(2,s,V))
 else if x.1=10 then
  (if 2147483648≤qM s.regs x.2.2.1 then(3,s,V)
  else if(zu V (qM s.regs x.2.2.1)).1.2=0 then(0,setR s x.2.1 (zu V (qM s.regs x.2.2.1)).1.1,(zu V (qM s.regs x.2.2.1)).2)
  else((zu V (qM s.regs x.2.2.1)).1.2,s,(zu V (qM s.regs x.2.2.1)).2))
 else
  (if 2147483648≤qM s.regs x.2.1 then(2,s,V)else((vF V (qM s.regs x.2.1)).1,s,(vF V (qM s.regs x.2.1)).2))
def zB (op at_ nx:Int) (s:IM) (V:VM):SM :=
 if(y8 V).1=0 then⟨0,nx,false,{ s with opn:=⟨op,at_,s.regs,s.out.length⟩::s.opn },(y8 V).2⟩else⟨(y8 V).1,nx,false,s,(y8 V).2⟩
def QA (s:IM) (p:PtM):IM:={ s with regs:=p.regs,out:=s.out.take p.told }
def yn (mt:List Int):List PtM→IM→VM→SM
 |[],s,V=>⟨0,s.pc,true,{ s with opn:=[] },V⟩
 |p::o,s,V=>
  if(xO V).1=0 then
   (if p.op=17 then zB 18 (qM mt p.pc) (qM mt p.pc+1) { QA s p with opn:=o } (xO V).2
   else yn mt o s (xO V).2)
  else⟨(xO V).1,s.pc+1,false,{ s with opn:=o },(xO V).2⟩
def Up (o:List PtM):PtM:=(o.head?).getD ⟨0,0,[0,0,0,0,0,0,0,0],0⟩
def wZ (mt:List Int) (s:IM) (V:VM) (op:Int):SM :=
 if op=14∨op=17 then zB op s.pc (s.pc+1) s V
 else if op=15∨op=19 then⟨(vA V).1,s.pc+1,false,{ s with opn:=s.opn.tail },(vA V).2⟩
 else if op=18 then⟨(vA V).1,qM mt s.pc+1,false,{ s with opn:=s.opn.tail },(vA V).2⟩
 else if op=16 then⟨(xO V).1,qM mt s.pc+1,false,{ QA s (Up s.opn)with opn:=s.opn.tail },(xO V).2⟩
 else yn mt s.opn s V
def doM (mt:List Int) (s:IM) (V:VM) (x:qR):SM :=
 if x.1=1 then⟨0,s.pc+1,false,setR s x.2.1 x.2.2.2.2,V⟩
 else if x.1=2 then⟨0,s.pc+1,false,setR s x.2.1 (qM s.regs x.2.2.1),V⟩
 else if x.1=3 then⟨0,s.pc+1,false,setR s x.2.1 (zL .u64 (qM s.regs x.2.2.1+qM s.regs x.2.2.2.1)),V⟩
 else if x.1=4 then⟨0,s.pc+1,false,setR s x.2.1 (zL .u64 (qM s.regs x.2.2.1-qM s.regs x.2.2.2.1)),V⟩
 else if x.1=5 then⟨0,s.pc+1,false,setR s x.2.1 (zL .u64 (qM s.regs x.2.2.1*qM s.regs x.2.2.2.1)),V⟩
 else if x.1=6 then⟨0,s.pc+1,false,setR s x.2.1 (YJ (qM s.regs x.2.2.1<qM s.regs x.2.2.2.1)),V⟩
 else if x.1=7 then⟨0,s.pc+1,false,setR s x.2.1 (YJ (qM s.regs x.2.2.1=qM s.regs x.2.2.2.1)),V⟩
 else if x.1=12 then⟨0,x.2.2.2.1,false,s,V⟩
 else if x.1=13 then⟨0,if qM s.regs x.2.1=0 then x.2.2.2.1 else s.pc+1,false,s,V⟩
 else if x.1=21 then(if 16≤s.out.length then⟨5,s.pc+1,false,s,V⟩else⟨0,s.pc+1,false,{ s with out:=s.out++[(1,qM s.regs x.2.1)] },V⟩)
 else if x.1=22 then⟨13,s.pc+1,false,s,V⟩
 else if x.1=8∨x.1=9∨x.1=10∨x.1=11 then⟨(jS s V x).1,s.pc+1,false,(jS s V x).2.1,(jS s V x).2.2⟩
 else wZ mt s V x.1
structure RM where
  kind:Int
  err:Int
  left:Nat
  s:IM
  v:VM
def jg (l:List qR) (mt:List Int):Nat→IM→VM→RM
 | 0,s,V=>if s.pc=l.length then⟨2,0,0,s,V⟩else⟨4,6,0,s,V⟩
 |n+1,s,V=>
  if s.pc=l.length then⟨2,0,n+1,s,V⟩
  else if(doM mt s V (qP l s.pc)).e=0 then
   (if(doM mt s V (qP l s.pc)).blk=true then⟨3,0,n,{ (doM mt s V (qP l s.pc)).s with pc:=(doM mt s V (qP l s.pc)).nx },(doM mt s V (qP l s.pc)).v⟩
   else jg l mt n { (doM mt s V (qP l s.pc)).s with pc:=(doM mt s V (qP l s.pc)).nx } (doM mt s V (qP l s.pc)).v)
  else if(doM mt s V (qP l s.pc)).e=11 then⟨1,0,n+1,(doM mt s V (qP l s.pc)).s,(doM mt s V (qP l s.pc)).v⟩
  else⟨4,(doM mt s V (qP l s.pc)).e,n+1,(doM mt s V (qP l s.pc)).s,(doM mt s V (qP l s.pc)).v⟩
theorem gw {l:List qR} {mt:List Int} {s:IM} {V:VM}:jg l mt 0 s V=if s.pc=l.length then⟨2,0,0,s,V⟩else⟨4,6,0,s,V⟩:=rfl
theorem gu {l:List qR} {mt:List Int} {n:Nat} {s:IM} {V:VM}:jg l mt (n+1) s V=if s.pc=l.length then⟨2,0,n+1,s,V⟩
  else if(doM mt s V (qP l s.pc)).e=0 then
   (if(doM mt s V (qP l s.pc)).blk=true then⟨3,0,n,{ (doM mt s V (qP l s.pc)).s with pc:=(doM mt s V (qP l s.pc)).nx },(doM mt s V (qP l s.pc)).v⟩
   else jg l mt n { (doM mt s V (qP l s.pc)).s with pc:=(doM mt s V (qP l s.pc)).nx } (doM mt s V (qP l s.pc)).v)
  else if(doM mt s V (qP l s.pc)).e=11 then⟨1,0,n+1,(doM mt s V (qP l s.pc)).s,(doM mt s V (qP l s.pc)).v⟩
  else⟨4,(doM mt s V (qP l s.pc)).e,n+1,(doM mt s V (qP l s.pc)).s,(doM mt s V (qP l s.pc)).v⟩:=rfl
theorem Vv {l:List qR} {mt:List Int} {s:IM} {V:VM} (h0:s.pc=l.length):∀n,jg l mt n s V=⟨2,0,n,s,V⟩:=by
 intro n;cases n with
 |zero=>rw[gw,iJ h0]
 |succ n=>rw[gu,iJ h0]
def qE (l:List qR):Nat→List Int
 | 0=>[]
 |i+1=>jZ (qE l i) i (qP l i).1
theorem xi {l:List qR} {i:Nat} (h:i<l.length):qP l (i:Int)=l[i]:=by unfold qP;rw[Int.toNat_natCast,iW h];rfl
theorem jz {l:List qR} {i:Nat}:qE l (i+1)=jZ (qE l i) i (qP l i).1:=rfl
theorem qqd {l:List qR}:∀(d i:Nat) {st':List Int},i+d=l.length→goM l (l.drop i) i (qE l i)=.inr st'→(∀j,i≤j→j<l.length→zc l (qE l j) (qP l j)=0)∧qE l l.length=st':=by
 intro d
 induction d with
 |zero=>
  intro i st' hi h;obtain rfl:i=l.length:=by omega
  rw[List.drop_length]at h;cases h;exact⟨λj h1 h2=>by omega,rfl⟩
 |succ d ih=>
  intro i st' hi h;have hlt:i<l.length:=by omega
  rw[Gq hlt]at h
  split at h
  ·rename_i hw;obtain⟨a,b⟩:=ih (i+1) (st':=st') omQ (by rw[jz,xi hlt];exact h);refine⟨λj h1 h2=>?_,b⟩;by_cases hj:j=i
   ·subst hj;rw[xi hlt];exact hw
   ·exact a j omQ h2
  ·cases h
theorem MQ {l:List qR}:∀(d i:Nat),i+d=l.length→∀k,i+k<l.length→(vC (l.drop i) i (qE l i))[k]? =some (qt (qE l (i+k))):=by
 intro d
 induction d with
 |zero=>intro i hi k hk;omega
 |succ d ih=>
  intro i hi k hk;have hlt:i<l.length:=by omega
  rw[Mg hlt];cases k with
  |zero=>rfl
  |succ k=>rw[List.getElem?_cons_succ];have:=ih (i+1) omQ k omQ;rw[jz,xi hlt]at this;rw[show i+(k+1)=i+1+k by omega];exact this
structure Fit (l:List qR):Prop where
  pos:0<l.length
  le:l.length≤40
  ok:∀j,j<l.length→zc l (qE l j) (qP l j)=0
  nil:qE l l.length=[]
  reg:∀j,j<l.length→(vC l 0 [])[j]? =some (qt (qE l j))
  jump:∀j,j<l.length→¬Jo l (vC l 0 []) j (qP l j)
theorem qKi {l:List qR} {a:List Int}:∀(d i:Nat),i+d=l.length→(Js l a (l.drop i) i).2=0→∀j,i≤j→j<l.length→¬Jo l a j (qP l j):=by
 intro d
 induction d with
 |zero=>intro i hi _ j h1 h2;omega
 |succ d ih=>
  intro i hi h j h1 h2;have hlt:i<l.length:=by omega
  rw[Yj hlt]at h
  split at h
  ·cases h
  ·rename_i hn;by_cases hj:j=i
   ·subst hj;rw[xi hlt];exact hn
   ·exact ih (i+1) omQ h j omQ h2
theorem QM {l:List qR} (h:(xB l).2=0):Fit l:=by
 have hg:=U3 h;obtain⟨a,b⟩:=qqd (l:=l) l.length 0 (st':=[]) omQ hg;unfold xB at h
 split at h
 ·cases h
 ·rename_i h0;rw[hg]at h;dsimp only at h;rw[iJ rfl]at h
  exact⟨by omega,by omega,λj hj=>a j (Nat.zero_le _) hj,b,λj hj=>by
   have:=MQ (l:=l) l.length 0 omQ j omQ;rw[Nat.zero_add]at this
   exact this,λj hj=>qKi l.length 0 omQ h j (Nat.zero_le _) hj⟩
def Rises (i:Nat) (st:List Int):Prop:=StOk i st∧st.Pairwise (· < ·)
theorem KP {l:List qR}:∀i,Rises i (qE l i):=by
 intro i
 induction i with
 |zero=>exact⟨StOk.nil,List.Pairwise.nil⟩
 |succ i ih=>
  refine⟨ih.1.behind,?_⟩;rw[jz];have hd:(qE l i).dropLast.Pairwise (· < ·):=ih.2.sublist (List.dropLast_sublist _);have hp:∀st:List Int,StOk i st→st.Pairwise (· < ·)→(st++[(i:Int)]).Pairwise (· < ·):=by intro st h1 h2;rw[List.pairwise_append];refine⟨h2,List.pairwise_singleton ..,λa ha b hb=>?_⟩;rw[List.mem_singleton]at hb;subst hb;exact(h1 a ha).2
  unfold jZ
  repeat' split
  ·exact hp _ ih.1.dropLast hd
  ·exact hp _ ih.1 ih.2
  ·exact hd
  ·exact ih.2
theorem Ma {l:List qR}:∀(i k p:Nat),(qE l i)[k]? =some (p:Int)→qE l (p+1)=(qE l i).take (k+1):=by
 intro i
 induction i with
 |zero=>intro k p h;simp[qE]at h
 |succ i ih=>
  intro k p h;have key:∀st:List Int,(∀k p:Nat,st[k]? =some (p:Int)→qE l (p+1)=st.take (k+1))→qE l (i+1)=st++[(i:Int)]→qE l (p+1)=(qE l (i+1)).take (k+1):=by
   intro st hst he;rw[he]at h ⊢;by_cases hk:k<st.length
   ·rw[List.getElem?_append_left hk]at h;rw[hst k p h,List.take_append_of_le_length omQ]
   ·have hk2:k=st.length:=by
     have:=(List.getElem?_eq_some_iff.1 h).1;simp at this;omega
    subst hk2;rw[List.getElem?_append_right (Nat.le_refl _),Nat.sub_self]at h;simp at h;have:p=i:=by omega
    subst this;rw[he,List.take_of_length_le osQ]
  have hdrop:∀k p:Nat,(qE l i).dropLast[k]? =some (p:Int)→qE l (p+1)=(qE l i).dropLast.take (k+1):=by
   intro k p h;have hk:=(List.getElem?_eq_some_iff.1 h).1;have hk2:k+1≤(qE l i).length-1:=by have:=hk;simp at this;omega
   have h2:(qE l i)[k]? =some (p:Int):=by
    rw[List.getElem?_dropLast]at h
    split at h
    ·exact h
    ·cases h
   rw[ih k p h2,List.dropLast_eq_take,List.take_take,Nat.min_eq_left hk2]
  by_cases hb:z7 (qP l i).1=true∨(qP l i).1=18
  ·by_cases he:0<jr (qP l i).1
   ·exact key _ hdrop (by rw[jz];unfold jZ;rw[iJ hb,iJ he])
   ·exact key _ ih (by rw[jz];unfold jZ;rw[iJ hb,iQ he])
  ·by_cases he:0<jr (qP l i).1
   ·have e:qE l (i+1)=(qE l i).dropLast:=by rw[jz];unfold jZ;rw[iQ hb,iJ he]
    rw[e]at h ⊢;exact hdrop k p h
   ·have e:qE l (i+1)=qE l i:=by rw[jz];unfold jZ;rw[iQ hb,iQ he]
    rw[e]at h ⊢;exact ih k p h
theorem vG {l:List qR} {i:Nat} (h:qE l i≠[]):∃p:Nat,qt (qE l i)=p∧p<i∧(qE l i)[(qE l i).length-1]? =some (p:Int)∧qE l (p+1)=qE l i:=by
 have hb:=(KP (l:=l) i).1.inmost h;obtain⟨p,hp⟩:∃p:Nat,qt (qE l i)=p:=⟨(qt (qE l i)).toNat,by omega⟩;have hl:0<(qE l i).length:=List.length_pos_iff.2 h;have hk:(qE l i)[(qE l i).length-1]? =some (p:Int):=by rw[← hp];unfold qt;rw[← List.getLast?_eq_getElem?,List.getLast?_eq_some_getLast h];rfl
 refine⟨p,hp,by omega,hk,?_⟩;rw[Ma i _ p hk,List.take_of_length_le omQ]
theorem qYS {l:List qR} {i j:Nat} (h:qt (qE l i)=qt (qE l j)):qE l i=qE l j:=by
 by_cases hi:qE l i=[]
 ·by_cases hj:qE l j=[]
  ·rw[hi,hj]
  ·obtain⟨p,h1,_⟩:=vG hj;rw[hi,Yv,h1]at h;omega
 ·obtain⟨p,h1,_,_,h2⟩:=vG hi;by_cases hj:qE l j=[]
  ·rw[hj,Yv,h1]at h;omega
  ·obtain⟨q,h3,_,_,h4⟩:=vG hj;have:p=q:=by omega
   subst this;rw[← h2,← h4]
def mt1 (l:List qR) (A:List Int):Nat→List Int
 | 0=>List.replicate l.length (-1)
 |i+1=>if 0<jr (qP l i).1 then(mt1 l A i).set (qM A i).toNat i else mt1 l A i
def mt2 (l:List qR) (A:List Int):Nat→List Int
 | 0=>mt1 l A l.length
 |i+1=>if(qP l i).1=16 then(mt2 l A i).set i (qM (mt2 l A i) (qM A i))else mt2 l A i
def qL (l:List qR):List Int:=mt2 l (vC l 0 []) l.length
theorem qgm {l:List qR} {A:List Int} {i:Nat}:mt1 l A (i+1)=if 0<jr (qP l i).1 then(mt1 l A i).set (qM A i).toNat i else mt1 l A i:=rfl
theorem qj6 {l:List qR} {A:List Int} {i:Nat}:mt2 l A (i+1)=if(qP l i).1=16 then(mt2 l A i).set i (qM (mt2 l A i) (qM A i))else mt2 l A i:=rfl
theorem Nu {l:List qR} {A:List Int}:∀i,(mt1 l A i).length=l.length:=by
 intro i
 induction i with
 |zero=>simp[mt1]
 |succ i ih=>rw[qgm];split<;>simp[ih]
theorem Ne {l:List qR} {A:List Int}:∀i,(mt2 l A i).length=l.length:=by
 intro i
 induction i with
 |zero=>exact Nu _
 |succ i ih=>rw[qj6];split<;>simp[ih]
theorem qVm (l:List qR):(qL l).length=l.length:=Ne _
theorem wz {l:List qR} (F:Fit l) {j:Nat} (h:j<l.length):qM (vC l 0 []) (j:Int)=qt (qE l j):=by unfold qM;rw[Int.toNat_natCast,F.reg j h];rfl
theorem qzP {l:List qR} {p:Nat}:∀(d i:Nat),p<i→(p:Int)∉qE l i→(p:Int)∉qE l (i+d):=by
 intro d
 induction d with
 |zero=>intro i _ h;exact h
 |succ d ih=>
  intro i hp h;have h2:=ih i hp h;rw[show i+(d+1)=i+d+1 by omega,jz];have hd:(p:Int)∉(qE l (i+d)).dropLast:=λhm=>h2 ((List.dropLast_sublist _).subset hm);unfold jZ
  repeat' split
  all_goals first |exact hd |exact h2 |skip
  ·intro hm;rcases List.mem_append.1 hm with hm |hm
   ·exact hd hm
   ·rw[List.mem_singleton]at hm;omega
  ·intro hm;rcases List.mem_append.1 hm with hm |hm
   ·exact h2 hm
   ·rw[List.mem_singleton]at hm;omega
theorem Ka {st:List Int} {p:Int} (h:st.Pairwise (· < ·)) (hn:st≠[]) (hp:qt st=p):p∉st.dropLast:=by
 have e:st=st.dropLast++[p]:=by have:=List.dropLast_concat_getLast hn;rw[show st.getLast hn=p by rw[← hp];unfold qt;rw[List.getLast?_eq_some_getLast hn];rfl]at this;exact this.symm
 rw[e,List.pairwise_append]at h;intro hm;have:=h.2.2 p hm p (List.mem_singleton_self _);omega
theorem qq3 {l:List qR} {p j:Nat} (he:0<jr (qP l j).1) (hn:qE l j≠[]) (hp:qt (qE l j)=p):(p:Int)∉qE l (j+1):=by
 have h1:=Ka (KP (l:=l) j).2 hn hp;have h2:=(KP (l:=l) j).1.inmost hn;rw[jz];unfold jZ;rw[iJ he]
 split
 ·intro hm;rcases List.mem_append.1 hm with hm |hm
  ·exact h1 hm
  ·rw[List.mem_singleton]at hm;omega
 ·exact h1
theorem yz {l:List qR} {st:List Int} {x:qR} (h:zc l st x=0):vR x=true∧(0<jr x.1→opM l st=jr x.1)∧(x.1=16→opM l st=14)∧(z7 x.1=true→st.length<5):=by
 have h0:=xv h;unfold zc at h;rw[iQ (by rw[h0.1];simp)]at h
 split at h
 ·cases h
 ·rename_i h2
  split at h
  ·cases h
  ·rename_i h3;refine⟨h0.1,λhe=>?_,λhe=>?_,h0.2.2⟩
   ·exact Classical.not_not.1 λhh=>h2 ⟨he,hh⟩
   ·exact Classical.not_not.1 λhh=>h3 ⟨he,hh⟩
theorem VL {l:List qR} {i:Nat} {p:Nat} (hn:qE l i≠[]) (hp:qt (qE l i)=p):opM l (qE l i)=(qP l p).1:=by unfold opM;rw[iQ hn,hp]
theorem K6 {l:List qR} (F:Fit l) {p:Nat} (hp:p<l.length) (ho:(qP l p).1=14∨(qP l p).1=17∨(qP l p).1=18) :
  ∃e:Nat,p<e∧e<l.length∧jr (qP l e).1=(qP l p).1∧qE l e≠[]∧qt (qE l e)=p∧
   ∀j,j<l.length→0<jr (qP l j).1→qt (qE l j)=p→j=e:=by
 have hin:(p:Int)∈qE l (p+1):=by rw[jz];unfold jZ;rw[iJ (by unfold z7;rcases ho with h |h |h<;>rw[h]<;>decide)];exact List.mem_append_right _ (List.mem_singleton_self _)
 have key:∀d i,p<i→i+d=l.length→(p:Int)∈qE l i→∃e,i≤e∧e<l.length∧(p:Int)∈qE l e∧(p:Int)∉qE l (e+1):=by
  intro d
  induction d with
  |zero=>
   intro i _ hi hm;obtain rfl:i=l.length:=by omega
   rw[F.nil]at hm;cases hm
  |succ d ih=>
   intro i hpi hi hm;by_cases h:(p:Int)∈qE l (i+1)
   ·obtain⟨e,h1,h2⟩:=ih (i+1) omQ omQ h;exact⟨e,by omega,h2⟩
   ·exact⟨i,Nat.le_refl _,by omega,hm,h⟩
 obtain⟨e,h1,h2,h3,h4⟩:=key (l.length-(p+1)) (p+1) omQ omQ hin;have hne:qE l e≠[]:=λh=>by rw[h]at h3;cases h3
 have hend:0<jr (qP l e).1:=by
  apply Classical.not_not.1;intro hn;apply h4;rw[jz];unfold jZ;rw[iQ hn]
  split
  ·exact List.mem_append_left _ h3
  ·exact h3
 have hinm:qt (qE l e)=p:=by
  apply Classical.not_not.1;intro hn;apply h4;have hd:(p:Int)∈(qE l e).dropLast:=by
   have hd:=List.dropLast_concat_getLast hne;rw[← hd]at h3;rcases List.mem_append.1 h3 with h |h
   ·exact h
   ·rw[List.mem_singleton]at h;exfalso;apply hn;unfold qt;rw[List.getLast?_eq_some_getLast hne,h];rfl
  rw[jz];unfold jZ;rw[iJ hend]
  split
  ·exact List.mem_append_left _ hd
  ·exact hd
 have hw:=(yz (F.ok e h2)).2.1 hend;rw[VL hne hinm]at hw;refine⟨e,by omega,h2,hw.symm,hne,hinm,λj hj hje hjp=>?_⟩;have hjn:qE l j≠[]:=(xv (F.ok j hj)).2.1 (.inl hje);have hpj:p<j:=by have:=(KP (l:=l) j).1.inmost hjn;omega
 rcases Nat.lt_trichotomy j e with h |h |h
 ·exfalso;have:=qzP (l:=l) (e-(j+1)) (j+1) omQ (qq3 hje hjn hjp);rw[show j+1+(e-(j+1))=e by omega]at this;exact this h3
 ·exact h
 ·exfalso;have h5:=qzP (l:=l) (j-(e+1)) (e+1) omQ h4;rw[show e+1+(j-(e+1))=j by omega]at h5;apply h5;rw[← hjp];unfold qt;rw[List.getLast?_eq_some_getLast hjn];exact List.getLast_mem hjn
theorem qq7 {l:List qR} (F:Fit l) {p e:Nat} (hp:p<l.length) (he:e<l.length) (hee:0<jr (qP l e).1) (hi:qt (qE l e)=p)
  (hu:∀j,j<l.length→0<jr (qP l j).1→qt (qE l j)=p→j=e):∀i,e<i→i≤l.length→(mt1 l (vC l 0 []) i)[p]? =some (e:Int):=by
 intro i
 induction i with
 |zero=>intro h;omega
 |succ i ih=>
  intro h1 h2;rw[qgm];by_cases hie:i=e
  ·subst hie;rw[iJ hee,wz F he,hi,Int.toNat_natCast,List.getElem?_set_self (by rw[Nu];exact hp)]
  ·split
   ·rename_i hx;rw[wz F omQ,List.getElem?_set_ne]
    ·exact ih omQ omQ
    ·intro hh;have hjn:qE l i≠[]:=(xv (F.ok i omQ)).2.1 (.inl hx);have:=(KP (l:=l) i).1.inmost hjn;exact hie (hu i omQ hx omQ)
   ·exact ih omQ omQ
theorem qzb {l:List qR} (F:Fit l) {p:Nat} (hp:(qP l p).1≠16):∀i,(mt2 l (vC l 0 []) i)[p]? =(mt1 l (vC l 0 []) l.length)[p]?:=by
 intro i
 induction i with
 |zero=>rfl
 |succ i ih=>
  rw[qj6]
  split
  ·rename_i hx;rw[List.getElem?_set_ne,ih];rintro rfl;exact hp hx
  ·exact ih
theorem qYP {l:List qR} (F:Fit l) {u:Nat} (hu:u<l.length) (ho:(qP l u).1=16):∀i,u<i→(mt2 l (vC l 0 []) i)[u]? =some (qM (mt2 l (vC l 0 []) u) (qt (qE l u))):=by
 intro i
 induction i with
 |zero=>intro h;omega
 |succ i ih=>
  intro h;rw[qj6];by_cases hi:i=u
  ·subst hi;rw[iJ ho,List.getElem?_set_self (by rw[Ne];exact hu),wz F hu]
  ·split
   ·rw[List.getElem?_set_ne hi];exact ih omQ
   ·exact ih omQ
theorem gZ {l:List qR} (F:Fit l) {p:Nat} (hp:p<l.length) (ho:(qP l p).1=14∨(qP l p).1=17∨(qP l p).1=18) :
  ∃e:Nat,qM (qL l) (p:Int)=e∧p<e∧e<l.length∧jr (qP l e).1=(qP l p).1∧qE l e=qE l (p+1):=by
 obtain⟨e,h1,h2,h3,h4,h5,h6⟩:=K6 F hp ho;refine⟨e,?_,h1,h2,h3,?_⟩
 ·unfold qM qL;rw[Int.toNat_natCast,qzb F (by rcases ho with h |h |h<;>rw[h]<;>decide),qq7 F hp h2 (by rw[h3];rcases ho with h |h |h<;>rw[h]<;>decide) h5 h6 l.length h2 (Nat.le_refl _)];rfl
 ·obtain⟨q,g1,_,_,g2⟩:=vG h4;have:q=p:=by omega
  subst this;exact g2.symm
theorem kb {l:List qR} (F:Fit l) {u:Nat} (hu:u<l.length) (ho:(qP l u).1=16) :
  ∃e:Nat,qM (qL l) (u:Int)=e∧e<l.length∧(qP l e).1=15∧qE l e=qE l u∧qE l u≠[]:=by
 have hn:qE l u≠[]:=(xv (F.ok u hu)).2.1 (.inr ho);obtain⟨q,g1,g2,_,g3⟩:=vG hn;have hw:=(yz (F.ok u hu)).2.2.1 ho;rw[VL hn g1]at hw;obtain⟨e,h1,h2,h3,h4,h5,h6⟩:=K6 F (p:=q) omQ (.inl hw);have e0:qM (mt2 l (vC l 0 []) u) (q:Int)=e:=by unfold qM;rw[Int.toNat_natCast,qzb F (by rw[hw];decide),qq7 F omQ h2 (by rw[h3,hw];decide) h5 h6 l.length h2 (Nat.le_refl _)];rfl
 refine⟨e,?_,h2,?_,?_,hn⟩
 ·unfold qL;rw[qM,Int.toNat_natCast,qYP F hu ho l.length hu,g1,e0];rfl
 ·rw[hw]at h3;unfold jr at h3
  repeat' split at h3
  all_goals first |assumption |omega
 ·obtain⟨q2,k1,_,_,k2⟩:=vG h4;have:q2=q:=by omega
  subst this;rw[← k2,g3]
end Go.Proofs.YtnalffoigcmnnabGreatDoor
namespace Go.Proofs.YtnalffoigcmnnabGreatDoor
open Go Go.Ae
structure JF (M M':VM):Prop where
  sz:M'.sz=M.sz
  K:M'.K=M.K
  most:M'.most=M.most
  len:M'.lv.length=M.lv.length
def JN (M M':VM):Prop:=M'.lv=M.lv∧1≤M'.need∧M'.need<M.sz∧zj M'.need M.K=none
theorem JF.refl (M:VM):JF M M:=⟨rfl,rfl,rfl,rfl⟩
theorem JF.trans {M N Q:VM} (a:JF M N) (b:JF N Q):JF M Q:=⟨b.sz.trans a.sz,b.K.trans a.K,b.most.trans a.most,b.len.trans a.len⟩
theorem xk (M:VM) (p:Int):JF M (qh M p).2:=by
 unfold qh
 repeat' split
 all_goals exact⟨rfl,rfl,rfl,rfl⟩
theorem kL {M:VM} {p:Int} (h:(qh M p).1.2=11):JN M (qh M p).2:=by
 unfold qh at h ⊢
 split
 ·rename_i h1;rw[iJ h1]at h
  split
  ·rename_i h2;rw[h2]at h;cases h
  ·rename_i h2;rw[h2]at h;dsimp only at h ⊢
   split
   ·rename_i h3;rw[h3]at h;cases h
   ·rename_i h3;exact⟨rfl,h1.1,h1.2,h3⟩
 ·rename_i h1;rw[iQ h1]at h;cases h
theorem qve {most:Nat} {lv:List LvM} {p v:Int}:(vn most lv p v).1=0∨(vn most lv p v).1=2∨(vn most lv p v).1=5:=by
 unfold vn
 repeat' split
 all_goals simp
theorem qGU {most:Nat} {was:List LvM}:∀{cs:List Cl} {lv:List LvM},(vO most was lv cs).1=0∨(vO most was lv cs).1=2∨(vO most was lv cs).1=5:=by
 intro cs
 induction cs with
 |nil=>intro lv;exact .inl rfl
 |cons c cs ih=>
  intro lv;rw[vr]
  split
  ·exact ih
  ·exact qve
theorem qWr {M:VM} {cs:List Cl}:(zz M cs).1=0∨(zz M cs).1=2∨(zz M cs).1=5:=by
 unfold zz
 split
 ·exact qGU
 ·exact .inr (.inl rfl)
theorem GX {M:VM} {cs:List Cl} (h:(zz M cs).1=11):False:=by have:=qWr (M:=M) (cs:=cs);omega
theorem gJ {M:VM} {cs:List Cl} (O:OkV M):JF M (zz M cs).2:=by
 unfold zz
 split
 ·exact⟨rfl,rfl,rfl,(ZI O.lvs O.lvs rfl).2⟩
 ·exact .refl M
theorem Zj (M:VM) (b:Int):JF M (zV M b).2:=by
 unfold zV
 repeat' split
 all_goals first |exact .refl M |exact xk M _
theorem qQD {M:VM} {b:Int} (h:(zV M b).1.2.2=11):JN M (zV M b).2:=by
 unfold zV at h ⊢
 split
 ·rename_i h1;rw[iJ h1]at h;cases h
 ·rename_i h1;rw[iQ h1]at h
  split
  ·rename_i h2;rw[iJ h2]at h
   split
   ·rename_i h3;rw[iJ h3]at h;cases h
   ·rename_i h3;rw[iQ h3]at h;cases h
  ·rename_i h2;rw[iQ h2]at h;exact kL h
theorem freeL_len {lv:List LvM} {b:Int}:(Jt lv b).length=lv.length:=by cases lv<;>rfl
theorem qVI {M:VM} {b:Int} (O:OkV M):JF M (vF M b).2:=by
 have ha:=Zj M b;unfold vF
 repeat' split
 ·have ht:=ha.trans (gJ (cs:=[(b-1,(zV M b).1.1)]) (XP (b:=b) O));exact⟨ht.sz,ht.K,ht.most,freeL_len.trans ht.len⟩
 ·exact ha.trans (gJ (XP O))
 ·exact ha
 ·exact ha
theorem qKs {M:VM} {b:Int} (h:(vF M b).1=11):JN M (vF M b).2:=by
 unfold vF at h ⊢
 split
 ·rename_i h1;rw[iJ h1]at h
  split
  ·rename_i h2;rw[iJ h2]at h
   split
   ·rename_i h3;rw[iJ h3]at h;cases h
   ·rename_i h3;rw[iQ h3]at h;exact(GX h).elim
  ·rename_i h2;rw[iQ h2]at h;cases h
 ·rename_i h1;rw[iQ h1]at h;exact qQD h
theorem qJc {M:VM} {c b:Int} (O:OkV M):JF M (yZ M c b).2:=by
 unfold yZ
 repeat' split
 ·exact .refl M
 ·exact(xk M _).trans (gJ (xm O))
 ·exact(xk M _).trans (gJ (xm O))
 ·exact xk M _
theorem qZE {M:VM} {c b:Int} (h:(yZ M c b).1.2=11):JN M (yZ M c b).2:=by
 unfold yZ at h ⊢
 split
 ·rename_i h1;rw[iJ h1]at h;cases h
 ·rename_i h1;rw[iQ h1]at h
  split
  ·rename_i h2;rw[iJ h2]at h
   split
   ·rename_i h3;rw[iJ h3]at h;cases h
   ·rename_i h3;rw[iQ h3]at h;exact(GX h).elim
  ·rename_i h2;rw[iQ h2]at h;exact kL h
theorem qJD {M:VM} {c:Int} (O:OkV M):JF M (x9 M c).2:=by
 unfold x9
 repeat' split
 ·exact xk M _
 ·exact(xk M _).trans (gJ (xm O))
 ·exact(xk M _).trans (gJ (xm O))
 ·exact xk M _
theorem qJ6 {M:VM} {c:Int} (h:(x9 M c).1.2=11):JN M (x9 M c).2:=by
 unfold x9 at h ⊢
 split
 ·rename_i h1;rw[iJ h1]at h
  split
  ·rename_i h2;rw[iJ h2]at h;cases h
  ·rename_i h2;rw[iQ h2]at h
   split
   ·rename_i h3;rw[iJ h3]at h;cases h
   ·rename_i h3;rw[iQ h3]at h;exact(GX h).elim
 ·rename_i h1;rw[iQ h1]at h;exact kL h
theorem VZ {M:VM} {x:Int} (O:OkV M):JF M (zu M x).2:=by
 unfold zu
 repeat' split
 ·exact .refl M
 ·exact(xk M _).trans (qJD (xm O))
 ·exact(xk M _).trans (qJc (xm O))
 ·exact xk M _
theorem qJS {M:VM} {x:Int} (h:(zu M x).1.2=11):JN M (zu M x).2:=by
 unfold zu at h ⊢
 split
 ·rename_i h1;rw[iJ h1]at h;cases h
 ·rename_i h1;rw[iQ h1]at h
  split
  ·rename_i h2;rw[iJ h2]at h;have e:=KG h2
   split
   ·rename_i h3;rw[iJ h3,e]at h;rw[e];exact qJ6 h
   ·rename_i h3;rw[iQ h3,e]at h;rw[e];exact qZE h
  ·rename_i h2;rw[iQ h2]at h;exact kL h
theorem qXo {M:VM} {x:Int} (W:WdV M) (h:(zu M x).1.2=0):0≤(zu M x).1.1∧(zu M x).1.1≤2147483648:=by
 have hs:=NC (xL x);unfold zu at h ⊢
 split
 ·rename_i h1;rw[iJ h1]at h;cases h
 ·rename_i h1;rw[iQ h1]at h
  split
  ·rename_i h2;rw[iJ h2]at h;have hr:=W.read (p:=xL x)
   split
   ·rename_i h3;rw[iJ h3]at h;have hr2:=(W.read2 (p:=xL x)).read (p:=5);unfold x9 at h ⊢
    split
    ·rename_i h4;rw[iJ h4]at h
     split
     ·rename_i h5;rw[iJ h5]at h;cases h
     ·rename_i h5
      split
      ·dsimp only;omega
      ·show(0:Int)≤0∧(0:Int)≤2147483648;omega
    ·show(0:Int)≤0∧(0:Int)≤2147483648;omega
   ·rename_i h3;rw[iQ h3]at h;unfold yZ at h ⊢
    split
    ·rename_i h4;rw[iJ h4]at h;cases h
    ·split
     ·split
      ·dsimp only;omega
      ·show(0:Int)≤0∧(0:Int)≤2147483648;omega
     ·show(0:Int)≤0∧(0:Int)≤2147483648;omega
  ·show(0:Int)≤0∧(0:Int)≤2147483648;omega
structure Jy (r:List Int):Prop where
  len:r.length=8
  bd:∀z∈r,0≤z∧z<18446744073709551616
theorem Jy.at {r:List Int} (h:Jy r) (i:Int):0≤qM r i∧qM r i<18446744073709551616:=by
 unfold qM;cases hi:r[i.toNat]? with
 |none=>show(0:Int)≤0∧(0:Int)<18446744073709551616;omega
 |some z=>exact h.bd z (List.mem_of_getElem? hi)
theorem Jy.set {r:List Int} {i v:Int} (h:Jy r) (hv:0≤v∧v<18446744073709551616):Jy (r.set i.toNat v) :=
 ⟨by rw[List.length_set];exact h.len,λz hz=>by
  rcases List.mem_or_eq_of_mem_set hz with hz |rfl
  ·exact h.bd z hz
  ·exact hv⟩
structure PtOk (l:List qR) (p:PtM):Prop where
  regs:Jy p.regs
  pc:∃k:Nat,p.pc=k∧k<l.length
  op:(p.op=14∨p.op=17∨p.op=18)∧(qP l p.pc).1=p.op
def ToldD:Nat→List PtM→Prop
 |_,[]=>True
 |n,p::r=>p.told≤n∧ToldD p.told r
theorem ToldD.mono:∀{o:List PtM} {n n':Nat},n≤n'→ToldD n o→ToldD n' o:=by
 intro o;cases o with
 |nil=>intro _ _ _ _;trivial
 |cons p r=>intro n n' h h2;exact⟨Nat.le_trans h2.1 h,h2.2⟩
structure GB (s:IM):Prop where
  regs:Jy s.regs
  out:s.out.length≤16
  its:∀x∈s.out,qjU x
structure GI (l:List qR) (s:IM) (V:VM):Prop where
  gb:GB s
  pc:∃k:Nat,s.pc=k∧k≤l.length
  pts:∀p∈s.opn,PtOk l p
  told:ToldD s.out.length s.opn
  stk:s.opn.map (·.pc)=(qE l s.pc.toNat).reverse
  lv:V.lv.length=s.opn.length+1
  good:jk V
theorem qXt (z:Int):0≤zL .u64 z∧zL .u64 z<18446744073709551616:=by
  cases z with
  | ofNat a => show (0 : Int) ≤ Int.ofNat (a % 18446744073709551616) ∧ Int.ofNat (a % 18446744073709551616) < 18446744073709551616
               rw[iZ];omega
  | negSucc a => show (0 : Int) ≤ Int.ofNat (18446744073709551615 - a % 18446744073709551616) ∧ Int.ofNat (18446744073709551615 - a % 18446744073709551616) < 18446744073709551616
                 rw[iZ];omega
theorem qXR (p:Prop) [Decidable p]:0≤YJ p∧YJ p<18446744073709551616:=by unfold YJ;split<;>omega
theorem GB.setR {s:IM} {i v:Int} (h:GB s) (hv:0≤v∧v<18446744073709551616):GB (setR s i v):=⟨h.regs.set hv,h.out,h.its⟩
structure Yp (l:List qR) (s:IM) (V:VM) (r:SM):Prop where
  gb:GB r.s
  good:jk r.v
  fr:frS r.v.lv≤frS V.lv+1
  sz:r.v.sz=V.sz
  K:r.v.K=V.K
  most:r.v.most=V.most
  next:r.e=0→r.blk=false→GI l { r.s with pc:=r.nx } r.v
  need:r.e=11→r.s=s∧JN V r.v
  bl:r.blk=true→r.e=0
theorem qJ5 {l:List qR} {i:Nat} (h1:z7 (qP l i).1=false) (h2:(qP l i).1≠18) (h3:jr (qP l i).1=0):qE l (i+1)=qE l i:=by rw[jz];unfold jZ;rw[iQ (by rw[h1];simp[h2]),iQ omQ]
theorem GI.plain {l:List qR} {s s':IM} {V V':VM} {i:Nat} (G:GI l s V) (hi:s.pc=i) (hlt:i<l.length) (h1:z7 (qP l i).1=false) (h2:(qP l i).1≠18) (h3:jr (qP l i).1=0)
  (gb:GB s') (ho:s'.opn=s.opn) (hl:s.out.length≤s'.out.length) (hv:V'.lv.length=V.lv.length) (hg:jk V'):GI l { s' with pc:=s.pc+1 } V':=by
 refine⟨⟨gb.regs,gb.out,gb.its⟩,⟨i+1,by show s.pc+1=_;omega,by omega⟩,by show∀p∈s'.opn,_;rw[ho];exact G.pts,by show ToldD s'.out.length s'.opn;rw[ho];exact G.told.mono hl,?_,by show V'.lv.length=s'.opn.length+1;rw[ho,hv];exact G.lv,hg⟩;show s'.opn.map _=(qE l (s.pc+1).toNat).reverse;rw[ho,hi,show((i:Int)+1).toNat=i+1 by omega,qJ5 h1 h2 h3,G.stk,hi,Int.toNat_natCast]
theorem VS {l:List qR} {s:IM} {V:VM} {op:Int} {p:Nat} {st:List Int} (gb:GB s) (hp:p<l.length) (ho:(op=14∨op=17∨op=18)∧(qP l (p:Int)).1=op) (pts:∀p∈s.opn,PtOk l p) (told:ToldD s.out.length s.opn)
  (hst:s.opn.map (·.pc)=st.reverse) (hs2:qE l (p+1)=st++[(p:Int)]) (lv:V.lv.length=s.opn.length+1) (hd:s.opn.length<5) (G:jk V) :
  (zB op p ((p:Int)+1) s V).e=0∧(zB op p ((p:Int)+1) s V).blk=false∧(zB op p ((p:Int)+1) s V).nx=(p:Int)+1∧GI l { (zB op p ((p:Int)+1) s V).s with pc:=(p:Int)+1 } (zB op p ((p:Int)+1) s V).v∧
   (zB op p ((p:Int)+1) s V).v=(y8 V).2:=by
 have h0:(y8 V).1=0∧(y8 V).2.lv=([],[])::V.lv:=by unfold y8 ko;rw[iQ omQ];exact⟨rfl,rfl⟩
 unfold zB;rw[iJ h0.1];refine⟨rfl,rfl,rfl,⟨⟨gb.regs,gb.out,gb.its⟩,⟨p+1,rfl,by omega⟩,?_,⟨Nat.le_refl _,told⟩,?_,?_,G.openG.1⟩,rfl⟩
 ·intro q hq;rcases List.mem_cons.1 hq with rfl |hq
  ·exact⟨gb.regs,⟨p,rfl,hp⟩,ho⟩
  ·exact pts q hq
 ·show(p:Int)::s.opn.map _=(qE l ((p:Int)+1).toNat).reverse;rw[hst,show((p:Int)+1).toNat=p+1 by omega,hs2,List.reverse_append];rfl
 ·show(y8 V).2.lv.length=_;rw[h0.2,List.length_cons,lv];rfl
theorem Mw {V:VM} (h:2≤V.lv.length):(xO V).1=0∧(xO V).2.lv=V.lv.tail:=by unfold xO kl;rw[iQ omQ];exact⟨rfl,rfl⟩
theorem V9 {V:VM} (h:2≤V.lv.length):(vA V).1=0∧(vA V).2.lv.length+1=V.lv.length:=by
 unfold vA
 match hl:V.lv,h with
 |[],h=>simp at h
 |[x],h=>simp at h
 |x::y::r,_=>exact⟨rfl,by simp[Ql]⟩
theorem ToldD.tail {n:Nat} {p:PtM} {o:List PtM} (h:ToldD n (p::o)):ToldD n o:=h.2.mono h.1
theorem Yp.plain {l:List qR} {s s':IM} {V V':VM} {i:Nat} {e:Int} (G:GI l s V) (hi:s.pc=i) (hlt:i<l.length) (h1:z7 (qP l i).1=false) (h2:(qP l i).1≠18) (h3:jr (qP l i).1=0)
  (gb:GB s') (ho:s'.opn=s.opn) (hl:s.out.length≤s'.out.length) (hk:JF V V') (hg:jk V') (hf:frS V'.lv≤frS V.lv+1) (hn:e=11→s'=s∧JN V V'):Yp l s V ⟨e,s.pc+1,false,s',V'⟩ :=
 ⟨gb,hg,hf,hk.sz,hk.K,hk.most,λ_ _=>G.plain hi hlt h1 h2 h3 gb ho hl hk.len hg,hn,λh=>(by cases h)⟩
theorem qJH {l:List qR} (F:Fit l) {i:Nat} (hlt:i<l.length) (ho:(qP l i).1=12∨(qP l i).1=13):∃c:Nat,(qP l i).2.2.2.1=c∧c≤l.length∧qE l c=qE l i:=by
 have hm:=(yz (F.ok i hlt)).1;have hj:=F.jump i hlt;generalize qP l i=x at*;have hc:0≤x.2.2.2.1∧x.2.2.2.1≤40:=by
  unfold vR jF vP at hm;simp only[Bool.and_eq_true,decide_eq_true_eq]at hm;have:=hm.1.2;rcases ho with h |h
  ·rw[iQ omQ,iQ omQ,iQ omQ,iQ omQ,iJ h]at this;exact this
  ·rw[iQ omQ,iQ omQ,iQ omQ,iQ omQ,iQ omQ,iJ h]at this;exact this
 obtain⟨c,hcc⟩:∃c:Nat,x.2.2.2.1=c:=⟨x.2.2.2.1.toNat,by omega⟩;refine⟨c,hcc,?_⟩;unfold Jo at hj;rw[hcc]at hj;have hle:c≤l.length:=by
  rcases Nat.lt_or_ge l.length c with h |h
  ·exact absurd ⟨ho,.inl omQ⟩ hj
  ·exact h
 refine⟨hle,?_⟩;by_cases he:c=l.length
 ·subst he;rw[F.nil];have:qM (vC l 0 []) (i:Int)= -1:=Classical.not_not.1 λh=>hj ⟨ho,.inr (.inl ⟨rfl,h⟩)⟩;rw[wz F hlt]at this
  exact(Classical.not_not.1 λh=>by
   have:=(KP (l:=l) i).1.inmost (λh'=>h h'.symm)
   omega:[]=qE l i)
 ·have:qM (vC l 0 []) (c:Int)=qM (vC l 0 []) (i:Int):=Classical.not_not.1 λh=>hj ⟨ho,.inr (.inr ⟨by omega,h⟩)⟩;rw[wz F hlt,wz F omQ]at this;exact qYS this
theorem Ub {l:List qR} (F:Fit l):∀i,i≤l.length→(qE l i).length≤5:=by
 intro i
 induction i with
 |zero=>intro _;simp[qE]
 |succ i ih=>
  intro h;have h1:=ih omQ;have hw:=yz (F.ok i omQ);rw[jz];unfold jZ
  repeat' split
  ·rename_i hb he;have hne:qE l i≠[]:=(xv (F.ok i omQ)).2.1 (.inl he);have:=List.length_pos_iff.2 hne;simp;omega
  ·rename_i hb he;rcases hb with hb |hb
   ·have:=hw.2.2.2 hb;simp;omega
   ·exact absurd (by rw[hb];decide) he
  ·simp;omega
  ·exact h1
theorem Jd {o:List PtM} {p:PtM} {st:List Int} (h:(p::o).map (·.pc)=st.reverse):st=st.dropLast++[p.pc]∧o.map (·.pc)=st.dropLast.reverse:=by
 have e:st=o.reverse.map (·.pc)++[p.pc]:=by have:=congrArg List.reverse h;rw[List.reverse_reverse]at this;rw[← this,List.map_cons,List.reverse_cons,List.map_reverse]
 have e2:st.dropLast=o.reverse.map (·.pc):=by rw[e,List.dropLast_concat]
 refine⟨by rw[e2];exact e,?_⟩;rw[e2,List.map_reverse,List.reverse_reverse]
def PreP (l:List qR) (st:List Int):Prop:=∀k p:Nat,st[k]? =some (p:Int)→qE l (p+1)=st.take (k+1)
theorem PreP.dropLast {l:List qR} {st:List Int} (h:PreP l st):PreP l st.dropLast:=by
 intro k p hk;have h1:=(List.getElem?_eq_some_iff.1 hk).1;have h2:k+1≤st.length-1:=by have:=h1;simp at this;omega
 rw[List.getElem?_dropLast]at hk
 split at hk
 ·rw[h k p hk,List.dropLast_eq_take,List.take_take,Nat.min_eq_left h2]
 ·cases hk
theorem GB.back {l:List qR} {s:IM} {p:PtM} (g:GB s) (h:PtOk l p):GB (QA s p):=⟨h.regs,by
 show(s.out.take p.told).length≤16;have:=g.out
 simp;omega,λx hx=>g.its x (List.mem_of_mem_take hx)⟩
theorem qzi {l:List qR} {st:List Int} (hp:PreP l st) {o:List PtM} {p:PtM} {q:Nat} (h:(p::o).map (·.pc)=st.reverse) (hq:p.pc=q):qE l (q+1)=st:=by
 have e:=(Jd h).1;have hl:st.length=st.dropLast.length+1:=by have:=congrArg List.length e;simpa using this
 have:=hp st.dropLast.length q (by rw[e,hq];simp);rw[this,List.take_of_length_le omQ]
theorem qJf {l:List qR} (F:Fit l) {s0:IM} {V0:VM}:∀(o:List PtM) (s:IM) (V:VM) (st:List Int),PreP l st→o.map (·.pc)=st.reverse→GB s→(∀p∈o,PtOk l p)→ToldD s.out.length o→V.lv.length=o.length+1→jk V→
  frS V.lv≤frS V0.lv→V.sz=V0.sz→V.K=V0.K→V.most=V0.most→Yp l s0 V0 (yn (qL l) o s V):=by
 intro o
 induction o with
 |nil=>intro s V st hp hm gb _ _ hlv G hf h1 h2 h3;exact⟨⟨gb.regs,gb.out,gb.its⟩,G,by show frS V.lv≤_;omega,h1,h2,h3,λ_ h=>(by cases h),λh=>(by cases h),λ_=>rfl⟩
 |cons p o ih=>
  intro s V st hp hm gb pts told hlv G hf h1 h2 h3;have hd:=Mw (V:=V) (by rw[hlv];simp);have hdG:=G.dropG;have hlv2:(xO V).2.lv.length=o.length+1:=by rw[hd.2,List.length_tail,hlv];simp
  have hmt:=Jd hm;unfold yn;rw[iJ hd.1]
  split
  ·rename_i hop;have P:=pts p (iK ..);obtain⟨q,hq,hql⟩:=P.pc;have hqo:(qP l (q:Int)).1=17:=by rw[← hq,P.op.2,hop]
   obtain⟨e,e1,e2,e3,e4,e5⟩:=gZ F hql (.inr (.inl hqo));have hst:=qzi hp hm hq;have heo:(qP l (e:Int)).1=18:=by
    rw[hqo]at e4;unfold jr at e4
    repeat' split at e4
    all_goals first |assumption |omega
   have hst2:qE l (e+1)=st.dropLast++[(e:Int)]:=by rw[jz,e5,hst];unfold jZ;rw[iJ (.inr heo),iJ (by rw[heo];decide)]
   have h5:=Ub F e omQ;rw[e5,hst]at h5;have hl5:st.length=st.dropLast.length+1:=by have:=congrArg List.length hmt.1;simpa using this
   have hol:o.length=st.dropLast.length:=by have:=congrArg List.length hmt.2;simpa using this
   have gb2:GB { QA s p with opn:=o }:=⟨(gb.back P).regs,(gb.back P).out,(gb.back P).its⟩;have told2:ToldD (s.out.take p.told).length o:=by rw[List.length_take,Nat.min_eq_left told.1];exact told.2
   have key:=VS (l:=l) (s:={ QA s p with opn:=o }) (V:=(xO V).2) (op:=18) (p:=e) (st:=st.dropLast) gb2 e3 ⟨.inr (.inr rfl),heo⟩ (λr hr=>pts r (iX _ hr)) told2 hmt.2 hst2 hlv2 (by show o.length<5;omega) hdG.1;rw[hq,e1];obtain⟨k1,k2,k3,k4,k5⟩:=key;have hoG:=hdG.1.openG;refine⟨k4.gb |> λg=>⟨g.regs,g.out,g.its⟩,k4.good,?_,?_,?_,?_,λ_ _=>?_,λh=>(by rw[k1]at h;cases h),λh=>(by rw[k2]at h;cases h)⟩
   ·rw[k5,hoG.2];have:=hdG.2;omega
   ·rw[k5];exact h1
   ·rw[k5];exact h2
   ·rw[k5];exact h3
   ·rw[k3];exact k4
  ·exact ih s (xO V).2 st.dropLast hp.dropLast hmt.2 gb (λr hr=>pts r (iX _ hr)) told.tail hlv2 hdG.1 (by have:=hdG.2;omega) h1 h2 h3
theorem qZN {l:List qR} {s:IM} {V:VM} {x:qR} (G:GI l s V) (hf:frS V.lv<10000) :
  GB (jS s V x).2.1∧(jS s V x).2.1.opn=s.opn∧(jS s V x).2.1.out=s.out∧(jS s V x).2.1.pc=s.pc∧JF V (jS s V x).2.2∧jk (jS s V x).2.2∧frS (jS s V x).2.2.lv≤frS V.lv+1∧
   ((jS s V x).1=11→(jS s V x).2.1=s∧JN V (jS s V x).2.2):=by
 have gb:=G.gb;have good:=G.good;have hr:=λi=>gb.regs.at i;have same:∀e:Int,e≠11→GB s∧s.opn=s.opn∧s.out=s.out∧s.pc=s.pc∧JF V V∧jk V∧frS V.lv≤frS V.lv+1∧(e=11→s=s∧JN V V) :=
  λe he=>⟨gb,rfl,rfl,rfl,.refl V,good,by omega,λh=>absurd h he⟩
 unfold jS
 split
 ·split
  ·split
   ·refine⟨gb.setR ?_,rfl,rfl,rfl,xk V _,good.read,by rw[xn];omega,λh=>by cases h⟩;exact good.wd.read
   ·exact⟨gb,rfl,rfl,rfl,xk V _,good.read,by rw[xn];omega,λh=>⟨rfl,kL h⟩⟩
  ·exact same 2 omQ
 ·split
  ·split
   ·exact⟨gb,rfl,rfl,rfl,gJ good.ok,good.take (WdC.one1 (hr _)),by rw[gi];omega,λh=>(GX h).elim⟩
   ·exact same 2 omQ
  ·split
   ·split
    ·exact same 3 omQ
    ·split
     ·rename_i h0;have hb:=qXo (x:=qM s.regs x.2.2.1) good.wd h0;exact⟨gb.setR omQ,rfl,rfl,rfl,VZ good.ok,(good.alloc).1,by rw[(good.alloc).2];omega,λh=>by cases h⟩
     ·exact⟨gb,rfl,rfl,rfl,VZ good.ok,(good.alloc).1,by rw[(good.alloc).2];omega,λh=>⟨rfl,qJS h⟩⟩
   ·split
    ·exact same 2 omQ
    ·exact⟨gb,rfl,rfl,rfl,qVI good.ok,(good.free omQ).1,(good.free omQ).2,λh=>⟨rfl,qKs h⟩⟩
theorem K7 {l:List qR} {s:IM} {V:VM} (G:GI l s V):s.opn.length=(qE l s.pc.toNat).length:=by have:=congrArg List.length G.stk;simpa using this
theorem JD {l:List qR} (F:Fit l) {s:IM} {V:VM} (G:GI l s V) {i:Nat} (hi:s.pc=i) (hlt:i<l.length) (hf:frS V.lv<10000) (hN:0≤(qP l i).2.2.2.2∧(qP l i).2.2.2.2<18446744073709551616) (hx:(qP l i).1≠23) :
  Yp l s V (doM (qL l) s V (qP l i)):=by
 have hw:=yz (F.ok i hlt);have hwo:=xv (F.ok i hlt);have hop:1≤(qP l i).1∧(qP l i).1≤23:=by have:=hw.1;unfold vR at this;simp only[Bool.and_eq_true,decide_eq_true_eq]at this;exact this.1.1.1.1
 have hbe:z7 (qP l i).1=decide ((qP l i).1=14∨(qP l i).1=17):=rfl;have hend:jr (qP l i).1=if(qP l i).1=15 then 14 else if(qP l i).1=18 then 17 else if(qP l i).1=19 then 18 else 0:=rfl
 have hjmp:=λh=>qJH F hlt h;have hstk:=G.stk;rw[hi,Int.toNat_natCast]at hstk;have hol:=K7 G;rw[hi,Int.toNat_natCast]at hol;have hr:=λi=>G.gb.regs.at i;have hmb:=λh=>gZ F hlt h;have hmu:=λh=>kb F hlt h;have hss:qE l (i+1)=jZ (qE l i) i (qP l i).1:=jz;have plain:(qP l i).1≠14→(qP l i).1≠17→(qP l i).1≠15→(qP l i).1≠18→(qP l i).1≠19→z7 (qP l i).1=false∧(qP l i).1≠18∧jr (qP l i).1=0:=by intro a b c d e;refine⟨by rw[hbe];exact iV omQ,d,?_⟩;rw[hend,iQ c,iQ d,iQ e]
 have keep:∀{s':IM} {V':VM} {e:Int},(qP l i).1≠14→(qP l i).1≠17→(qP l i).1≠15→(qP l i).1≠18→(qP l i).1≠19→GB s'→s'.opn=s.opn→s.out.length≤s'.out.length→JF V V'→jk V'→frS V'.lv≤frS V.lv+1→
   (e=11→s'=s∧JN V V')→Yp l s V ⟨e,s.pc+1,false,s',V'⟩:=λa b c d e gb ho hl hk hg hf hn=>
  Yp.plain G hi hlt (plain a b c d e).1 (plain a b c d e).2.1 (plain a b c d e).2.2 gb ho hl hk hg hf hn
 generalize hxe:qP l i=x at*;obtain⟨sregs,sout,spc,sopn⟩:=s;dsimp only at hi hstk hol hr keep ⊢;unfold doM;have reg:∀v:Int,x.1≠14→x.1≠17→x.1≠15→x.1≠18→x.1≠19→0≤v∧v<18446744073709551616→Yp l ⟨sregs,sout,spc,sopn⟩ V ⟨0,spc+1,false,setR ⟨sregs,sout,spc,sopn⟩ x.2.1 v,V⟩ :=
  λv a b c d e hv=>keep a b c d e (G.gb.setR hv) rfl (Nat.le_refl _) (.refl V) G.good omQ λh=>by cases h
 have jump:∀n:Int,(x.1=12∨x.1=13)→(n=x.2.2.2.1∨n=spc+1)→Yp l ⟨sregs,sout,spc,sopn⟩ V ⟨0,n,false,⟨sregs,sout,spc,sopn⟩,V⟩:=by
  intro n ho hn;rcases hn with rfl |rfl
  ·obtain⟨c,c1,c2,c3⟩:=hjmp ho;refine⟨G.gb,G.good,Nat.le_succ _,rfl,rfl,rfl,λ_ _=>⟨⟨G.gb.regs,G.gb.out,G.gb.its⟩,⟨c,c1,c2⟩,G.pts,G.told,?_,G.lv,G.good⟩,λh=>(by cases h),λh=>(by cases h)⟩;show sopn.map _=(qE l x.2.2.2.1.toNat).reverse;rw[c1,Int.toNat_natCast,c3];exact hstk
  ·exact keep omQ omQ omQ omQ omQ G.gb rfl (Nat.le_refl _) (.refl V) G.good omQ λh=>by cases h
 by_cases c1:x.1=1
 ·rw[iJ c1];exact reg _ omQ omQ omQ omQ omQ hN
 rw[iQ c1];by_cases c2:x.1=2
 ·rw[iJ c2];exact reg _ omQ omQ omQ omQ omQ (hr _)
 rw[iQ c2];by_cases c3:x.1=3
 ·rw[iJ c3];exact reg _ omQ omQ omQ omQ omQ (qXt _)
 rw[iQ c3];by_cases c4:x.1=4
 ·rw[iJ c4];exact reg _ omQ omQ omQ omQ omQ (qXt _)
 rw[iQ c4];by_cases c5:x.1=5
 ·rw[iJ c5];exact reg _ omQ omQ omQ omQ omQ (qXt _)
 rw[iQ c5];by_cases c6:x.1=6
 ·rw[iJ c6];exact reg _ omQ omQ omQ omQ omQ (qXR _)
 rw[iQ c6];by_cases c7:x.1=7
 ·rw[iJ c7];exact reg _ omQ omQ omQ omQ omQ (qXR _)
 rw[iQ c7];by_cases c12:x.1=12
 ·rw[iJ c12];exact jump _ (.inl c12) (.inl rfl)
 rw[iQ c12];by_cases c13:x.1=13
 ·rw[iJ c13];by_cases cz:qM sregs x.2.1=0
  ·rw[iJ cz];exact jump _ (.inr c13) (.inl rfl)
  ·rw[iQ cz];exact jump _ (.inr c13) (.inr rfl)
 rw[iQ c13];by_cases c21:x.1=21
 ·rw[iJ c21];have hk:∀e:Int,e≠11→Yp l ⟨sregs,sout,spc,sopn⟩ V ⟨e,spc+1,false,⟨sregs,sout,spc,sopn⟩,V⟩:=λe he=>
   keep omQ omQ omQ omQ omQ G.gb rfl (Nat.le_refl _) (.refl V) G.good (Nat.le_succ _) λh=>absurd h he
  by_cases hlen:16≤sout.length
  ·rw[iJ hlen];exact hk 5 omQ
  ·rw[iQ hlen];refine keep omQ omQ omQ omQ omQ ⟨G.gb.regs,?_,?_⟩ rfl ?_ (.refl V) G.good (Nat.le_succ _) λh=>by cases h
   ·show(sout++[_]).length≤16;simp;omega
   ·intro y hy;rcases List.mem_append.1 hy with hy |hy
    ·exact G.gb.its y hy
    ·rw[List.mem_singleton]at hy;subst hy;exact hr _
   ·show sout.length≤(sout++[_]).length;simp
 rw[iQ c21];by_cases c22:x.1=22
 ·rw[iJ c22];exact keep omQ omQ omQ omQ omQ G.gb rfl (Nat.le_refl _) (.refl V) G.good (Nat.le_succ _) λh=>by cases h
 rw[iQ c22];by_cases c8:x.1=8∨x.1=9∨x.1=10∨x.1=11
 ·rw[iJ c8];obtain⟨t1,t2,t3,t4,t5,t6,t7,t8⟩:=qZN (x:=x) G hf;exact keep omQ omQ omQ omQ omQ t1 t2 (by rw[t3];exact Nat.le_refl _) t5 t6 t7 t8
 rw[iQ c8];unfold wZ;by_cases h:x.1=14∨x.1=17
 ·rw[iJ h];dsimp only;subst hi;have hb:z7 x.1=true:=by rw[hbe];exact iG h
  have he:¬0<jr x.1:=by rw[hend,iQ omQ,iQ omQ,iQ omQ];omega
  have key:=VS (l:=l) (s:=⟨sregs,sout,(i:Int),sopn⟩) (V:=V) (op:=x.1) (p:=i) (st:=qE l i) G.gb hlt ⟨by omega,by rw[hxe]⟩ G.pts G.told hstk (by rw[hss];unfold jZ;rw[iJ (.inl hb),iQ he]) G.lv (by show sopn.length<5;rw[hol];exact hw.2.2.2 hb) G.good;obtain⟨k1,k2,k3,k4,k5⟩:=key;have hoG:=G.good.openG;refine⟨k4.gb |> λg=>⟨g.regs,g.out,g.its⟩,k4.good,?_,?_,?_,?_,λ_ _=>?_,λh=>(by rw[k1]at h;cases h),λh=>(by rw[k2]at h;cases h)⟩
  ·rw[k5,hoG.2];omega
  ·rw[k5];rfl
  ·rw[k5];rfl
  ·rw[k5];rfl
  ·rw[k3];exact k4
 rw[iQ h];clear h;by_cases h:x.1=15∨x.1=19
 ·rw[iJ h];have he:0<jr x.1:=by rw[hend];rcases h with h |h<;>rw[h]<;>decide
  have hne:=hwo.2.1 (.inl he)
  match sopn,hol,hstk,G with
  |[],hol,_,_=>exact absurd (iA hol.symm) hne
  |p::o,hol,hstk,G=>
   have hk:=V9 (V:=V) (by rw[G.lv];simp);have hkG:=G.good.keepG omQ;have hlv:=G.lv
   refine⟨⟨G.gb.regs,G.gb.out,G.gb.its⟩,hkG.1,by rw[hkG.2];omega,rfl,rfl,rfl,λ_ _=>⟨⟨G.gb.regs,G.gb.out,G.gb.its⟩,⟨i+1,by show spc+1=_;omega,by omega⟩,λq hq=>G.pts q (iX _ hq),G.told.tail,?_,?_,hkG.1⟩,λh0=>(by
    dsimp only at h0;rw[hk.1]at h0;cases h0),λh=>(by cases h)⟩
   ·show o.map _=(qE l (spc+1).toNat).reverse;rw[hi,show((i:Int)+1).toNat=i+1 by omega,hss];unfold jZ;rw[iQ (by rw[hbe];simp;omega),iJ he];exact(Jd hstk).2
   ·show(vA V).2.lv.length=o.length+1;have:=hk.2;simp at hlv;omega
 rw[iQ h];clear h;by_cases h:x.1=18
 ·rw[iJ h];have he:0<jr x.1:=by rw[hend];rw[h];decide
  have hne:=hwo.2.1 (.inl he);obtain⟨e,e1,e2,e3,e4,e5⟩:=hmb (.inr (.inr h));have heo:(qP l (e:Int)).1=19:=by
   rw[h]at e4;unfold jr at e4
   repeat' split at e4
   all_goals first |assumption |omega
  match sopn,hol,hstk,G with
  |[],hol,_,_=>exact absurd (iA hol.symm) hne
  |p::o,hol,hstk,G=>
   have hk:=V9 (V:=V) (by rw[G.lv];simp);have hkG:=G.good.keepG omQ;have hlv:=G.lv
   refine⟨⟨G.gb.regs,G.gb.out,G.gb.its⟩,hkG.1,by rw[hkG.2];omega,rfl,rfl,rfl,λ_ _=>⟨⟨G.gb.regs,G.gb.out,G.gb.its⟩,⟨e+1,by show qM (qL l) spc+1=_;rw[hi,e1];omega,by omega⟩,λq hq=>G.pts q (iX _ hq),G.told.tail,?_,?_,hkG.1⟩,λh0=>(by
    dsimp only at h0;rw[hk.1]at h0;cases h0),λh=>(by cases h)⟩
   ·show o.map _=(qE l (qM (qL l) spc+1).toNat).reverse;rw[hi,e1,show((e:Int)+1).toNat=e+1 by omega,jz,e5,hss];unfold jZ;rw[iQ (by rw[heo];decide),iJ (by rw[heo];decide),iJ (.inr h),iJ he,List.dropLast_concat];exact(Jd hstk).2
   ·show(vA V).2.lv.length=o.length+1;have:=hk.2;simp at hlv;omega
 rw[iQ h];clear h;by_cases h:x.1=16
 ·rw[iJ h];obtain⟨e,e1,e2,e3,e4,hne⟩:=hmu h
  match sopn,hol,hstk,G with
  |[],hol,_,_=>exact absurd (iA hol.symm) hne
  |p::o,hol,hstk,G=>
   have hk:=Mw (V:=V) (by rw[G.lv];simp);have hkG:=G.good.dropG;have hlv:=G.lv;have P:=G.pts p (iK ..);have told:=G.told;have gb2:=G.gb.back P
   refine⟨⟨gb2.regs,gb2.out,gb2.its⟩,hkG.1,by have:=hkG.2;dsimp only;omega,rfl,rfl,rfl,λ_ _=>⟨⟨gb2.regs,gb2.out,gb2.its⟩,⟨e+1,by show qM (qL l) spc+1=_;rw[hi,e1];omega,by omega⟩,λq hq=>G.pts q (iX _ hq),?_,?_,?_,hkG.1⟩,λh0=>(by
    dsimp only at h0;rw[hk.1]at h0;cases h0),λh=>(by cases h)⟩
   ·show ToldD (sout.take p.told).length o;rw[List.length_take,Nat.min_eq_left told.1];exact told.2
   ·show o.map _=(qE l (qM (qL l) spc+1).toNat).reverse;rw[hi,e1,show((e:Int)+1).toNat=e+1 by omega,jz,e4];unfold jZ;rw[iQ (by rw[e3];decide),iJ (by rw[e3];decide)];exact(Jd hstk).2
   ·show(xO V).2.lv.length=o.length+1;rw[hk.2,List.length_tail,hlv];simp
 ·rw[iQ h];exact qJf F sopn _ V (qE l i) (Ma i) hstk G.gb G.pts G.told G.lv G.good (Nat.le_refl _) rfl rfl rfl
end Go.Proofs.YtnalffoigcmnnabGreatDoor
namespace Go.Proofs.YtnalffoigcmnnabGreatDoor
open Go Go.Ae
set_option maxRecDepth 100000
variable {g h:AH} {L R:List SP}
theorem OB {b off n sz a:Nat} {k:IntKind} {K:AV→Go.Ae.R} {Q:AV→AH→Prop} (ha:a<n) (w:wp (K (.ptr b (off+a*sz))) Q):wp (Qw (.ptr b off) (.int k (a:Int)) n sz K) Q:=by unfold Qw;show wp (bif Nat.ble (a+1) n then _ else none) Q;rw[iY (show a+1≤n from ha)];exact w
theorem qqu {z:Int} (h0:0≤z):∃a:Nat,z.tmod ((8:Nat):Int)=a∧a<8∧(z<8→z=a):=by refine⟨(z%8).toNat,?_,by omega,λh=>by omega⟩;rw[Int.tmod_eq_emod_of_nonneg h0];omega
def qgi (r:List Int):List AV:=[.int .u64 (qM r 0),.int .u64 (qM r 1),.int .u64 (qM r 2),.int .u64 (qM r 3),.int .u64 (qM r 4),.int .u64 (qM r 5),.int .u64 (qM r 6),.int .u64 (qM r 7)]
def yi (p:PtM):List AV:=[.int .i64 p.op,.int .i64 p.pc,.int .u64 (qM p.regs 0),.int .u64 (qM p.regs 1),.int .u64 (qM p.regs 2),.int .u64 (qM p.regs 3),.int .u64 (qM p.regs 4),.int .u64 (qM p.regs 5),.int .u64 (qM p.regs 6),.int .u64 (qM p.regs 7),.int .i64 (p.told:Int)]
def gY (c mv ov:AV) (v o:Nat) (bad err fin left nx pc:Int) (r:List Int):List AV :=
 [c,.ptr v 0,mv,.int .i64 bad,.int .i64 err,.int .i64 fin,.int .u64 (qM r 0),.int .u64 (qM r 1),.int .u64 (qM r 2),.int .u64 (qM r 3),.int .u64 (qM r 4),.int .u64 (qM r 5),.int .u64 (qM r 6),.int .u64 (qM r 7),
  .ptr o 0,.int .i64 pc,.int .i64 nx,.int .i64 left,ov]
section
variable {c mv ov:AV} {v o:Nat} {bad err fin left nx pc:Int} {r:List Int}
theorem YD {a:Nat} (ha:a<8):(gY c mv ov v o bad err fin left nx pc r)[6+a*1]? =some (.int .u64 (qM r (a:Int))):=by
 rcases(show a=0∨a=1∨a=2∨a=3∨a=4∨a=5∨a=6∨a=7 by omega)with rfl |rfl |rfl |rfl |rfl |rfl |rfl |rfl<;>rfl
theorem qVS {i k:Nat} {z:Int} (hi:i<r.length):qM (r.set i z) (k:Int)=if i=k then z else qM r (k:Int):=by
 unfold qM;rw[Int.toNat_natCast,List.getElem?_set]
 split
 ·rename_i h;subst h;simp[hi]
 ·rfl
theorem qgF {a:Nat} {z:Int} (hr:r.length=8) (ha:a<8):(gY c mv ov v o bad err fin left nx pc r).set (6+a*1) (.int .u64 z)=gY c mv ov v o bad err fin left nx pc (r.set a z):=by have hs:=λk:Nat=>qVS (r:=r) (i:=a) (k:=k) (z:=z) omQ;have e0:=hs 0;have e1:=hs 1;have e2:=hs 2;have e3:=hs 3;have e4:=hs 4;have e5:=hs 5;have e6:=hs 6;have e7:=hs 7;simp only[iZ,show((0:Nat):Int)=0 from rfl,show((1:Nat):Int)=1 from rfl,show((2:Nat):Int)=2 from rfl,show((3:Nat):Int)=3 from rfl,show((4:Nat):Int)=4 from rfl,show((5:Nat):Int)=5 from rfl,show((6:Nat):Int)=6 from rfl,show((7:Nat):Int)=7 from rfl]at e0 e1 e2 e3 e4 e5 e6 e7;unfold gY;rw[e0,e1,e2,e3,e4,e5,e6,e7];rcases(show a=0∨a=1∨a=2∨a=3∨a=4∨a=5∨a=6∨a=7 by omega)with rfl |rfl |rfl |rfl |rfl |rfl |rfl |rfl<;>rfl
end
def IntC (x v:Nat) (l:List qR) (bad:Int) (mt:List Int) (s:IM) (err fin left nx:Int):SP:=.ex λc=>.ex λmv=>.ex λov=>.ex λo=>.all
 [qg x (gY c mv ov v o bad err fin left nx s.pc s.regs),qy 70 5 l.length c (l.flatMap jK),qy 3 1 mt.length mv (mt.map (.int .i64)),SlaC o s.out,qy 270 11 s.opn.length ov (s.opn.reverse.flatMap yi)]
section
variable {x v:Nat} {l:List qR} {bad:Int} {mt:List Int} {s:IM} {err fin left nx:Int}
theorem IntC.E (H:HS g h (IntC x v l bad mt s err fin left nx::R)):∃c mv ov o,HS g h (qg x (gY c mv ov v o bad err fin left nx s.pc s.regs)::qy 70 5 l.length c (l.flatMap jK)::qy 3 1 mt.length mv (mt.map (.int .i64))::SlaC o s.out::
  qy 270 11 s.opn.length ov (s.opn.reverse.flatMap yi)::R):=by
 obtain⟨c,H⟩:=H.exE;obtain⟨mv,H⟩:=H.exE;obtain⟨ov,H⟩:=H.exE;obtain⟨o,H⟩:=H.exE;exact⟨c,mv,ov,o,H.allE⟩
theorem IntC.I {c mv ov:AV} {o:Nat} (H:HS g h (qg x (gY c mv ov v o bad err fin left nx s.pc s.regs)::qy 70 5 l.length c (l.flatMap jK)::qy 3 1 mt.length mv (mt.map (.int .i64))::SlaC o s.out::
  qy 270 11 s.opn.length ov (s.opn.reverse.flatMap yi)::R)):HS g h (IntC x v l bad mt s err fin left nx::R) :=
 HS.exI c (HS.exI mv (HS.exI ov (HS.exI o H.allI)))
theorem qv5 {n o:Nat} (hn:1≤n) {l:List ItT} (H:HS g h (SlaC o l::R)):t_w n 256 [.ptr o 0] h λr h'=>r=.int .i64 (l.length:Int)∧h'=h:=by
 refine t_e1 (S:=S256) rfl omQ λk hk=>?_;unfold S256;try simp only[iZ]
 obtain⟨sv,H⟩:=SlaC.E H;refine qW (qQ (qK ‹_› .here rfl ?_));refine qi ‹_› e_1 ?_;exact qj ⟨rfl,rfl⟩
theorem qkB {n o:Nat} (hn:1≤n) {l:List ItT} {x:ItT} (H:HS g h (SlaC o l::R)) (hl:l.length≤16) :
  t_w n 170 [.ptr o 0,Qg x] h λr h'=>r=.bool (decide (l.length<16))∧HS g h' (SlaC o (if l.length<16 then l++[x]else l)::R):=by
 refine t_e2 (S:=S170) rfl omQ λk hk=>?_;unfold S170;try simp only[iZ]
 obtain⟨sv,H⟩:=SlaC.E H;by_cases h1:l.length<16
 ·rw[iJ h1,iG h1];refine qW (qQ (qK ‹_› .here rfl ?_));refine qi ‹_› e_1 ?_;refine zN omQ ?_;refine qJ (qW (qQ (qK ‹_› .here rfl ?_)))
  refine qf (n:=1) (l:=[Qg x]) (sz:=1) H rfl rfl (by
   have e:=(Xa x).1
   simp only[yF,e,vz];rfl) (yh (Xa x)) λv2 h2 H2=>?_
  refine jf (H2.sel e_2) (H2.sl .here) omQ omQ (yh (Xa x)) λv3 h3 H3=>?_;have o3:=H3.one .here;refine qW (qQ (qw H3 (b:=o) e_2 o3 osQ λh4 H4=>?_));refine qj ⟨rfl,SlaC.I (sv:=v3) ?_⟩;rw[List.length_append,List.map_append];exact H4.sub (.cons .here (.cons .here (.drop .refl)))
 ·rw[iQ h1,iV h1];refine qW (qQ (qK ‹_› .here rfl ?_));refine qi ‹_› e_1 ?_;refine zO omQ ?_;refine qZ ?_;exact qj ⟨rfl,SlaC.I H⟩
theorem qxE {n o:Nat} (hn:2≤n) {l:List ItT} {u:Int} (H:HS g h (SlaC o l::R)) (hl:l.length≤16) :
  t_w n 134 [.ptr o 0,.int .u64 u] h λr h'=>r=.bool (decide (l.length<16))∧HS g h' (SlaC o (if l.length<16 then l++[(1,u)]else l)::R):=by
 refine t_e2 (S:=S134) rfl omQ λk hk=>?_;unfold S134;try simp only[iZ]
 refine qG (qkB (x:=(1,u)) omQ H hl) ?_;rintro _ h2 ⟨rfl,H2⟩;exact qj ⟨rfl,H2⟩
theorem Mu {n m:Nat} (hn:1≤n) {e:TypeId} {v:AV} {xs:List AV} (H:HS g h L) (s:Sel L (qy e 1 m v xs) R) (ha:qm xs=true) (hm:m≤1000000) :
  t_w n 138 [v] h λr h'=>HS g h' (qy 20 1 m r xs::L):=by
 refine t_e1 (S:=S138) rfl omQ λk hk=>?_;unfold S138;try simp only[iZ]
 refine JJ H s (λh1 h2=>?_) ?_
 ·subst h1 h2;have hx:xs=[]:=iA (by simpa using H.sl_len s);subst hx;exact qZ (qj H.nils)
 ·refine qJ (qf (n:=0) (l:=[]) (sz:=1) H rfl rfl rfl rfl λv2 h2 H2=>?_);refine jf H2 (H2.sl (.there s)) omQ omQ ha λv3 h3 H3=>?_;rw[Nat.zero_add,List.nil_append]at H3;exact qj H3
theorem qW2 {n o:Nat} (hn:2≤n) {l:List ItT} (H:HS g h (SlaC o l::R)) (hl:l.length≤16) :
  t_w n 91 [.ptr o 0] h λr h'=>∃p,r=.ptr p 0∧HS g h' (SlaC p l::SlaC o l::R):=by
 refine t_e1 (S:=S91) rfl omQ λk hk=>?_;unfold S91;try simp only[iZ]
 obtain⟨sv,H⟩:=SlaC.E H;refine qW (qQ (qK ‹_› .here rfl ?_));refine qG (Mu omQ H e_1 (VG l) omQ) ?_;intro cv h2 H2;have oc:=H2.one .here;refine qH (l:=[cv]) (by simp only[yF,oc.1];rfl) ?_;refine qO H2 (yh oc) λp h3 H3=>qj ⟨p,rfl,?_⟩;have H4:=SlaC.I (o:=p) (l:=l) (sv:=cv) (R:=qg o [sv]::qy 20 1 l.length sv (l.map Qg)::R) H3;exact HS.unsel e_1 (SlaC.I (o:=o) (l:=l) (sv:=sv) (R:=SlaC p l::R) (H4.sub (.cons e_1 (.cons e_1 (.cons .here .refl)))))
theorem qx5 {n o m:Nat} (hn:2≤n) {l:List ItT} (H:HS g h (SlaC o l::R)) (hl:l.length≤16) (hm:m≤l.length) :
  t_w n 258 [.ptr o 0,.int .i64 (m:Int)] h λ_ h'=>HS g h' (SlaC o (l.take m)::R):=by
 refine t_e2 (S:=S258) rfl omQ λk hk=>?_;unfold S258;try simp only[iZ]
 obtain⟨sv,H⟩:=SlaC.E H;refine qW (qQ (qK ‹_› .here rfl ?_));refine qW (qQ (qK ‹_› .here rfl ?_));refine qi ‹_› e_1 ?_;refine zX (zC ?_);rw[show max ((0:Nat):Int) (min (m:Int) (l.length:Int))=(m:Int) by omega];refine XC (H.sel e_1) omQ hm λv2 H2=>?_;rw[Nat.mul_one,← List.map_take]at H2;refine qG (Mu omQ H2 .here (VG _) omQ) ?_;intro cv h3 H3;have oc:=H3.one .here;refine qW (qQ (qw H3 (b:=o) e_2 oc osQ λh4 H4=>?_));refine qj (SlaC.I (sv:=cv) ?_);rw[show(l.take m).length=m by simp;omega];exact H4.sub (.cons .here (.cons .here (.drop .refl)))
theorem NJ {n:Nat} (hn:1≤n) {p:Prop} [Decidable p]:t_w n 133 [.bool (decide p)] h λr h'=>r=.int .u64 (YJ p)∧h'=h:=by
 refine t_e1 (S:=S133) rfl omQ λk hk=>?_;unfold S133;try simp only[iZ]
 unfold YJ;by_cases hp:p
 ·rw[iG hp,iJ hp];exact qZ (qj ⟨rfl,rfl⟩)
 ·rw[iV hp,iQ hp];exact qJ (qj ⟨rfl,rfl⟩)
theorem O7 {n:Nat} (hn:1≤n) {e:Int} (H:HS g h (IntC x v l bad mt s err fin left nx::R)) :
  t_w n 89 [.ptr x 0,.int .i64 e] h λ_ h'=>HS g h' (IntC x v l bad mt s e 4 left nx::R):=by
 refine t_e2 (S:=S89) rfl omQ λk hk=>?_;unfold S89;try simp only[iZ]
 obtain⟨c,mv,ov,o,H⟩:=IntC.E H;unfold gY at H;refine qW (qQ (qw H (b:=x) .here ⟨rfl,rfl⟩ osQ λh1 H1=>?_));refine qW (qQ (qw H1 (b:=x) .here ⟨rfl,rfl⟩ osQ λh2 H2=>?_));exact qj (IntC.I H2)
theorem qXM {n:Nat} (hn:1≤n) (H:HS g h (IntC x v l bad mt s err fin left nx::R)):t_w n 47 [.ptr x 0] h λr h'=>r=.int .i64 err∧h'=h:=by
 refine t_e1 (S:=S47) rfl omQ λk hk=>?_;unfold S47;try simp only[iZ]
 obtain⟨c,mv,ov,o,H⟩:=IntC.E H;unfold gY at H;refine qW (qQ (qK ‹_› .here rfl ?_));exact qj ⟨rfl,rfl⟩
theorem Mm {n:Nat} (hn:3≤n) (H:HS g h (IntC x v l bad mt s err fin left nx::R)) (hl:s.out.length≤16) :
  t_w n 48 [.ptr x 0] h λr h'=>∃p,r=.ptr p 0∧HS g h' (SlaC p s.out::IntC x v l bad mt s err fin left nx::R):=by
 refine t_e1 (S:=S48) rfl omQ λk hk=>?_;unfold S48;try simp only[iZ]
 obtain⟨c,mv,ov,o,H⟩:=IntC.E H;unfold gY at H;refine qW (qQ (qK ‹_› .here rfl ?_));refine qG (qW2 omQ (H.sel (P:=SlaC o s.out) e_3) hl) ?_;rintro _ h2 ⟨p,rfl,H2⟩;refine qj ⟨p,rfl,?_⟩;exact HS.unsel e_1 (IntC.I (c:=c) (mv:=mv) (ov:=ov) (o:=o) (R:=SlaC p s.out::R) (H2.sub (.cons e_2 (.cons e_2 (.cons e_2 (.cons e_1 (.cons e_1 .refl)))))))
theorem MN {n:Nat} (hn:1≤n) {b off:Int} (hb:0≤b∧b<18446744073709551616) (ho:0≤off∧off≤100):t_w n 185 [.int .u64 b,.int .i64 off] h λr h'=>r=.tup [.int .i64 (yP b off).1,.int .i64 (yP b off).2]∧h'=h:=by
 refine t_e2 (S:=S185) rfl omQ λk hk=>?_;unfold S185;try simp only[iZ]
 unfold yP;by_cases h1:2147483648≤b
 ·rw[iJ (.inl h1)];refine zO omQ ?_;refine qV ?_;(try dsimp only);refine qo ?_;(try dsimp only);refine qF (qV ?_);(try dsimp only);refine qo ?_;(try dsimp only);refine qF (qZ ?_)
  exact qj ⟨rfl,rfl⟩
 ·refine zN omQ ?_;refine qV ?_;(try dsimp only);refine qd ?_;(try dsimp only);refine xF omQ ?_;refine qc omQ ?_
  by_cases h2:2147483648≤b+off
  ·rw[iJ (.inr (.inl h2))];refine zO omQ ?_;refine qI (qV ?_);(try dsimp only);refine qo ?_;(try dsimp only);refine qF (qZ ?_)
   exact qj ⟨rfl,rfl⟩
  ·refine zN omQ ?_;refine qI (qV ?_);(try dsimp only);refine qd ?_;(try dsimp only);refine xF omQ ?_;refine qc omQ ?_
   by_cases h3:b+off<6
   ·rw[iJ (.inr (.inr h3))];refine jd omQ ?_;refine qI (qZ ?_);exact qj ⟨rfl,rfl⟩
   ·rw[iQ omQ];refine jH omQ ?_;refine qI (qJ (xF omQ ?_));refine qc omQ ?_;exact qj ⟨rfl,rfl⟩
theorem qWS {most:Nat} {lv:List LvM} {p z:Int} (h:¬(vn most lv p z).1=0):(vn most lv p z).2=lv:=by
 cases lv with
 |nil=>rfl
 |cons y r=>
  unfold vn at h ⊢;dsimp only at h ⊢
  split
  ·rfl
  ·rename_i h1;rw[iQ h1]at h
   split
   ·rfl
   ·rename_i h2;rw[iQ h2]at h;exact absurd rfl h
theorem qVp {n:Nat} (hn:6≤n) {v:Nat} {M:VM} {p z:Int} (H:HS g h (ViewC v M::R)) (O:OkV M) :
  t_w n 186 [.ptr v 0,.int .i64 p,.int .u64 z] h λr h'=>r=.int .i64 (zz M [(p,z)]).1∧HS g h' (ViewC v (zz M [(p,z)]).2::R):=by
 refine t_e3 (S:=S186) rfl omQ λk hk=>?_;unfold S186;try simp only[iZ]
 refine qG (ON omQ H) ?_;rintro _ _ ⟨rfl,rfl⟩;by_cases hp:1≤p∧p<M.sz
 ·rw[iG hp];obtain⟨fv,ov,q,e,H⟩:=ViewC.E H;refine jX (qJ (qW (qQ (qK ‹_› .here rfl ?_))));refine qG (qXH omQ (H.sel (P:=LgC q M.most M.lv) e_3) O.lvs) ?_;rintro _ h2 ⟨rfl,H2⟩;have e2:zz M [(p,z)]=((vn M.most M.lv p z).1,{ M with lv:=(vn M.most M.lv p z).2 }):=by
   unfold zz;rw[iJ (by intro c hc;rw[List.mem_singleton]at hc;subst hc;exact hp),vr]
   split
   ·rename_i h0;rw[h0];rfl
   ·rename_i h0;have hx:=qWS h0;rw[hx]
  rw[e2];exact qj ⟨rfl,ViewC.I (M:={ M with lv:=(vn M.most M.lv p z).2 }) (fv:=fv) (ov:=ov) (q:=q) (e:=e) (H2.sub (.cons e_1 (.cons e_1 (.cons e_1 (.refl)))))⟩
 ·rw[iV hp];have e2:zz M [(p,z)]=(2,M):=by
   unfold zz;rw[iQ (λhh=>hp (hh (p,z) (List.mem_singleton_self _)))]
  rw[e2];refine jV (qZ ?_);exact qj ⟨rfl,H⟩
end
end Go.Proofs.YtnalffoigcmnnabGreatDoor
namespace Go.Proofs.YtnalffoigcmnnabGreatDoor
open Go Go.Ae
set_option maxRecDepth 100000
variable {g h:AH} {L R:List SP}
section
variable {x v:Nat} {l:List qR} {bad:Int} {mt:List Int} {s:IM} {err fin left nx:Int}
theorem qYf (o:List PtM):(o.reverse.flatMap yi).length=o.length*11:=by rw[Jc (sz:=11) _ (λ_=>rfl),List.length_reverse]
theorem qj7 (p:PtM):qm (yi p)=true:=rfl
theorem My (p:PtM) (o:List PtM):(p::o).reverse.flatMap yi=o.reverse.flatMap yi++yi p:=by rw[List.reverse_cons,List.flatMap_append];simp
theorem Xk {n:Nat} (hn:1≤n) {p:PtM} {o:List PtM} (ho:s.opn=p::o) (hlo:o.length≤100) (H:HS g h (IntC x v l bad mt s err fin left nx::R)) :
  t_w n 190 [.ptr x 0] h λr h'=>r=.agg (yi p)∧HS g h' (IntC x v l bad mt { s with opn:=o } err fin left nx::R):=by
 refine t_e1 (S:=S190) rfl omQ λk hk=>?_;unfold S190;try simp only[iZ]
 obtain⟨c,mv,ov,q,H⟩:=IntC.E H;rw[ho,My,List.length_cons]at H;have hol:=qYf o;generalize hA:o.reverse.flatMap yi=A at*;unfold gY at H;refine qO H rfl λb0 h1 H1=>?_;clear H;refine qW (qQ (qK ‹_› e_1 rfl ?_));refine qW (qQ (qK ‹_› e_1 rfl ?_));refine qi ‹_› e_5 ?_;refine zQ omQ ?_;rw[show((o.length+1:Nat):Int)-((1:Nat):Int)=(o.length:Int) by omega]
 refine zU (l:=yi p) (H1.sl e_5) (i:=o.length) omQ omQ (by
  rw[List.drop_append_of_le_length omQ,List.drop_of_length_le omQ,List.nil_append];rfl) ?_
 refine qO H1 rfl λb2 h3 H3=>qe H3 .here rfl (by show 0+11≤11;omega) rfl λh4 H4=>?_
 have H5:HS g h4 (qg b2 (yi p)::qg b0 [.int .i64 ((0:Nat):Int),.int .i64 ((0:Nat):Int),.int .u64 ((0:Nat):Int),.int .u64 ((0:Nat):Int),.int .u64 ((0:Nat):Int),.int .u64 ((0:Nat):Int),.int .u64 ((0:Nat):Int),.int .u64 ((0:Nat):Int),.int .u64 ((0:Nat):Int),.int .u64 ((0:Nat):Int),.int .i64 ((0:Nat):Int)]::
  qg x (gY c mv ov v q bad err fin left nx s.pc s.regs)::qy 70 5 l.length c (l.flatMap jK)::qy 3 1 mt.length mv (mt.map (.int .i64))::SlaC q s.out::
  qy 270 11 (o.length+1) ov (A++yi p)::R):=H4
 clear H1 H3 H4;unfold gY at H5;refine qW (qQ (qK ‹_› e_2 rfl ?_));refine qW (qQ (qK ‹_› e_2 rfl ?_));refine qi ‹_› e_6 ?_;refine zQ omQ ?_;rw[show((o.length+1:Nat):Int)-((1:Nat):Int)=(o.length:Int) by omega];refine XC (hi:=o.length) (H5.sel e_6) omQ omQ λv6 H6=>?_;rw[List.take_append_of_le_length omQ,List.take_of_length_le omQ]at H6;have o6:=H6.one .here;clear H5;refine qW (qQ (qw H6 (b:=x) e_3 o6 osQ λh7 H7=>?_));refine qD H7 (b:=b2) (off:=0) e_2 rfl omQ (l:=yi p) rfl ?_;refine qe H7 (b:=b0) e_3 rfl (by show 0+11≤11;omega) rfl λh8 H8=>?_
 have H8:HS g h8 (qg b0 (yi p)::qg x (gY c mv v6 v q bad err fin left nx s.pc s.regs)::qy 270 11 o.length v6 A::qg b2 (yi p)::
  qy 70 5 l.length c (l.flatMap jK)::qy 3 1 mt.length mv (mt.map (.int .i64))::SlaC q s.out::R):=H8
 refine qD H8 (b:=b0) (off:=0) .here rfl omQ (l:=yi p) rfl ?_;refine qj ⟨rfl,IntC.I (s:={ s with opn:=o }) (c:=c) (mv:=mv) (ov:=v6) (o:=q) ?_⟩
 show HS g h8 (qg x (gY c mv v6 v q bad err fin left nx s.pc s.regs)::qy 70 5 l.length c (l.flatMap jK)::qy 3 1 mt.length mv (mt.map (.int .i64))::SlaC q s.out::
  qy 270 11 o.length v6 (o.reverse.flatMap yi)::R)
 rw[hA];exact H8.sub (.cons e_1 (.cons e_3 (.cons e_3 (.cons e_3 (.cons e_1 (.drop (.drop .refl)))))))
theorem ZE {n:Nat} (hn:3≤n) {p:PtM} (ht:p.told≤s.out.length) (hl:s.out.length≤16) (H:HS g h (IntC x v l bad mt s err fin left nx::R)) :
  t_w n 192 [.ptr x 0,.agg (yi p)] h λ_ h'=>HS g h' (IntC x v l bad mt (QA s p) err fin left nx::R):=by
 refine t_e2 (S:=S192) rfl omQ λk hk=>?_;unfold S192;try simp only[iZ]
 refine qO H (qj7 p) λb0 h1 H1=>?_;obtain⟨c,mv,ov,q,H2⟩:=IntC.E (H1.sel (P:=IntC x v l bad mt s err fin left nx) e_1);clear H H1;refine qQ (qD H2 (b:=b0) (off:=2) e_5 rfl omQ (l:=qgi p.regs) rfl ?_);refine qW (qQ ?_);refine qe H2 (b:=x) .here rfl (by show 6+8≤19;omega) rfl λh3 H3=>?_
 have H3:HS g h3 (qg x (gY c mv ov v q bad err fin left nx s.pc p.regs)::qy 70 5 l.length c (l.flatMap jK)::qy 3 1 mt.length mv (mt.map (.int .i64))::SlaC q s.out::
  qy 270 11 s.opn.length ov (s.opn.reverse.flatMap yi)::qg b0 (yi p)::R):=H3
 clear H2;have H4:=H3;unfold gY yi at H4;refine qW (qQ (qK ‹_› .here rfl ?_));refine qQ (qK ‹_› e_5 rfl ?_);refine qG (qx5 omQ (H3.sel (P:=SlaC q s.out) e_3) hl ht) ?_;intro _ h5 H5;clear H4 H3;exact qj (IntC.I (s:=QA s p) (c:=c) (mv:=mv) (ov:=ov) (o:=q) (H5.sub (.cons e_1 (.cons e_1 (.cons e_1 (.cons .here (.cons .here (.drop .refl))))))))
theorem Mn {n:Nat} (hn:5≤n) {op at_ nx0:Int} {V:VM} (O:OkV V) (hlo:s.opn.length≤100) (H:HS g h (IntC x v l bad mt s err fin left nx::ViewC v V::R)) :
  t_w n 189 [.ptr x 0,.int .i64 op,.int .i64 at_] h λr h'=>r=.int .i64 (zB op at_ nx0 s V).e∧HS g h' (IntC x v l bad mt (zB op at_ nx0 s V).s err fin left nx::ViewC v (zB op at_ nx0 s V).v::R):=by
 refine t_e3 (S:=S189) rfl omQ λk hk=>?_;unfold S189;try simp only[iZ]
 obtain⟨c,mv,ov,q,H⟩:=IntC.E H;unfold gY at H;refine qW (qQ (qK ‹_› .here rfl ?_));refine qG (qqH omQ (H.sel (P:=ViewC v V) e_5) O) ?_;rintro _ h2 ⟨rfl,H2⟩
 have H2:HS g h2 (ViewC v (y8 V).2::qg x (gY c mv ov v q bad err fin left nx s.pc s.regs)::qy 70 5 l.length c (l.flatMap jK)::qy 3 1 mt.length mv (mt.map (.int .i64))::SlaC q s.out::
  qy 270 11 s.opn.length ov (s.opn.reverse.flatMap yi)::R):=H2
 clear H;unfold zB;by_cases h0:(y8 V).1=0
 ·rw[iJ h0];refine jY h0 (qJ ?_);have H3:=H2;unfold gY at H3;refine qV ?_
  try dsimp only
  refine qW (qQ ?_);refine qK H2 (b:=x) e_1 rfl ?_;refine qW (qQ ?_);refine qD H2 (b:=x) (off:=6) e_1 rfl omQ (l:=qgi s.regs) rfl ?_;refine qW (qQ ?_);refine qK H2 (b:=x) e_1 rfl ?_;refine qG (qv5 omQ (H2.sel (P:=SlaC q s.out) e_4)) ?_;rintro _ _ ⟨rfl,rfl⟩;refine qH (l:=yi ⟨op,at_,s.regs,s.out.length⟩) rfl ?_;refine qf (n:=1) (l:=yi ⟨op,at_,s.regs,s.out.length⟩) (sz:=11) H2 rfl rfl rfl rfl λv4 h4 H4=>?_;refine jf (H4.sel e_6) (H4.sl .here) omQ omQ rfl λv5 h5 H5=>?_;have o5:=H5.one .here;refine qW (qQ ?_);refine qw H5 (b:=x) e_3 o5 (by show 18<19;omega) λh6 H6=>?_;refine zn H2 (b:=x) e_1 rfl H2 e_1 rfl rfl omQ (HS.lt H2 e_1) ?_;refine qb H2 (b:=x) e_1 rfl H2 e_1 rfl (HS.lt H2 e_1) ?_;refine qj ⟨rfl,IntC.I (s:={ s with opn:=⟨op,at_,s.regs,s.out.length⟩::s.opn }) (c:=c) (mv:=mv) (ov:=v5) (o:=q) ?_⟩
  show HS g h6 (qg x (gY c mv v5 v q bad err fin left nx s.pc s.regs)::qy 70 5 l.length c (l.flatMap jK)::qy 3 1 mt.length mv (mt.map (.int .i64))::SlaC q s.out::
   qy 270 11 (s.opn.length+1) v5 ((⟨op,at_,s.regs,s.out.length⟩::s.opn).reverse.flatMap yi)::ViewC v (y8 V).2::R)
  rw[My];exact H6.sub (.cons .here (.cons e_3 (.cons e_3 (.cons e_3 (.cons .here (.drop .refl))))))
 ·rw[iQ h0];refine jj h0 (qZ ?_);exact qj ⟨rfl,IntC.I (s:=s) (c:=c) (mv:=mv) (ov:=ov) (o:=q) (H2.sub (.cons e_1 (.cons e_1 (.cons e_1 (.cons e_1 (.cons e_1 .refl))))))⟩
end
end Go.Proofs.YtnalffoigcmnnabGreatDoor
namespace Go.Proofs.YtnalffoigcmnnabGreatDoor
open Go Go.Ae
set_option maxRecDepth 100000
variable {g h:AH} {L R:List SP}
section
variable {x v:Nat} {l:List qR} {bad:Int} {mt:List Int} {s:IM} {err fin left nx:Int}
def MtAt (mt:List Int) (p:Int):Prop:=∃k:Nat,p=k∧∃z:Int,mt[k]? =some z∧ -1≤z∧z≤1000
theorem MtAt.num {mt:List Int} {p z:Int} {k:Nat} (h1:p=k) (h2:mt[k]? =some z):qM mt p=z:=by unfold qM;rw[h1,Int.toNat_natCast,h2];rfl
theorem MtAt.idx {mt:List Int} {k:Nat} {z:Int} (h:mt[k]? =some z):(mt.map (AV.int .i64))[k]? =some (.int .i64 z)∧k<mt.length:=by refine⟨by rw[List.getElem?_map,h];rfl,(List.getElem?_eq_some_iff.1 h).1⟩
theorem qGP {n:Nat} (hn:8≤n) {V:VM} (G:jk V) (hlo:s.opn.length≤100) (hout:s.out.length≤16) (told:ToldD s.out.length s.opn) (hm:∀p∈s.opn,p.op=17→MtAt mt p.pc) (hpc:0≤s.pc∧s.pc≤100)
  (H:HS g h (IntC x v l bad mt s err 0 left (s.pc+1)::ViewC v V::R)) :
  t_w n 194 [.ptr x 0] h λr h'=>r=.int .i64 (yn mt s.opn s V).e∧
   HS g h' (IntC x v l bad mt (yn mt s.opn s V).s err (if(yn mt s.opn s V).blk=true then 3 else 0) left (yn mt s.opn s V).nx::ViewC v (yn mt s.opn s V).v::R):=by
 refine t_e1 (S:=S194) rfl omQ λk hk=>?_;unfold S194;try simp only[iZ]
 generalize hD:yn mt s.opn s V=D;have hs:s={ s with opn:=s.opn }:=rfl;refine jN (λm st h'=>∃(o:List PtM) (V':VM),st=(.ptr x 0,())∧m=o.length∧o.length≤100∧HS g h' (IntC x v l bad mt { s with opn:=o } err 0 left (s.pc+1)::ViewC v V'::R)∧jk V'∧ToldD s.out.length o∧(∀p∈o,p.op=17→MtAt mt p.pc)∧yn mt o s V'=D)
  ?_ (m:=s.opn.length) (by show _<1000000000;omega) ⟨s.opn,V,rfl,rfl,hlo,H,G,told,hm,hD⟩
 clear H G told hm hD hlo hs;rintro m ih st h2 hih ⟨o,V,rfl,rfl,hlo,H,G,told,hm,hD⟩;dsimp only;obtain⟨c,mv,ov,q,H1⟩:=IntC.E H
 have H1:HS g h2 (qg x (gY c mv ov v q bad err 0 left (s.pc+1) s.pc s.regs)::qy 70 5 l.length c (l.flatMap jK)::qy 3 1 mt.length mv (mt.map (.int .i64))::SlaC q s.out::
  qy 270 11 o.length ov (o.reverse.flatMap yi)::ViewC v V::R):=H1
 refine qW (qQ (qK H1 (b:=x) .here rfl ?_));refine qi H1 e_4 ?_;cases o with
 |nil=>refine yV osQ (qJ ?_);refine qW (qQ (qK H1 (b:=x) .here rfl ?_));refine qW (qQ ?_);refine qw H1 (b:=x) .here ⟨rfl,rfl⟩ (by show 16<19;omega) λh3 H3=>?_;refine qW (qQ ?_);refine qw H3 (b:=x) .here ⟨rfl,rfl⟩ (by show 5<19;omega) λh4 H4=>?_;subst hD;exact qk (qj ⟨rfl,IntC.I (s:={ s with opn:=[] }) (c:=c) (mv:=mv) (ov:=ov) (o:=q) H4⟩)
 |cons p o=>
  refine yB (by rw[List.length_cons];omega) (qZ ?_);refine qG (Xk (s:={ s with opn:=p::o }) (p:=p) (o:=o) omQ rfl (by simp at hlo;omega) H) ?_;rintro _ h3 ⟨rfl,H3⟩;clear H H1;refine qO H3 rfl λb h4 H4=>qe H4 .here rfl (by show 0+11≤11;omega) rfl λh5 H5=>?_;have H5:HS g h5 (qg b (yi p)::IntC x v l bad mt { s with opn:=o } err 0 left (s.pc+1)::ViewC v V::R):=H5;clear H3 H4;obtain⟨c,mv,ov,q,H6⟩:=IntC.E (H5.sel (P:=IntC x v l bad mt { s with opn:=o } err 0 left (s.pc+1)) e_1)
  have H6:HS g h5 (qg x (gY c mv ov v q bad err 0 left (s.pc+1) s.pc s.regs)::qy 70 5 l.length c (l.flatMap jK)::qy 3 1 mt.length mv (mt.map (.int .i64))::SlaC q s.out::
   qy 270 11 o.length ov (o.reverse.flatMap yi)::qg b (yi p)::ViewC v V::R):=H6
  refine qW (qQ (qK H6 (b:=x) .here rfl ?_));clear H6;refine qG (OU omQ (H5.sel (P:=ViewC v V) e_2) G.ok) ?_;rintro _ h6 ⟨rfl,H6⟩;have GD:=G.dropG;clear H5;unfold yn at hD;by_cases h0:(xO V).1=0
  ·rw[iJ h0]at hD;refine jY h0 (qJ ?_);refine qQ (qK H6 (b:=b) e_1 rfl ?_);by_cases h17:p.op=17
   ·rw[iJ h17]at hD;refine qx h17 (qZ ?_);refine qD H6 (b:=b) (off:=0) e_1 rfl omQ (l:=yi p) rfl ?_;have H7:=H6.sub (L':=IntC x v l bad mt { s with opn:=o } err 0 left (s.pc+1)::ViewC v (xO V).2::qg b (yi p)::R) (.cons e_2 (.cons .here (.cons .here .refl)));refine qG (ZE (s:={ s with opn:=o }) (p:=p) omQ told.1 hout H7) ?_;intro _ h8 H8;clear H6 H7;obtain⟨c,mv,ov,q,H9⟩:=IntC.E H8
    have H9:HS g h8 (qg x (gY c mv ov v q bad err 0 left (s.pc+1) s.pc p.regs)::qy 70 5 l.length c (l.flatMap jK)::qy 3 1 mt.length mv (mt.map (.int .i64))::SlaC q (s.out.take p.told)::
     qy 270 11 o.length ov (o.reverse.flatMap yi)::ViewC v (xO V).2::qg b (yi p)::R):=H9
    clear H8;obtain⟨kk,hk1,z,hk2,hk3,hk4⟩:=hm p (iK ..) h17;rw[MtAt.num hk1 hk2]at hD;refine qW (qQ (qK H9 (b:=x) .here rfl ?_));refine qQ (qK H9 (b:=b) e_6 rfl ?_);rw[hk1];refine zJ (H9.sl e_2) (MtAt.idx hk2).1 ?_;refine qc omQ ?_;refine qW (qQ ?_);refine qw H9 (b:=x) .here ⟨rfl,rfl⟩ (by show 16<19;omega) λh10 H10=>?_;have H11:HS g h10 (IntC x v l bad mt { QA s p with opn:=o } err 0 left (z+1)::ViewC v (xO V).2::qg b (yi p)::R):=IntC.I (s:={ QA s p with opn:=o }) (c:=c) (mv:=mv) (ov:=ov) (o:=q) H10;clear H9 H10;refine qG (Mn (s:={ QA s p with opn:=o }) (nx0:=z+1) omQ GD.1.ok (by simp at hlo;show o.length≤100;omega) H11) ?_;rintro _ h12 ⟨rfl,H12⟩;subst hD;have hb:(zB 18 z (z+1) { QA s p with opn:=o } (xO V).2).blk=false∧(zB 18 z (z+1) { QA s p with opn:=o } (xO V).2).nx=z+1:=by unfold zB;split<;>exact⟨rfl,rfl⟩
    refine qk (qj ⟨rfl,?_⟩);rw[hb.1,hb.2];exact H12.sub (.cons .here (.cons .here (.drop .refl)))
   ·rw[iQ h17]at hD;refine qX h17 (qJ ?_);exact hih o.length _ _ osQ ⟨o,(xO V).2,rfl,rfl,by simp at hlo;omega,H6.sub (.cons e_2 (.cons .here (.drop .refl))),GD.1,told.tail,λr hr=>hm r (iX _ hr),hD⟩
  ·rw[iQ h0]at hD;refine jj h0 (qZ ?_);subst hD;exact qk (qj ⟨rfl,H6.sub (.cons e_2 (.cons .here (.drop .refl)))⟩)
theorem qYC {n:Nat} (hn:9≤n) {V:VM} {i:qR} (G:jk V) (hlo:s.opn.length≤100) (hout:s.out.length≤16) (told:ToldD s.out.length s.opn) (hm:∀p∈s.opn,p.op=17→MtAt mt p.pc) (hpc:0≤s.pc∧s.pc≤100)
  (hne:i.1=15∨i.1=19∨i.1=18∨i.1=16→s.opn≠[]) (hmt:i.1=18∨i.1=16→MtAt mt s.pc) (H:HS g h (IntC x v l bad mt s err 0 left (s.pc+1)::ViewC v V::R)) :
  t_w n 137 [.ptr x 0,.agg (jK i)] h λr h'=>r=.int .i64 (wZ mt s V i.1).e∧
   HS g h' (IntC x v l bad mt (wZ mt s V i.1).s err (if(wZ mt s V i.1).blk=true then 3 else 0) left (wZ mt s V i.1).nx::ViewC v (wZ mt s V i.1).v::R):=by
 refine t_e2 (S:=S137) rfl omQ λk hk=>?_;unfold S137;try simp only[iZ]
 refine qO H rfl λb h1 H1=>?_;clear H;have H1:HS g h1 (qg b (jK i)::IntC x v l bad mt s err 0 left (s.pc+1)::ViewC v V::R):=H1;refine qQ (qK H1 (b:=b) .here rfl ?_);refine qV ?_
 try dsimp only
 unfold wZ;have HB:=H1.sub (L':=IntC x v l bad mt s err 0 left (s.pc+1)::ViewC v V::qg b (jK i)::R) (.cons e_1 (.cons e_1 (.cons .here .refl)));by_cases c1:i.1=14∨i.1=17
 ·rw[iJ c1]
  have key:wp (ql (.ptr b 0) 0 λv8=>jq h1 v8 λv9=>xU (.ptr x 0) λv10=>ql v10 15 λv11=>jq h1 v11 λv12=>
    jO (callT tab qz k) (.fn 189 [] []) [.ptr x 0,v9,v12] h1 λv13 h14=>ze [] h14 λh15=>some (v13,h15)) λr h'=>r=.int .i64 (zB i.1 s.pc (s.pc+1) s V).e∧
   HS g h' (IntC x v l bad mt (zB i.1 s.pc (s.pc+1) s V).s err (if(zB i.1 s.pc (s.pc+1) s V).blk=true then 3 else 0) left (zB i.1 s.pc (s.pc+1) s V).nx::ViewC v (zB i.1 s.pc (s.pc+1) s V).v::R):=by
   refine qQ (qK H1 (b:=b) .here rfl ?_);obtain⟨c,mv,ov,q,H2⟩:=IntC.E HB;refine qW (qQ (qK H2 (b:=x) .here rfl ?_));refine qG (Mn (nx0:=s.pc+1) omQ G.ok hlo HB) ?_;rintro _ h12 ⟨rfl,H12⟩;have hb:(zB i.1 s.pc (s.pc+1) s V).blk=false∧(zB i.1 s.pc (s.pc+1) s V).nx=s.pc+1:=by unfold zB;split<;>exact⟨rfl,rfl⟩
   refine qk (qj ⟨rfl,?_⟩);rw[hb.1,hb.2];exact H12.sub (.cons .here (.cons .here (.drop .refl)))
  by_cases c2:i.1=14
  ·refine qx c2 (qZ (qZ ?_));exact key
  ·refine qX c2 (qJ ?_);refine qx omQ (qZ ?_);exact key
 ·rw[iQ c1];refine qX omQ (qJ ?_);refine qX omQ (qJ ?_);refine qV ?_
  try dsimp only
  by_cases c3:i.1=15∨i.1=19
  ·rw[iJ c3]
   have key:wp (jO (callT tab qz k) (.fn 190 [] []) [.ptr x 0] h1 λ_ h21=>xU (.ptr x 0) λv22=>ql v22 1 λv23=>jq h21 v23 λv24=>
     jO (callT tab qz k) (.fn 191 [] []) [v24] h21 λv25 h26=>ze [] h26 λh27=>some (v25,h27)) λr h'=>r=.int .i64 (vA V).1∧
    HS g h' (IntC x v l bad mt { s with opn:=s.opn.tail } err (if false=true then 3 else 0) left (s.pc+1)::ViewC v (vA V).2::R):=by
    obtain⟨p,o,ho⟩:∃p o,s.opn=p::o:=List.exists_cons_of_ne_nil (hne omQ);refine qG (Xk (p:=p) (o:=o) omQ ho (by rw[ho]at hlo;simp at hlo;omega) HB) ?_;rintro _ h3 ⟨-,H3⟩;obtain⟨c,mv,ov,q,H4⟩:=IntC.E H3;refine qW (qQ (qK H4 (b:=x) .here rfl ?_));refine qG (qQe omQ (H3.sel (P:=ViewC v V) e_1) G.ok) ?_;rintro _ h5 ⟨rfl,H5⟩;refine qk (qj ⟨rfl,?_⟩);rw[ho];exact H5.sub (.cons e_1 (.cons .here (.drop .refl)))
   by_cases c4:i.1=15
   ·refine qx c4 (qZ (qZ ?_));exact key
   ·refine qX c4 (qJ ?_);refine qx omQ (qZ ?_);exact key
  ·rw[iQ c3];refine qX omQ (qJ ?_);refine qX omQ (qJ ?_);by_cases c5:i.1=18
   ·rw[iJ c5];refine qx c5 (qZ ?_);obtain⟨p,o,ho⟩:∃p o,s.opn=p::o:=List.exists_cons_of_ne_nil (hne omQ);refine qG (Xk (p:=p) (o:=o) omQ ho (by rw[ho]at hlo;simp at hlo;omega) HB) ?_;rintro _ h3 ⟨-,H3⟩;obtain⟨c,mv,ov,q,H4⟩:=IntC.E H3
    have H4:HS g h3 (qg x (gY c mv ov v q bad err 0 left (s.pc+1) s.pc s.regs)::qy 70 5 l.length c (l.flatMap jK)::qy 3 1 mt.length mv (mt.map (.int .i64))::SlaC q s.out::
     qy 270 11 o.length ov (o.reverse.flatMap yi)::ViewC v V::qg b (jK i)::R):=H4
    obtain⟨kk,hk1,z,hk2,hk3,hk4⟩:=hmt (.inl c5);rw[MtAt.num hk1 hk2,ho];refine qW (qQ (qK H4 (b:=x) .here rfl ?_));refine qW (qQ (qK H4 (b:=x) .here rfl ?_));rw[hk1];refine zJ (H4.sl e_2) (MtAt.idx hk2).1 ?_;refine qc omQ ?_;refine qW (qQ ?_);rw[← hk1];refine qw H4 (b:=x) .here ⟨rfl,rfl⟩ (by show 16<19;omega) λh10 H10=>?_;refine qW (qQ (qK H10 (b:=x) .here rfl ?_));have H11:HS g h10 (IntC x v l bad mt { s with opn:=o } err 0 left (z+1)::ViewC v V::qg b (jK i)::R):=IntC.I (s:={ s with opn:=o }) (c:=c) (mv:=mv) (ov:=ov) (o:=q) H10;refine qG (qQe omQ (H11.sel (P:=ViewC v V) e_1) G.ok) ?_;rintro _ h5 ⟨rfl,H5⟩;exact qk (qj ⟨rfl,H5.sub (.cons e_1 (.cons .here (.drop .refl)))⟩)
   ·rw[iQ c5];refine qX c5 (qJ ?_);by_cases c6:i.1=16
    ·rw[iJ c6];refine qx c6 (qZ ?_);obtain⟨p,o,ho⟩:∃p o,s.opn=p::o:=List.exists_cons_of_ne_nil (hne omQ);refine qG (Xk (p:=p) (o:=o) omQ ho (by rw[ho]at hlo;simp at hlo;omega) HB) ?_;rintro _ h3 ⟨rfl,H3⟩;rw[ho]at told;refine qG (ZE (s:={ s with opn:=o }) (p:=p) omQ told.1 hout H3) ?_;intro _ h4 H4';obtain⟨c,mv,ov,q,H4⟩:=IntC.E H4'
     have H4:HS g h4 (qg x (gY c mv ov v q bad err 0 left (s.pc+1) s.pc p.regs)::qy 70 5 l.length c (l.flatMap jK)::qy 3 1 mt.length mv (mt.map (.int .i64))::SlaC q (s.out.take p.told)::
      qy 270 11 o.length ov (o.reverse.flatMap yi)::ViewC v V::qg b (jK i)::R):=H4
     obtain⟨kk,hk1,z,hk2,hk3,hk4⟩:=hmt (.inr c6);rw[MtAt.num hk1 hk2,ho];refine qW (qQ (qK H4 (b:=x) .here rfl ?_));refine qW (qQ (qK H4 (b:=x) .here rfl ?_));rw[hk1];refine zJ (H4.sl e_2) (MtAt.idx hk2).1 ?_;refine qc omQ ?_;refine qW (qQ ?_);refine qw H4 (b:=x) .here ⟨rfl,rfl⟩ (by show 16<19;omega) λh10 H10=>?_;refine qW (qQ (qK H10 (b:=x) .here rfl ?_));have H11:HS g h10 (IntC x v l bad mt { QA s p with opn:=o } err 0 left (z+1)::ViewC v V::qg b (jK i)::R):=IntC.I (s:={ QA s p with opn:=o }) (c:=c) (mv:=mv) (ov:=ov) (o:=q) H10;refine qG (OU omQ (H11.sel (P:=ViewC v V) e_1) G.ok) ?_;rintro _ h5 ⟨rfl,H5⟩;exact qk (qj ⟨rfl,H5.sub (.cons e_1 (.cons .here (.drop .refl)))⟩)
    ·rw[iQ c6];refine qX c6 (qJ ?_);refine qG (qGP omQ G hlo hout told hm hpc HB) ?_;rintro _ h3 ⟨rfl,H3⟩;exact qk (qj ⟨rfl,H3.sub (.cons .here (.cons .here (.drop .refl)))⟩)
end
end Go.Proofs.YtnalffoigcmnnabGreatDoor
namespace Go.Proofs.YtnalffoigcmnnabGreatDoor
open Go Go.Ae
set_option maxRecDepth 100000
variable {g h:AH} {L R:List SP}
section
variable {x v:Nat} {l:List qR} {bad:Int} {mt:List Int} {s:IM} {err fin left nx:Int}
theorem qZR {c mv ov:AV} {q a:Nat} {z:Int} {ai:Int} (hr:s.regs.length=8) (ha:a<8) (hai:ai=a)
  (H:HS g h (qg x ((gY c mv ov v q bad err fin left nx s.pc s.regs).set (6+a*1) (.int .u64 z))::qy 70 5 l.length c (l.flatMap jK)::qy 3 1 mt.length mv (mt.map (.int .i64))::SlaC q s.out::
  qy 270 11 s.opn.length ov (s.opn.reverse.flatMap yi)::R)):HS g h (IntC x v l bad mt (setR s ai z) err fin left nx::R):=by
 rw[qgF hr ha]at H;have e:s.regs.set a z=(setR s ai z).regs:=by unfold setR;rw[hai,Int.toNat_natCast]
 rw[e]at H;exact IntC.I (s:=setR s ai z) H
theorem qVf {n:Nat} (hn:12≤n) {V:VM} {i:qR} {a:Nat} (G:jk V) (ro:Jy s.regs) (hop:i.1=8∨i.1=9∨i.1=10∨i.1=11) (ha:a<8) (hai:i.2.1=a) (hc:0≤i.2.2.2.1∧i.2.2.2.1≤100)
  (H:HS g h (IntC x v l bad mt s err fin left nx::ViewC v V::R)) :
  t_w n 136 [.ptr x 0,.agg (jK i),.ptr x (6+a*1),.int .u64 (qM s.regs i.2.2.1)] h λr h'=>r=.int .i64 (jS s V i).1∧
   HS g h' (IntC x v l bad mt (jS s V i).2.1 err fin left nx::ViewC v (jS s V i).2.2::R):=by
 refine t_e4 (S:=S136) rfl omQ λk hk=>?_;unfold S136;try simp only[iZ]
 refine qO H rfl λb h1 H1=>?_;clear H;have H1:HS g h1 (qg b (jK i)::IntC x v l bad mt s err fin left nx::ViewC v V::R):=H1;have HB:=H1.sub (L':=IntC x v l bad mt s err fin left nx::ViewC v V::qg b (jK i)::R) (.cons e_1 (.cons e_1 (.cons .here .refl)));obtain⟨c,mv,ov,q,H2⟩:=IntC.E HB;refine qQ (qK H1 (b:=b) .here rfl ?_);have hra:=ro.at (a:Int);have hrb:=ro.at i.2.2.1;unfold jS;rw[hai];by_cases c8:i.1=8
 ·rw[iJ c8];refine qx c8 (qZ ?_);refine qQ (qK H1 (b:=b) .here rfl ?_);refine qG (MN omQ hrb hc) ?_;rintro _ _ ⟨rfl,rfl⟩;refine qA rfl (qA rfl ?_);by_cases h0:(yP (qM s.regs i.2.2.1) i.2.2.2.1).2=0
  ·rw[iJ h0];refine jY h0 (qJ ?_);refine qW (qQ (qK H2 (b:=x) .here rfl ?_));refine qG (Qs omQ (HB.sel (P:=ViewC v V) e_1) G.ok) ?_;rintro _ h3 ⟨rfl,H3⟩;refine qA rfl (qA rfl ?_);refine qV ?_
   try dsimp only
   by_cases h4:(qh V (yP (qM s.regs i.2.2.1) i.2.2.2.1).1).1.2=0
   ·rw[iJ h4];refine qx h4 (qZ ?_);obtain⟨c,mv,ov,q,H5⟩:=IntC.E (H3.sel (P:=IntC x v l bad mt s err fin left nx) e_1);refine qW (qw H5 (b:=x) .here ⟨rfl,rfl⟩ (by show 6+a*1<19;omega) λh6 H6=>?_);refine qk (qj ⟨by rw[h4],?_⟩);exact(qZR ro.len ha rfl H6).sub (.cons .here (.cons .here (.drop .refl)))
   ·rw[iQ h4];refine qX h4 (qJ ?_);exact qk (qj ⟨rfl,H3.sub (.cons e_1 (.cons .here (.drop .refl)))⟩)
  ·rw[iQ h0];refine jj h0 (qZ ?_);refine qj ⟨?_,HB.sub (.cons .here (.cons .here (.drop .refl)))⟩;unfold yP at h0 ⊢
   split
   ·rfl
   ·rename_i hh;rw[iQ hh]at h0;exact absurd rfl h0
 ·rw[iQ c8];refine qX c8 (qJ ?_);by_cases c9:i.1=9
  ·rw[iJ c9];refine qx c9 (qZ ?_);refine qW (qK H2 (b:=x) .here (YD ha) ?_);refine qQ (qK H1 (b:=b) .here rfl ?_);refine qG (MN omQ hra hc) ?_;rintro _ _ ⟨rfl,rfl⟩;refine qA rfl (qA rfl ?_);by_cases h0:(yP (qM s.regs (a:Int)) i.2.2.2.1).2=0
   ·rw[iJ h0];refine jY h0 (qJ ?_);refine qW (qQ (qK H2 (b:=x) .here rfl ?_));refine qG (qVp omQ (HB.sel (P:=ViewC v V) e_1) G.ok) ?_;rintro _ h3 ⟨rfl,H3⟩;exact qj ⟨rfl,H3.sub (.cons e_1 (.cons .here (.drop .refl)))⟩
   ·rw[iQ h0];refine jj h0 (qZ ?_);refine qj ⟨?_,HB.sub (.cons .here (.cons .here (.drop .refl)))⟩;unfold yP at h0 ⊢
    split
    ·rfl
    ·rename_i hh;rw[iQ hh]at h0;exact absurd rfl h0
  ·rw[iQ c9];refine qX c9 (qJ ?_);by_cases c10:i.1=10
   ·rw[iJ c10];refine qx c10 (qZ ?_);by_cases h0:2147483648≤qM s.regs i.2.2.1
    ·rw[iJ h0];refine zO omQ (qZ ?_);exact qj ⟨rfl,HB.sub (.cons .here (.cons .here (.drop .refl)))⟩
    ·rw[iQ h0];refine zN omQ (qJ ?_);refine qW (qQ (qK H2 (b:=x) .here rfl ?_));refine xF omQ ?_;refine qG (qKP omQ (HB.sel (P:=ViewC v V) e_1) G.ok G.wd) ?_;rintro _ h3 ⟨rfl,H3⟩;refine qA rfl (qA rfl ?_);refine qV ?_
     try dsimp only
     by_cases h4:(zu V (qM s.regs i.2.2.1)).1.2=0
     ·rw[iJ h4];have hb:=qXo (x:=qM s.regs i.2.2.1) G.wd h4;refine qx h4 (qZ ?_);obtain⟨c,mv,ov,q,H5⟩:=IntC.E (H3.sel (P:=IntC x v l bad mt s err fin left nx) e_1);refine kM omQ (qW ?_);refine qw H5 (b:=x) .here ⟨rfl,rfl⟩ (by show 6+a*1<19;omega) λh6 H6=>?_;refine qk (qj ⟨by rw[h4],?_⟩);exact(qZR ro.len ha rfl H6).sub (.cons .here (.cons .here (.drop .refl)))
     ·rw[iQ h4];refine qX h4 (qJ ?_);exact qk (qj ⟨rfl,H3.sub (.cons e_1 (.cons .here (.drop .refl)))⟩)
   ·rw[iQ c10];refine qX c10 (qJ ?_);refine qW (qK H2 (b:=x) .here (YD ha) ?_);by_cases h0:2147483648≤qM s.regs (a:Int)
    ·rw[iJ h0];refine zO omQ (qZ ?_);exact qj ⟨rfl,HB.sub (.cons .here (.cons .here (.drop .refl)))⟩
    ·rw[iQ h0];refine zN omQ (qJ ?_);refine qW (qQ (qK H2 (b:=x) .here rfl ?_));refine qW (qK H2 (b:=x) .here (YD ha) ?_);refine xF omQ ?_;refine qG (qWa omQ (HB.sel (P:=ViewC v V) e_1) G.ok) ?_;rintro _ h3 ⟨rfl,H3⟩;exact qj ⟨rfl,H3.sub (.cons e_1 (.cons .here (.drop .refl)))⟩
structure DoP (l:List qR) (mt:List Int) (s:IM) (V:VM) (i:qR):Prop where
  good:jk V
  regs:Jy s.regs
  out:s.out.length≤16
  lo:s.opn.length≤100
  told:ToldD s.out.length s.opn
  ways:∀p∈s.opn,p.op=17→MtAt mt p.pc
  pc:0≤s.pc∧s.pc≤100
  op:1≤i.1∧i.1<23
  a:0≤i.2.1∧i.2.1≤7
  b:0≤i.2.2.1∧i.2.2.1≤7
  c:0≤i.2.2.2.1∧i.2.2.2.1≤100
  c7:3≤i.1∧i.1≤7→i.2.2.2.1≤7
  ne:i.1=15∨i.1=19∨i.1=18∨i.1=16→s.opn≠[]
  mt:i.1=18∨i.1=16→MtAt mt s.pc
theorem qw8 {n:Nat} (hn:13≤n) {V:VM} {i:qR} (P:DoP l mt s V i) (H:HS g h (IntC x v l bad mt s err 0 left (s.pc+1)::ViewC v V::R)) :
  t_w n 90 [.ptr x 0,.agg (jK i)] h λr h'=>r=.int .i64 (doM mt s V i).e∧
   HS g h' (IntC x v l bad mt (doM mt s V i).s err (if(doM mt s V i).blk=true then 3 else 0) left (doM mt s V i).nx::ViewC v (doM mt s V i).v::R):=by
 refine t_e2 (S:=S90) rfl omQ λk hk=>?_;unfold S90;try simp only[iZ]
 refine qO H rfl λb h1 H1=>?_;clear H;have H1:HS g h1 (qg b (jK i)::IntC x v l bad mt s err 0 left (s.pc+1)::ViewC v V::R):=H1;have HB:=H1.sub (L':=IntC x v l bad mt s err 0 left (s.pc+1)::ViewC v V::qg b (jK i)::R) (.cons e_1 (.cons e_1 (.cons .here .refl)));obtain⟨c,mv,ov,q,H2⟩:=IntC.E HB;obtain⟨a,ha1,ha2,ha3⟩:=qqu P.a.1;obtain⟨bb,hb1,hb2,hb3⟩:=qqu P.b.1;obtain⟨cc,hc1,hc2,hc3⟩:=qqu P.c.1;have ha3:=ha3 (by have:=P.a.2;omega);have hb3:=hb3 (by have:=P.b.2;omega);have ro:=P.regs;have hop:=P.op;have hc7:=P.c7;refine qQ (qK H1 (b:=b) .here rfl (JZ od ?_));rw[ha1];refine qW (qQ (OB ha2 ?_));refine qQ (qK H1 (b:=b) .here rfl (JZ od ?_));rw[hb1];refine qW (qQ (OB hb2 ?_));refine qK H2 (b:=x) .here (YD hb2) ?_;refine qQ (qK H1 (b:=b) .here rfl (JZ od ?_));rw[hc1];refine qW (qQ (OB hc2 ?_));refine qK H2 (b:=x) .here (YD hc2) ?_;refine qQ (qK H1 (b:=b) .here rfl ?_);refine qV ?_
 try dsimp only
 have fin:∀(z:Int) (D:SM) (h0:AH),D=⟨0,s.pc+1,false,setR s i.2.1 z,V⟩→HS g h0 (IntC x v l bad mt s err 0 left (s.pc+1)::ViewC v V::qg b (jK i)::R)→
   wp (xU (.ptr x (6+a*1)) λv32=>jC h0 v32 (.int .u64 z) 1 λh33=>ze [] h33 λh28=>some (.int .i64 ((0:Nat):Int),h28)) λr h'=>r=.int .i64 D.e∧
    HS g h' (IntC x v l bad mt D.s err (if D.blk=true then 3 else 0) left D.nx::ViewC v D.v::R):=by
  rintro z D h0 rfl H0;obtain⟨c,mv,ov,q,H5⟩:=IntC.E H0;refine qW (qw H5 (b:=x) .here ⟨rfl,rfl⟩ (by show 6+a*1<19;omega) λh6 H6=>?_);refine qk (qj ⟨rfl,?_⟩);exact(qZR ro.len ha2 ha3 H6).sub (.cons .here (.cons .here (.drop .refl)))
 by_cases c1:i.1=1
 ·refine qx c1 (qZ ?_);refine qQ (qK H1 (b:=b) .here rfl ?_);exact fin _ _ _ (by unfold doM;rw[iJ c1]) HB
 refine qX c1 (qJ ?_);by_cases c2:i.1=2
 ·refine qx c2 (qZ ?_);exact fin _ _ _ (by unfold doM;rw[iQ c1,iJ c2,hb3]) HB
 refine qX c2 (qJ ?_);by_cases c3:i.1=3
 ·refine qx c3 (qZ (OO ?_));have hc3:=hc3 (by have:=hc7 omQ;omega);exact fin _ _ _ (by unfold doM;rw[iQ c1,iQ c2,iJ c3,hb3,hc3]) HB
 refine qX c3 (qJ ?_);by_cases c4:i.1=4
 ·refine qx c4 (qZ (qJi ?_));have hc3:=hc3 (by have:=hc7 omQ;omega);exact fin _ _ _ (by unfold doM;rw[iQ c1,iQ c2,iQ c3,iJ c4,hb3,hc3]) HB
 refine qX c4 (qJ ?_);by_cases c5:i.1=5
 ·refine qx c5 (qZ (qqo ?_));have hc3:=hc3 (by have:=hc7 omQ;omega);exact fin _ _ _ (by unfold doM;rw[iQ c1,iQ c2,iQ c3,iQ c4,iJ c5,hb3,hc3]) HB
 refine qX c5 (qJ ?_);by_cases c6:i.1=6
 ·refine qx c6 (qZ (YQ ?_));have hc3:=hc3 (by have:=hc7 omQ;omega);refine qG (NJ omQ) ?_;rintro _ _ ⟨rfl,rfl⟩;exact fin _ _ _ (by unfold doM;rw[iQ c1,iQ c2,iQ c3,iQ c4,iQ c5,iJ c6,hb3,hc3]) HB
 refine qX c6 (qJ ?_);by_cases c7:i.1=7
 ·refine qx c7 (qZ (XJ ?_));have hc3:=hc3 (by have:=hc7 omQ;omega);refine qG (NJ omQ) ?_;rintro _ _ ⟨rfl,rfl⟩;exact fin _ _ _ (by unfold doM;rw[iQ c1,iQ c2,iQ c3,iQ c4,iQ c5,iQ c6,iJ c7,hb3,hc3]) HB
 refine qX c7 (qJ ?_);by_cases c12:i.1=12
 ·refine qx c12 (qZ ?_);have e:doM mt s V i=⟨0,i.2.2.2.1,false,s,V⟩:=by unfold doM;rw[iQ c1,iQ c2,iQ c3,iQ c4,iQ c5,iQ c6,iQ c7,iJ c12]
  rw[e];refine qQ (qK H1 (b:=b) .here rfl ?_);refine qW (qQ ?_);refine qw H2 (b:=x) .here ⟨rfl,rfl⟩ (by show 16<19;omega) λh6 H6=>?_;exact qk (qj ⟨rfl,(IntC.I (c:=c) (mv:=mv) (ov:=ov) (o:=q) H6).sub (.cons .here (.cons .here (.drop .refl)))⟩)
 refine qX c12 (qJ ?_);by_cases c13:i.1=13
 ·refine qx c13 (qZ ?_);have e:doM mt s V i=⟨0,if qM s.regs i.2.1=0 then i.2.2.2.1 else s.pc+1,false,s,V⟩:=by unfold doM;rw[iQ c1,iQ c2,iQ c3,iQ c4,iQ c5,iQ c6,iQ c7,iQ c12,iJ c13]
  rw[e,ha3];refine qW (qK H2 (b:=x) .here (YD ha2) ?_);by_cases hz:qM s.regs (a:Int)=0
  ·rw[iJ hz];refine qx hz (qZ ?_);refine qQ (qK H1 (b:=b) .here rfl ?_);refine qW (qQ ?_);refine qw H2 (b:=x) .here ⟨rfl,rfl⟩ (by show 16<19;omega) λh6 H6=>?_;exact qk (qj ⟨rfl,(IntC.I (c:=c) (mv:=mv) (ov:=ov) (o:=q) H6).sub (.cons .here (.cons .here (.drop .refl)))⟩)
  ·rw[iQ hz];refine qX hz (qJ ?_);exact qk (qj ⟨rfl,HB.sub (.cons .here (.cons .here (.drop .refl)))⟩)
 refine qX c13 (qJ ?_);by_cases c21:i.1=21
 ·refine qx c21 (qZ ?_);refine qW (qQ (qK H2 (b:=x) .here rfl ?_));refine qW (qK H2 (b:=x) .here (YD ha2) ?_);refine qG (qxE omQ (H2.sel (P:=SlaC q s.out) e_3) P.out) ?_;rintro _ h3 ⟨rfl,H3⟩;by_cases h16:16≤s.out.length
  ·have e:doM mt s V i=⟨5,s.pc+1,false,s,V⟩:=by unfold doM;rw[iQ c1,iQ c2,iQ c3,iQ c4,iQ c5,iQ c6,iQ c7,iQ c12,iQ c13,iJ c21,iJ h16]
   rw[e];rw[iQ omQ]at H3;rw[iV omQ];refine jV (qZ ?_);exact qj ⟨rfl,(IntC.I (c:=c) (mv:=mv) (ov:=ov) (o:=q) (R:=ViewC v V::qg b (jK i)::R) (H3.sub (.cons e_1 (.cons e_1 (.cons e_1 (.cons .here (.cons .here .refl))))))).sub (.cons .here (.cons .here (.drop .refl)))⟩
  ·have e:doM mt s V i=⟨0,s.pc+1,false,{ s with out:=s.out++[(1,qM s.regs i.2.1)] },V⟩:=by unfold doM;rw[iQ c1,iQ c2,iQ c3,iQ c4,iQ c5,iQ c6,iQ c7,iQ c12,iQ c13,iJ c21,iQ h16]
   rw[e,ha3];rw[iJ omQ]at H3;rw[iG omQ];refine jX (qJ ?_);exact qk (qj ⟨rfl,(IntC.I (s:={ s with out:=s.out++[(1,qM s.regs (a:Int))] }) (c:=c) (mv:=mv) (ov:=ov) (o:=q) (R:=ViewC v V::qg b (jK i)::R) (H3.sub (.cons e_1 (.cons e_1 (.cons e_1 (.cons .here (.cons .here .refl))))))).sub (.cons .here (.cons .here (.drop .refl)))⟩)
 refine qX c21 (qJ ?_);by_cases c22:i.1=22
 ·refine qx c22 (qZ ?_);have e:doM mt s V i=⟨13,s.pc+1,false,s,V⟩:=by unfold doM;rw[iQ c1,iQ c2,iQ c3,iQ c4,iQ c5,iQ c6,iQ c7,iQ c12,iQ c13,iQ c21,iJ c22]
  rw[e];exact qj ⟨rfl,HB.sub (.cons .here (.cons .here (.drop .refl)))⟩
 refine qX c22 (qJ ?_);refine qX omQ (qJ ?_);refine qV ?_
 try dsimp only
 by_cases ct:i.1=8∨i.1=9∨i.1=10∨i.1=11
 ·have e:doM mt s V i=⟨(jS s V i).1,s.pc+1,false,(jS s V i).2.1,(jS s V i).2.2⟩:=by unfold doM;rw[iQ c1,iQ c2,iQ c3,iQ c4,iQ c5,iQ c6,iQ c7,iQ c12,iQ c13,iQ c21,iQ c22,iJ ct]
  rw[e];have key:wp (zW h1 (.ptr b 0) 5 λv94=>jO (callT tab qz k) (.fn 136 [] []) [.ptr x 0,v94,.ptr x (6+a*1),.int .u64 (qM s.regs (bb:Int))] h1 λv95 h96=>ze [] h96 λh97=>some (v95,h97)) λr h'=>
    r=.int .i64 (jS s V i).1∧HS g h' (IntC x v l bad mt (jS s V i).2.1 err (if false=true then 3 else 0) left (s.pc+1)::ViewC v (jS s V i).2.2::R):=by
   refine qD H1 (b:=b) (off:=0) .here rfl omQ (l:=jK i) rfl ?_;rw[← hb3];refine qG (qVf omQ P.good ro ct ha2 ha3 P.c HB) ?_;rintro _ h3 ⟨rfl,H3⟩;exact qk (qj ⟨rfl,H3.sub (.cons .here (.cons .here (.drop .refl)))⟩)
  by_cases t8:i.1=8
  ·refine qx t8 (qZ (qZ ?_));exact key
  refine qX t8 (qJ ?_);by_cases t9:i.1=9
  ·refine qx t9 (qZ (qZ ?_));exact key
  refine qX t9 (qJ ?_);by_cases t10:i.1=10
  ·refine qx t10 (qZ (qZ ?_));exact key
  refine qX t10 (qJ ?_);refine qx omQ (qZ ?_);exact key
 ·have e:doM mt s V i=wZ mt s V i.1:=by unfold doM;rw[iQ c1,iQ c2,iQ c3,iQ c4,iQ c5,iQ c6,iQ c7,iQ c12,iQ c13,iQ c21,iQ c22,iQ ct]
  rw[e];refine qX omQ (qJ ?_);refine qX omQ (qJ ?_);refine qX omQ (qJ ?_);refine qX omQ (qJ ?_);refine qD H1 (b:=b) (off:=0) .here rfl omQ (l:=jK i) rfl ?_;refine qG (qYC omQ P.good P.lo P.out P.told P.ways P.pc P.ne P.mt HB) ?_;rintro _ h3 ⟨rfl,H3⟩;exact qk (qj ⟨rfl,H3.sub (.cons .here (.cons .here (.drop .refl)))⟩)
end
end Go.Proofs.YtnalffoigcmnnabGreatDoor
namespace Go.Proofs.YtnalffoigcmnnabGreatDoor
open Go Go.Ae
set_option maxRecDepth 100000
variable {g h:AH} {L R:List SP}
theorem gC {a:List Int} {k:Nat} (h:k<a.length):a[k]? =some (qM a (k:Int)):=by unfold qM;rw[Int.toNat_natCast,iW h];rfl
theorem qXa {x:qR} (h:vR x=true) (hx:x.1≠23):(1≤x.1∧x.1<23)∧(0≤x.2.1∧x.2.1≤7)∧(0≤x.2.2.1∧x.2.2.1≤7)∧(0≤x.2.2.2.1∧x.2.2.2.1≤40)∧(3≤x.1∧x.1≤7→x.2.2.2.1≤7):=by
 unfold vR vP at h;simp only[Bool.and_eq_true,decide_eq_true_eq]at h;obtain⟨⟨⟨⟨h1,h2⟩,h3⟩,h4⟩,_⟩:=h;unfold jF at h2 h3 h4;by_cases c1:x.1=1∨x.1=11∨x.1=21
 ·rw[iJ c1]at h2 h3 h4;dsimp only at h2 h3 h4;omega
 rw[iQ c1]at h2 h3 h4;by_cases c2:x.1=2∨x.1=10
 ·rw[iJ c2]at h2 h3 h4;dsimp only at h2 h3 h4;omega
 rw[iQ c2]at h2 h3 h4;by_cases c3:x.1=3∨x.1=4∨x.1=5∨x.1=6∨x.1=7
 ·rw[iJ c3]at h2 h3 h4;dsimp only at h2 h3 h4;omega
 rw[iQ c3]at h2 h3 h4;by_cases c4:x.1=8∨x.1=9
 ·rw[iJ c4]at h2 h3 h4;dsimp only at h2 h3 h4;omega
 rw[iQ c4]at h2 h3 h4;by_cases c5:x.1=12
 ·rw[iJ c5]at h2 h3 h4;dsimp only at h2 h3 h4;omega
 rw[iQ c5]at h2 h3 h4;by_cases c6:x.1=13
 ·rw[iJ c6]at h2 h3 h4;dsimp only at h2 h3 h4;omega
 rw[iQ c6,iQ hx]at h2 h3 h4;dsimp only at h2 h3 h4;omega
theorem Of {l:List qR} (F:Fit l) {k:Nat} (hk:k<l.length) (ho:(qP l k).1=14∨(qP l k).1=17∨(qP l k).1=18∨(qP l k).1=16):MtAt (qL l) (k:Int):=by
 have hl:=F.le;refine⟨k,rfl,_,gC (by rw[qVm];exact hk),?_⟩;by_cases h:(qP l k).1=16
 ·obtain⟨e,e1,e2,_⟩:=kb F hk h;rw[e1];omega
 ·obtain⟨e,e1,_,e2,_⟩:=gZ F hk omQ;rw[e1];omega
theorem qwp {l:List qR} {s:IM} {V:VM} (F:Fit l) (G:GI l s V) {i:Nat} (hi:s.pc=i) (hlt:i<l.length) (hx:(qP l i).1≠23):DoP l (qL l) s V (qP l i):=by
 have hw:=yz (F.ok i hlt);have hwo:=xv (F.ok i hlt);have hb:=qXa hw.1 hx;have hol:=K7 G;have h5:=Ub F i omQ;have hl:=F.le;rw[hi,Int.toNat_natCast]at hol;refine⟨G.good,G.gb.regs,G.gb.out,by omega,G.told,?_,by omega,hb.1,hb.2.1,hb.2.2.1,by omega,hb.2.2.2.2,?_,?_⟩
 ·intro p hp hop;obtain⟨q,hq,hql⟩:=(G.pts p hp).pc;have:=(G.pts p hp).op.2;rw[hop,hq]at this;rw[hq];exact Of F hql omQ
 ·intro ho h0;rw[h0]at hol;have he:0<jr (qP l i).1∨(qP l i).1=16:=by
   rcases ho with h |h |h |h
   ·exact .inl (by rw[h];decide)
   ·exact .inl (by rw[h];decide)
   ·exact .inl (by rw[h];decide)
   ·exact .inr h
  exact hwo.2.1 he (iA hol.symm)
 ·intro ho;rw[hi];exact Of F hlt omQ
def Quiet (l:List qR):Prop:=∀x∈l,x.1≠23∧0≤x.2.2.2.2∧x.2.2.2.2<18446744073709551616
theorem Quiet.at {l:List qR} (Q:Quiet l) {i:Nat} (h:i<l.length):(qP l i).1≠23∧0≤(qP l i).2.2.2.2∧(qP l i).2.2.2.2<18446744073709551616:=by rw[xi h];exact Q _ (List.getElem_mem h)
structure RunB (V:VM) (r:RM):Prop where
  gb:GB r.s
  good:jk r.v
  sz:r.v.sz=V.sz
  K:r.v.K=V.K
  most:r.v.most=V.most
theorem Gs {l:List qR} (F:Fit l) (Q:Quiet l):∀(n:Nat) {s:IM} {V:VM},GI l s V→frS V.lv+n<9000→RunB V (jg l (qL l) n s V)∧frS (jg l (qL l) n s V).v.lv≤frS V.lv+n∧
  ((jg l (qL l) n s V).kind=2→(jg l (qL l) n s V).v.lv.length=1)∧
  ((jg l (qL l) n s V).kind=1→GI l (jg l (qL l) n s V).s (jg l (qL l) n s V).v∧1≤(jg l (qL l) n s V).v.need∧(jg l (qL l) n s V).v.need<V.sz∧zj (jg l (qL l) n s V).v.need V.K=none)∧
  ((jg l (qL l) n s V).kind=1∨(jg l (qL l) n s V).kind=2∨(jg l (qL l) n s V).kind=3∨(jg l (qL l) n s V).kind=4):=by
 intro n
 induction n with
 |zero=>
  intro s V G hf;rw[gw]
  split
  ·rename_i h0;refine⟨⟨G.gb,G.good,rfl,rfl,rfl⟩,by simp,λ_=>?_,λh=>(by cases h),by simp⟩;have:=K7 G;rw[h0,Int.toNat_natCast,F.nil]at this;have hl:=G.lv;show V.lv.length=1;rw[hl,this];rfl
  ·exact⟨⟨G.gb,G.good,rfl,rfl,rfl⟩,by simp,λh=>(by cases h),λh=>(by cases h),by simp⟩
 |succ n ih=>
  intro s V G hf;rw[gu]
  split
  ·rename_i h0;refine⟨⟨G.gb,G.good,rfl,rfl,rfl⟩,by simp,λ_=>?_,λh=>(by cases h),by simp⟩;have:=K7 G;rw[h0,Int.toNat_natCast,F.nil]at this;have hl:=G.lv;show V.lv.length=1;rw[hl,this];rfl
  ·rename_i h0;obtain⟨i,hi,hil⟩:=G.pc;have hlt:i<l.length:=by omega
   rw[hi];have S:=JD F G hi hlt omQ (Q.at hlt).2 (Q.at hlt).1;generalize doM (qL l) s V (qP l i)=D at*
   split
   ·rename_i h1
    split
    ·exact⟨⟨⟨S.gb.regs,S.gb.out,S.gb.its⟩,S.good,S.sz,S.K,S.most⟩,by have:=S.fr;dsimp only;omega,λh=>(by cases h),λh=>(by cases h),by simp⟩
    ·rename_i h2;have G2:=S.next h1 (by simpa using h2);have hfr:=S.fr;obtain⟨a,b,c,d,e⟩:=ih G2 omQ;refine⟨⟨a.gb,a.good,a.sz.trans S.sz,a.K.trans S.K,a.most.trans S.most⟩,by omega,c,λh=>?_,e⟩;have:=d h;rw[S.sz,S.K]at this;exact this
   ·split
    ·rename_i h11;obtain⟨n1,n2,n3,n4,n5⟩:=S.need h11;refine⟨⟨S.gb,S.good,S.sz,S.K,S.most⟩,by have:=S.fr;dsimp only;omega,λh=>(by cases h),λ_=>⟨?_,n3,n4,n5⟩,by simp⟩;show GI l D.s D.v;rw[n1];exact⟨G.gb,G.pc,G.pts,G.told,G.stk,by rw[n2];exact G.lv,S.good⟩
    ·exact⟨⟨S.gb,S.good,S.sz,S.K,S.most⟩,by have:=S.fr;dsimp only;omega,λh=>(by cases h),λh=>(by cases h),by simp⟩
section
variable {x v:Nat} {l:List qR} {bad:Int} {mt:List Int} {s:IM} {err fin left nx:Int}
theorem qX2 {n:Nat} (hn:14≤n) (F:Fit l) (Q:Quiet l) {left:Nat} {V:VM} (G:GI l s V) (hf:frS V.lv+left<9000) (hl:left≤1000) (H:HS g h (IntC x v l 0 (qL l) s 0 0 left nx::ViewC v V::R)) :
  t_w n 46 [.ptr x 0] h λr h'=>r=.int .i64 (jg l (qL l) left s V).kind∧
   ∃nx',HS g h' (IntC x v l 0 (qL l) (jg l (qL l) left s V).s (jg l (qL l) left s V).err (if(jg l (qL l) left s V).kind=1 then 0 else(jg l (qL l) left s V).kind) ((jg l (qL l) left s V).left:Int) nx'::ViewC v (jg l (qL l) left s V).v::R):=by
 refine t_e1 (S:=S46) rfl omQ λk hk=>?_;unfold S46;try simp only[iZ]
 generalize hRM:jg l (qL l) left s V=RM
 refine jN (λm st h'=>st=(.ptr x 0,())∧((∃(s':IM) (V':VM) (left':Nat) (nx':Int),m=left'+1∧left'≤1000∧GI l s' V'∧frS V'.lv+left'<9000∧jg l (qL l) left' s' V'=RM∧HS g h' (IntC x v l 0 (qL l) s' 0 0 left' nx'::ViewC v V'::R))∨
   (m=0∧RM.kind≠0∧RM.kind≠1∧∃nx',HS g h' (IntC x v l 0 (qL l) RM.s RM.err RM.kind RM.left nx'::ViewC v RM.v::R))))
  ?_ (m:=left+1) (by show _<1000000000;omega) ⟨rfl,.inl ⟨s,V,left,nx,rfl,hl,G,hf,hRM,H⟩⟩
 clear H G hf hRM hl;rintro m ih st h2 hih ⟨rfl,⟨s,V,left,nx,rfl,hl,G,hf,hRM,H⟩ |⟨rfl,hk0,hk1,nx,H⟩⟩
 rotate_left
 ·dsimp only;obtain⟨c,mv,ov,q,H1⟩:=IntC.E H;refine qW (qQ (qK H1 (b:=x) .here rfl ?_));refine qX hk0 (qJ ?_);refine qW (qQ (qK H1 (b:=x) .here rfl ?_));refine qk (qj ⟨rfl,nx,?_⟩);rw[iQ hk1];exact H
 dsimp only;obtain⟨i,hi,hil⟩:=G.pc;have hlen:=F.le;obtain⟨c,mv,ov,q,H1⟩:=IntC.E H;refine qW (qQ (qK H1 (b:=x) .here rfl ?_));refine qx rfl (qZ ?_);refine qV ?_
 try dsimp only
 refine qW (qQ (qK H1 (b:=x) .here rfl ?_));refine jY rfl (qJ ?_);refine qW (qQ (qK H1 (b:=x) .here rfl ?_));refine qW (qQ (qQ (qK H1 (b:=x) .here rfl ?_)));refine qi H1 e_1 ?_;by_cases h0:s.pc=l.length
 ·refine qx h0 (qZ ?_);rw[Vv h0]at hRM;subst hRM;refine qW (qQ ?_);refine qw H1 (b:=x) .here ⟨rfl,rfl⟩ (by show 5<19;omega) λh3 H3=>?_;exact hih 0 _ _ omQ ⟨rfl,.inr ⟨rfl,by show(2:Int)≠0;decide,by show(2:Int)≠1;decide,nx,IntC.I (c:=c) (mv:=mv) (ov:=ov) (o:=q) H3⟩⟩
 refine qX h0 (qJ ?_);refine qW (qQ (qK H1 (b:=x) .here rfl ?_));cases left with
 |zero=>refine qx rfl (qZ ?_);rw[gw,iQ h0]at hRM;subst hRM;refine qG (O7 omQ H) ?_;intro _ h3 H3;exact hih 0 _ _ omQ ⟨rfl,.inr ⟨rfl,by show(4:Int)≠0;decide,by show(4:Int)≠1;decide,nx,H3⟩⟩
 |succ left=>
  refine qX omQ (qJ ?_);rw[gu,iQ h0]at hRM;have hlt:i<l.length:=by omega
  have S:=JD F G hi hlt omQ (Q.at hlt).2 (Q.at hlt).1;have P:=qwp F G hi hlt (Q.at hlt).1;refine qW (qQ (qK H1 (b:=x) .here rfl ?_));rw[hi];refine qc omQ (qW (qQ ?_));refine qw H1 (b:=x) .here ⟨rfl,rfl⟩ (by show 16<19;omega) λh3 H3=>?_;refine qW (qQ (qQ (qK H3 (b:=x) .here rfl ?_)));refine qW (qQ (qK H3 (b:=x) .here rfl ?_));rw[hi];refine zU (l:=jK l[i]) (H3.sl e_1) hlt omQ (Xm hlt) ?_;have H4:HS g h3 (IntC x v l 0 (qL l) s 0 0 ((left+1:Nat):Int) (s.pc+1)::ViewC v V::R):=IntC.I (c:=c) (mv:=mv) (ov:=ov) (o:=q) (by rw[hi]at H3 ⊢;exact H3);clear H H1 H3;rw[← xi hlt];refine qG (qw8 omQ P H4) ?_;rintro _ h5 ⟨rfl,H5⟩;rw[hi]at hRM;generalize doM (qL l) s V (qP l i)=D at*;refine qV ?_
  try dsimp only
  obtain⟨c,mv,ov,q,H6⟩:=IntC.E H5;by_cases h1:D.e=0
  ·refine qx h1 (qZ ?_);rw[iJ h1]at hRM;refine qW (qQ (qK H6 (b:=x) .here rfl ?_));refine qW (qQ ?_);refine qw H6 (b:=x) .here ⟨rfl,rfl⟩ (by show 15<19;omega) λh7 H7=>?_;refine qW (qQ (qK H7 (b:=x) .here rfl ?_));refine zQ omQ (qW (qQ ?_));rw[show((left+1:Nat):Int)-((1:Nat):Int)=(left:Int) by omega];refine qw H7 (b:=x) .here ⟨rfl,rfl⟩ (by show 17<19;omega) λh8 H8=>?_;have H9:HS g h8 (IntC x v l 0 (qL l) { D.s with pc:=D.nx } 0 (if D.blk=true then 3 else 0) left D.nx::ViewC v D.v::R):=IntC.I (s:={ D.s with pc:=D.nx }) (c:=c) (mv:=mv) (ov:=ov) (o:=q) H8;clear H6 H7 H8 H5;cases h2:D.blk with
   |true=>rw[h2,iJ rfl]at hRM;rw[h2,iJ rfl]at H9;subst hRM;exact hih 0 _ _ omQ ⟨rfl,.inr ⟨rfl,by show(3:Int)≠0;decide,by show(3:Int)≠1;decide,D.nx,H9⟩⟩
   |false=>rw[h2,iQ osQ]at hRM;rw[h2,iQ osQ]at H9;have:=S.fr;exact hih (left+1) _ _ omQ ⟨rfl,.inl ⟨_,D.v,left,D.nx,rfl,by omega,S.next h1 h2,by omega,hRM,H9⟩⟩
  ·refine qX h1 (qJ ?_);rw[iQ h1]at hRM;have hb:D.blk=false:=by
    cases hb:D.blk with
    |false=>rfl
    |true=>exact absurd (S.bl hb) h1
   rw[hb,iQ osQ]at H5;by_cases h11:D.e=11
   ·rw[iJ h11]at hRM;subst hRM;refine qx h11 (qZ ?_);refine qk (qj ⟨rfl,D.nx,?_⟩);rw[iJ rfl];exact H5
   ·rw[iQ h11]at hRM;subst hRM;refine qX h11 (qJ ?_);refine qG (O7 omQ H5) ?_;intro _ h7 H7;exact hih 0 _ _ omQ ⟨rfl,.inr ⟨rfl,by show(4:Int)≠0;decide,by show(4:Int)≠1;decide,D.nx,H7⟩⟩
end
end Go.Proofs.YtnalffoigcmnnabGreatDoor
namespace Go.Proofs.YtnalffoigcmnnabGreatDoor
open Go Go.Ae
set_option maxRecDepth 100000
variable {g h:AH} {L R:List SP}
def Gn (l:List qR):List Int:=if(xB l).2=0 then qL l else[]
theorem qQu {n:Nat} (hn:7≤n) {l:List qR} {sv:AV} (H:HS g h R) (S:Rd g R 5 l.length sv (l.flatMap jK)) (hl:l.length≤100) :
  t_w n 87 [.agg [sv]] h λv h'=>HS g h' (qy 3 1 (Gn l).length v ((Gn l).map (.int .i64))::R):=by
 refine t_e1 (S:=S87) rfl omQ λk hk=>?_;unfold S87;try simp only[iZ]
 refine qO H (yh (kj (S.sl H))) λb0 h1 H1=>?_;have hLV:=(S.sl H).lenV;clear H;refine qD H1 (b:=b0) (off:=0) .here rfl omQ rfl ?_;refine qG (Nq omQ H1 S.more hl) ?_;rintro _ h2 ⟨rfl,H2⟩;clear H1;refine qA rfl ?_;refine qA rfl ?_;by_cases c0:(xB l).2=0
 rotate_left
 ·refine jj c0 ?_;refine qZ ?_;unfold Gn;rw[iQ c0];exact qj H2.drop.nils
 have hG:=U3 c0;have F:=QM c0;have hnr:=λ{j:Nat} (h:j<l.length)=>wz F h;have hrg:=λ{j:Nat} (h:j<l.length)=>F.reg j h;unfold Gn;rw[iJ c0];have hM:qL l=mt2 l (vC l 0 []) l.length:=rfl;rw[hM];clear hM;refine jY c0 ?_;refine qJ (qD H2 (b:=b0) (off:=0) .here rfl omQ rfl ?_);refine qG (Ky omQ H2 S.more hG hl) ?_;intro av h3 H3;clear H2;refine qQ (qK ‹_› e_1 rfl ?_);refine yA ‹_› ?_;refine GF (n:=l.length) H3 omQ λev h4 H4=>?_;refine qi H4 .here ?_;clear H3;have hA:(vC l 0 []).length=l.length:=UK;have hin:=λ{i:Nat}=>qyI (i:=i) hG;generalize vC l 0 []=A at*
 refine jN (λm s h'=>∃(i:Nat),s=(.int .i64 (i:Int),.int .i64 (l.length:Int),ev,av,.ptr b0 0,())∧i≤l.length∧m=l.length-i∧
  HS g h' (qy 3 1 l.length ev ((List.replicate i (-1:Int)++List.replicate (l.length-i) 0).map (.int .i64))::qy 3 1 l.length av (A.map (.int .i64))::qg b0 [sv]::R))
  ?_ (m:=l.length) (by show _<1000000000;omega) ⟨0,rfl,by omega,by omega,by rw[List.replicate_zero,List.nil_append,Nat.sub_zero,List.map_replicate];exact H4⟩
 clear H4;rintro m ih s h5 hih ⟨i,rfl,hi,rfl,H⟩;dsimp only;by_cases hlt:i<l.length
 ·refine jd omQ ?_;refine qZ (Gc H hlt ⟨rfl,rfl⟩ λh6 H6=>?_);refine qc omQ ?_;have h0:(AV.int .i64 (Int.negSucc 0))=.int .i64 (-1):=rfl;rw[h0,← List.map_set]at H6;have es:(List.replicate i (-1:Int)++List.replicate (l.length-i) 0).set i (-1)=List.replicate (i+1) (-1:Int)++List.replicate (l.length-(i+1)) 0:=by
   rw[show l.length-i=(l.length-(i+1))+1 by omega,List.replicate_succ,List.set_append_right _ _ osQ,List.length_replicate,Nat.sub_self,List.set_cons_zero,List.replicate_succ' (n:=i),List.append_assoc];rfl
  rw[es]at H6;exact hih (l.length-(i+1)) _ _ omQ ⟨i+1,rfl,by omega,rfl,H6⟩
 obtain rfl:i=l.length:=by omega
 clear hih;rw[Nat.sub_self,List.replicate_zero,List.append_nil]at H;have hL1:∀i,(mt1 l A i).length=l.length:=λi=>Nu i;have hL2:∀i,(mt2 l A i).length=l.length:=λi=>Ne i;refine jH omQ ?_;refine qJ (qQ (qK ‹_› e_2 rfl ?_));refine yA ‹_› ?_
 refine jN (λm s h'=>∃(i:Nat),s=(.int .i64 (i:Int),.int .i64 (l.length:Int),sv,ev,av,.ptr b0 0,())∧i≤l.length∧m=l.length-i∧
  HS g h' (qy 3 1 l.length ev ((mt1 l A i).map (.int .i64))::qy 3 1 l.length av (A.map (.int .i64))::qg b0 [sv]::R))
  ?_ (m:=l.length) (by show _<1000000000;omega) ⟨0,rfl,by omega,by omega,H⟩
 clear H;rintro m ih s h6 hih ⟨i,rfl,hi,rfl,H⟩;dsimp only;by_cases hlt:i<l.length
 ·have hrow:=Xm hlt;have hini:=hin hlt;have hrgi:=hrg hlt;have hnri:=hnr hlt;have hstep:mt1 l A (i+1)=if 0<jr (qP l (i:Int)).1 then(mt1 l A i).set (qM A (i:Int)).toNat i else mt1 l A i:=rfl
  rw[xi hlt]at hstep;generalize l[i]=x at*;refine jd omQ (qZ ?_)
  refine jT [] (λs h'=>s=(.int .i64 (i:Int),.int .i64 (l.length:Int),sv,ev,av,.ptr b0 0,())∧
   HS g h' (qy 3 1 l.length ev ((mt1 l A (i+1)).map (.int .i64))::qy 3 1 l.length av (A.map (.int .i64))::qg b0 [sv]::R)) ?_ ?_
  rotate_left
  ·rintro s h7 ⟨rfl,H7⟩;refine qc omQ ?_;exact hih (l.length-(i+1)) _ _ omQ ⟨i+1,rfl,by omega,rfl,H7⟩
  intro j hj;refine zU (S.sl H.drop.drop.drop) hlt omQ hrow ?_;refine qO H rfl λb h7 H7=>?_;refine qe H7 (b:=b) .here rfl (by simp[jK]) rfl λh8 H8=>?_;have H8:HS g h8 (qg b [.int .i64 x.1,.int .i64 x.2.1,.int .i64 x.2.2.1,.int .i64 x.2.2.2.1,.int .u64 x.2.2.2.2]::qy 3 1 l.length ev ((mt1 l A i).map (.int .i64))::qy 3 1 l.length av (A.map (.int .i64))::qg b0 [sv]::R):=H8;clear H H7;refine qQ (qK ‹_› .here rfl ?_);refine qG (Gk omQ) ?_;rintro _ h8 ⟨rfl,rfl⟩;by_cases he:0<jr x.1
  ·obtain⟨p,hp,hpl⟩:=hini (.inl he);refine yB he (qZ ?_);refine zJ (H8.sl e_2) (x:=.int .i64 (p:Int)) (by rw[List.getElem?_map,hp];rfl) ?_;refine Gc (H8.sel e_1) hpl ⟨rfl,rfl⟩ λh9 H9=>?_;rw[← List.map_set]at H9;have hnp:qM A (i:Int)=p:=by unfold qM;rw[Int.toNat_natCast,hp];rfl
   rw[iJ he,hnp,Int.toNat_natCast]at hstep;rw[← hstep]at H9;exact hj _ _ ⟨rfl,H9.sub (.cons .here (.cons e_1 (.cons e_1 (.drop .refl))))⟩
  ·refine yV he (qJ ?_);rw[iQ he]at hstep;exact hj _ _ ⟨rfl,by rw[hstep];exact H8.drop⟩
 obtain rfl:i=l.length:=by omega
 clear hih;refine jH omQ ?_;refine qJ (qQ (qK ‹_› e_2 rfl ?_));refine yA ‹_› ?_
 refine jN (λm s h'=>∃(i:Nat),s=(.int .i64 (i:Int),.int .i64 (l.length:Int),sv,ev,av,())∧i≤l.length∧m=l.length-i∧
  HS g h' (qy 3 1 l.length ev ((mt2 l A i).map (.int .i64))::qy 3 1 l.length av (A.map (.int .i64))::qg b0 [sv]::R))
  ?_ (m:=l.length) (by show _<1000000000;omega) ⟨0,rfl,by omega,by omega,H⟩
 clear H;rintro m ih s h6 hih ⟨i,rfl,hi,rfl,H⟩;dsimp only;by_cases hlt:i<l.length
 ·have hrow:=Xm hlt;have hini:=hin hlt;have hstep:mt2 l A (i+1)=if(qP l (i:Int)).1=16 then(mt2 l A i).set i (qM (mt2 l A i) (qM A (i:Int)))else mt2 l A i:=rfl
  rw[xi hlt]at hstep;generalize l[i]=x at*;refine jd omQ (qZ ?_)
  refine jT [] (λs h'=>s=(.int .i64 (i:Int),.int .i64 (l.length:Int),sv,ev,av,())∧
   HS g h' (qy 3 1 l.length ev ((mt2 l A (i+1)).map (.int .i64))::qy 3 1 l.length av (A.map (.int .i64))::qg b0 [sv]::R)) ?_ ?_
  rotate_left
  ·rintro s h7 ⟨rfl,H7⟩;refine qc omQ ?_;exact hih (l.length-(i+1)) _ _ omQ ⟨i+1,rfl,by omega,rfl,H7⟩
  intro j hj;refine zU (S.sl H.drop.drop.drop) hlt omQ hrow ?_;refine qO H rfl λb h7 H7=>?_;refine qe H7 (b:=b) .here rfl (by simp[jK]) rfl λh8 H8=>?_;have H8:HS g h8 (qg b [.int .i64 x.1,.int .i64 x.2.1,.int .i64 x.2.2.1,.int .i64 x.2.2.2.1,.int .u64 x.2.2.2.2]::qy 3 1 l.length ev ((mt2 l A i).map (.int .i64))::qy 3 1 l.length av (A.map (.int .i64))::qg b0 [sv]::R):=H8;clear H H7;refine qQ (qK ‹_› .here rfl ?_);by_cases he:x.1=16
  ·obtain⟨p,hp,hpl⟩:=hini (.inr he);refine qx he (qZ ?_);refine zJ (H8.sl e_2) (x:=.int .i64 (p:Int)) (by rw[List.getElem?_map,hp];rfl) ?_;refine zJ (H8.sl e_1) (x:=.int .i64 (qM (mt2 l A i) (p:Int))) (by rw[List.getElem?_map,gC (by rw[hL2];exact hpl)];rfl) ?_;refine Gc (H8.sel e_1) hlt ⟨rfl,rfl⟩ λh9 H9=>?_;rw[← List.map_set]at H9;have hnp:qM A (i:Int)=p:=by unfold qM;rw[Int.toNat_natCast,hp];rfl
   rw[iJ he,hnp]at hstep;rw[← hstep]at H9;exact hj _ _ ⟨rfl,H9.sub (.cons .here (.cons e_1 (.cons e_1 (.drop .refl))))⟩
  ·refine qX he (qJ ?_);rw[iQ he]at hstep;exact hj _ _ ⟨rfl,by rw[hstep];exact H8.drop⟩
 obtain rfl:i=l.length:=by omega
 refine jH omQ ?_;refine qJ (qk (qj ?_));rw[hL2];exact H.sub (.cons .here (.drop (.drop .refl)))
def YX:IM:=⟨[0,0,0,0,0,0,0,0],[],0,[]⟩
theorem JA {l:List qR} {V:VM} (h1:V.lv.length=1) (G:jk V):GI l YX V :=
 ⟨⟨⟨rfl,by intro z hz;simp[YX]at hz;subst hz;omega⟩,Nat.zero_le _,λx hx=>by cases hx⟩,⟨0,rfl,Nat.zero_le _⟩,(λp hp=>by cases hp),trivial,rfl,h1,G⟩
def zv (fuel:Int):Nat:=(max 0 (min fuel 400)).toNat
theorem qX0 {n:Nat} (hn:8≤n) {l:List qR} {sv:AV} {v:Nat} {fuel:Int} (H:HS g h R) (S:Rd g R 5 l.length sv (l.flatMap jK)) (hl:l.length≤100) :
  t_w n 45 [.agg [sv],.ptr v 0,.int .i64 fuel] h λr h'=>∃x,r=.ptr x 0∧HS g h' (IntC x v l (xB l).2 (Gn l) YX 0 0 (zv fuel:Nat) 0 ::R):=by
 refine t_e3 (S:=S45) rfl omQ λk hk=>?_;unfold S45;try simp only[iZ]
 refine qO H (yh (kj (S.sl H))) λb0 h1 H1=>?_;refine qQ (qK ‹_› .here rfl ?_);refine jf (H1.nils) (S.sl H1.drop) omQ omQ (KA l) λcv h2 H2=>?_;rw[List.nil_append,Nat.zero_add]at H2;have oc:=H2.one .here;refine qQ (qw H2 (b:=b0) e_1 oc osQ λh3 H3=>?_);have H3:HS g h3 (qg b0 [cv]::qy 70 5 l.length cv (l.flatMap jK)::R):=H3;refine qD H3 (b:=b0) (off:=0) .here rfl omQ rfl ?_;refine qG (Nq omQ H3 (Rd.own e_1) hl) ?_;rintro _ h4 ⟨rfl,H4⟩;refine qA rfl ?_;refine qA rfl ?_;refine qV ?_;(try dsimp only)
 refine qD H4 (b:=b0) (off:=0) .here rfl omQ rfl ?_;refine qD H4 (b:=b0) (off:=0) .here rfl omQ rfl ?_;refine qG (qQu omQ H4 (Rd.own e_1) hl) ?_;intro mv h5 H5;have om:=H5.one .here;refine qG (Q':=λr h'=>∃o,r=.ptr o 0∧HS g h' (qg o [.nils]::qy 3 1 (Gn l).length mv ((Gn l).map (.int .i64))::qg b0 [cv]::qy 70 5 l.length cv (l.flatMap jK)::R)) ?_ ?_
 ·refine t_e0 (S:=S88) rfl omQ λk hk=>?_;unfold S88;try simp only[iZ]
  refine qH rfl ?_;exact qO H5 rfl λo h6 H6=>qj ⟨o,rfl,H6⟩
 rintro _ h6 ⟨o,rfl,H6⟩;refine zX (zC ?_);rw[show max ((0:Nat):Int) (min fuel ((400:Nat):Int))=((zv fuel:Nat):Int) by unfold zv;omega]
 refine qH (l:=gY cv mv .nils v o (xB l).2 0 0 (zv fuel:Nat) 0 0 [0,0,0,0,0,0,0,0]) (by
  have e:(AV.agg (List.take 1 (List.drop 0 [cv]))).cells=[cv]:=rfl
  simp only[yF,e,om.1];rfl) ?_
 refine qO H6 (by unfold gY;simp only[qm,List.all_cons,oc.2,om.2];rfl) λx h7 H7=>?_;refine zn H5 (b:=b0) e_1 rfl H6 e_2 rfl rfl omQ (HS.lt H4 .here) ?_;refine zn H4 (b:=b0) .here rfl H5 e_1 rfl rfl omQ (HS.lt H4 .here) ?_
 skip
 refine qj ⟨x,rfl,?_⟩;have H8:=(H7.nils (e:=20) (sz:=1)).nils (e:=270) (sz:=11)
 have H9:HS g h7 (SlaC o []::qy 270 11 0 .nils []::qg x (gY cv mv .nils v o (xB l).2 0 0 (zv fuel:Nat) 0 0 [0,0,0,0,0,0,0,0])::qy 3 1 (Gn l).length mv ((Gn l).map (.int .i64))::qg b0 [cv]::
  qy 70 5 l.length cv (l.flatMap jK)::R):=SlaC.I (l:=[]) (sv:=.nils) (H8.sub (.cons e_3 (.cons e_1 (.cons .here (.cons .here .refl)))))
 exact IntC.I (s:=YX) (c:=cv) (mv:=mv) (ov:=.nils) (o:=o) (H9.sub (.cons e_2 (.cons e_4 (.cons e_2 (.cons .here (.cons .here (.drop .refl)))))))
section
variable {x v:Nat} {l:List qR} {bad:Int} {mt:List Int} {s:IM} {err fin left nx:Int}
end
end Go.Proofs.YtnalffoigcmnnabGreatDoor
