/- Lemmas for 'quietus/quietuslaw26.AttemptFresh': Blocks of words: by the program;Blocks of words: by the documents own text;Numbers brought into bounds;Are two lists of numbers the same?;Are two lists of ... No condition. -/
import Derived.Test.YtbiljkdgeekpbabGreatDoorAttemptFreshM1
import Derived.Test.YtbiljkdgeekpbabGreatDoorAttemptFreshAe7
import Derived.Test.YtbiljkdgeekpbabGreatDoorAttemptFreshT
import Derived.KernelRfl
import Derived.Lib.ItoaLen
import Derived.Lib.Join
namespace Go.Proofs.YtbiljkdgeekpbabGreatDoor
open Go Go.Ae
set_option maxRecDepth 100000
section
variable {g h:AH} {L R:List SP}
def yr (x:Int):Int:=if x=1 then 2 else if x=2 then 4 else if x=3 then 8 else if x=4 then 16 else 0
def zp (x:Int):Int:=if x<1 then 0 else if x≤2 then 1 else if x≤4 then 2 else if x≤8 then 3 else if x≤16 then 4 else 0
theorem Uq (x:Int):0≤yr x∧yr x≤16:=by unfold yr;repeat' split<;>omega
theorem Mw (x:Int):0≤zp x∧zp x≤4:=by unfold zp;repeat' split<;>omega
structure WdV (M:VM):Prop where
  k:∀c∈M.K,0≤c.2∧c.2<18446744073709551616
  l:∀x∈M.lv,∀c∈x.1,0≤c.2∧c.2<18446744073709551616
theorem KG {P:Int→Prop} {p x:Int}:∀{l:List Cl},(∀c∈l,P c.2)→zC p l=some x→P x:=by
 intro l
 induction l with
 |nil=>intro _ h;cases h
 |cons c l ih=>
  intro h e;unfold zC at e
  split at e
  ·cases e;exact h c (iK ..)
  ·exact ih (λd hd=>h d (iX _ hd)) e
theorem qQ2 {P:Int→Prop} {p x:Int}:∀{lv:List LvM},(∀y∈lv,∀c∈y.1,P c.2)→J5 p lv=some x→P x:=by
 intro lv
 induction lv with
 |nil=>intro _ h;cases h
 |cons y r ih=>
  intro h e;unfold J5 at e
  split at e
  ·rename_i v hv;cases e;exact KG (h y (iK ..)) hv
  ·exact ih (λz hz=>h z (iX _ hz)) e
theorem WdV.read {M:VM} {p:Int} (W:WdV M):0≤(qR M p).1.1∧(qR M p).1.1<18446744073709551616:=by
 unfold qR
 split
 ·split
  ·rename_i x hx;exact qQ2 (P:=λx=>0≤x∧x<18446744073709551616) W.l hx
  ·split
   ·rename_i x hx;exact KG (P:=λx=>0≤x∧x<18446744073709551616) W.k hx
   ·show(0:Int)≤0∧(0:Int)<18446744073709551616;omega
 ·show(0:Int)≤0∧(0:Int)<18446744073709551616;omega
theorem WdV.read2 {M:VM} {p:Int} (W:WdV M):WdV (qR M p).2:=by
 unfold qR
 repeat' split
 all_goals exact⟨W.k,W.l⟩
def WdC (cs:List Cl):Prop:=∀c∈cs,0≤c.2∧c.2<18446744073709551616
theorem WdC.put {l:List Cl} {p v:Int} (h:WdC l) (hv:0≤v∧v<18446744073709551616):WdC (yK p v l):=by
 induction l with
 |nil=>intro c hc;simp[yK]at hc;subst hc;exact hv
 |cons a l ih=>
  unfold yK
  split
  ·intro c hc;rcases List.mem_cons.1 hc with rfl |hc
   ·exact hv
   ·exact h c (iX _ hc)
  ·intro c hc;rcases List.mem_cons.1 hc with rfl |hc
   ·exact h _ (iK ..)
   ·exact ih (λc hc=>h c (iX _ hc)) c hc
theorem WdC.puts:∀{cs l:List Cl},WdC l→WdC cs→WdC (yQ l cs):=by
 intro cs
 induction cs with
 |nil=>intro l h _;exact h
 |cons c cs ih=>intro l h hc;exact ih (h.put (hc c (iK ..))) λd hd=>hc d (iX _ hd)
theorem qZs {most:Nat} {was:List LvM} (hw:∀x∈was,WdC x.1):∀{cs:List Cl} {lv:List LvM},WdC cs→(∀x∈lv,WdC x.1)→∀x∈(yn most was lv cs).2,WdC x.1:=by
 intro cs
 induction cs with
 |nil=>intro lv _ h;exact h
 |cons c cs ih=>
  intro lv hc h;rw[y7]
  split
  ·refine ih (λd hd=>hc d (iX _ hd)) ?_;cases lv with
   |nil=>exact h
   |cons y r=>
    unfold y5;dsimp only
    split
    ·exact h
    ·split
     ·exact h
     ·intro x hx;rcases List.mem_cons.1 hx with rfl |hx
      ·exact(show WdC y.1 from h y (iK ..)).put (hc c (iK ..))
      ·exact h x (iX _ hx)
  ·exact hw
theorem WdV.take {M:VM} {cs:List Cl} (W:WdV M) (hc:WdC cs):WdV (jd M cs).2:=by
 unfold jd
 split
 ·exact⟨W.k,qZs W.l hc W.l⟩
 ·exact W
def xA (M:VM) (c b:Int):(Int×Int)×VM :=
 if 2147483648≤b then((0,2),M)else
 if(qR M b).1.2=0 then
  (if(jd (qR M b).2 [(c,(qR M b).1.1),(b-1,c+8)]).1=0 then((b,0),(jd (qR M b).2 [(c,(qR M b).1.1),(b-1,c+8)]).2)
   else((0,(jd (qR M b).2 [(c,(qR M b).1.1),(b-1,c+8)]).1),(jd (qR M b).2 [(c,(qR M b).1.1),(b-1,c+8)]).2))
 else((0,(qR M b).1.2),(qR M b).2)
def xy (M:VM) (c:Int):(Int×Int)×VM :=
 if(qR M 5).1.2=0 then
  (if(qR M 5).1.1<14∨2147483648≤(qR M 5).1.1∨(M.sz:Int)<(qR M 5).1.1+1+yr c then((0,4),(qR M 5).2)
   else if(jd (qR M 5).2 [(5,(qR M 5).1.1+1+yr c),((qR M 5).1.1,c+8)]).1=0 then(((qR M 5).1.1+1,0),(jd (qR M 5).2 [(5,(qR M 5).1.1+1+yr c),((qR M 5).1.1,c+8)]).2)
   else((0,(jd (qR M 5).2 [(5,(qR M 5).1.1+1+yr c),((qR M 5).1.1,c+8)]).1),(jd (qR M 5).2 [(5,(qR M 5).1.1+1+yr c),((qR M 5).1.1,c+8)]).2))
 else((0,(qR M 5).1.2),(qR M 5).2)
def zD (M:VM) (n:Int):(Int×Int)×VM :=
 if zp n=0 then((0,3),M)else
 if(qR M (zp n)).1.2=0 then
  (if(qR M (zp n)).1.1=0 then xy (qR M (zp n)).2 (zp n)else xA (qR M (zp n)).2 (zp n) (qR M (zp n)).1.1)
 else((0,(qR M (zp n)).1.2),(qR M (zp n)).2)
def JZ (w:Int):Int×Bool:=if 1≤w∧w≤4 then(w,false)else if 9≤w∧w≤12 then(w-8,true)else(0,false)
def jM (M:VM) (b:Int):(Int×Bool×Int)×VM :=
 if b≤14∨M.sz≤b then((0,false,2),M)else
 if(qR M (b-1)).1.2=0 then
  (if(JZ (qR M (b-1)).1.1).1=0 then((0,false,2),(qR M (b-1)).2)else(((JZ (qR M (b-1)).1.1).1,(JZ (qR M (b-1)).1.1).2,0),(qR M (b-1)).2))
 else((0,false,(qR M (b-1)).1.2),(qR M (b-1)).2)
def yf (M:VM) (b:Int):Int×VM :=
 if(jM M b).1.2.2=0 then
  (if(jM M b).1.2.1=true then
   (if(jd (jM M b).2 [(b-1,(jM M b).1.1)]).1=0 then(0,freeV (jd (jM M b).2 [(b-1,(jM M b).1.1)]).2 b)else jd (jM M b).2 [(b-1,(jM M b).1.1)])
  else(2,(jM M b).2))
 else((jM M b).1.2.2,(jM M b).2)
def xZ (M:VM) (b:Int):Int×VM :=
 if(jM M b).1.2.2=0 then
  (if(jM M b).1.2.1=true then(2,(jM M b).2)else
   if(qR (jM M b).2 (jM M b).1.1).1.2=0 then jd (qR (jM M b).2 (jM M b).1.1).2 [(b,(qR (jM M b).2 (jM M b).1.1).1.1),((jM M b).1.1,b)]
   else((qR (jM M b).2 (jM M b).1.1).1.2,(qR (jM M b).2 (jM M b).1.1).2))
 else((jM M b).1.2.2,(jM M b).2)
theorem qZn {M:VM} {p:Int}:(qR M p).2.sz=M.sz:=by
 unfold qR
 repeat' split
 all_goals rfl
theorem qVU (w:Int):0≤(JZ w).1∧(JZ w).1≤4:=by
 unfold JZ
 repeat' split
 all_goals dsimp only
 all_goals omega
theorem UN (M:VM) (b:Int):0≤(jM M b).1.1∧(jM M b).1.1≤4∧((jM M b).1.2.2=0→14<b∧b<M.sz):=by
 unfold jM
 split
 ·exact⟨Int.le_refl 0,by show(0:Int)≤4;omega,λh=>by cases h⟩
 ·split
  ·split
   ·exact⟨Int.le_refl 0,by show(0:Int)≤4;omega,λh=>by cases h⟩
   ·have:=qVU (qR M (b-1)).1.1;exact⟨this.1,this.2,λ_=>by omega⟩
  ·exact⟨Int.le_refl 0,by show(0:Int)≤4;omega,λ_=>by omega⟩
theorem Qc {M:VM} {b:Int} (O:OkV M):OkV (jM M b).2:=by
 unfold jM
 split
 ·exact O
 ·split
  ·split<;>exact xz O
  ·exact xz O
theorem qWN {M:VM} {b:Int} (O:WdV M):WdV (jM M b).2:=by
 unfold jM
 split
 ·exact O
 ·split
  ·split<;>exact O.read2
  ·exact O.read2
theorem qXf {M:VM} {b:Int} (O:OkV M) (hf:∀x∈M.lv,x.2.length+1<100000):OkV (freeV M b):=by
 refine⟨O.lo,O.hi,qZo O.lvs,O.ins,O.un,?_⟩;show∀x∈QJ M.lv b,x.2.length<100000;cases hl:M.lv with
 |nil=>intro x hx;cases hx
 |cons y r=>
  rw[hl]at hf;intro x hx;rcases List.mem_cons.1 hx with rfl |hx
  ·have:=hf y (iK ..);simpa using this
  ·have:=hf x (iX _ hx);omega
theorem Xq {n:Nat} (hn:1≤n) {x:Int}:t_w n 283 [.int .i64 x] h λv h'=>v=.int .i64 (yr x)∧h'=h:=by
 refine t_e1 (S:=S283) rfl omQ λk hk=>?_;unfold S283;try simp only[iZ]
 repeat' (first |with_reducible refine qX ?_ |with_reducible refine qJ ?_ |(with_reducible refine qU ?_;try dsimp only) |(with_reducible refine qr ?_;try dsimp only) |(with_reducible refine qT ?_;try dsimp only) |(with_reducible refine qd ?_;try dsimp only) |(with_reducible refine zk ?_;try dsimp only) |with_reducible refine qE ?_ |with_reducible refine qI ?_ |(with_reducible refine qG ?_;try dsimp only) |with_reducible refine qv ?_ |with_reducible refine jV ?_ |with_reducible refine jq ?_ |with_reducible refine qf omQ ?_ |with_reducible refine zZ omQ ?_ |with_reducible refine yj omQ ?_ |with_reducible refine yt omQ ?_ |with_reducible refine zB ?_ |with_reducible refine zP ?_ |with_reducible refine zo (λhc=>?_) (λhc=>?_) |with_reducible refine gJ (λhc=>?_) (λhc=>?_) |with_reducible refine gd (λhc=>?_) (λhc=>?_) |with_reducible refine xS (λhc=>?_) (λhc=>?_) |with_reducible refine xp (λhc=>?_) (λhc=>?_) |with_reducible refine yW (λhc=>?_) (λhc=>?_) |with_reducible refine vC (λhc=>?_) (λhc=>?_))
 ·refine qW ⟨?_,rfl⟩;unfold yr;congr 1;repeat' split<;>omega
 ·refine qW ⟨?_,rfl⟩;unfold yr;congr 1;repeat' split<;>omega
 ·refine qqO omQ ?_;refine qW ⟨?_,rfl⟩;rcases(show x=1∨x=2∨x=3∨x=4 by omega)with rfl |rfl |rfl |rfl<;>rfl
theorem Z0 {n:Nat} (hn:2≤n) {x:Int}:t_w n 246 [.int .i64 x] h λv h'=>v=.int .i64 (zp x)∧h'=h:=by
 refine t_e1 (S:=S246) rfl omQ λk hk=>?_;unfold S246;try simp only[iZ]
 repeat' (first |with_reducible refine qX ?_ |with_reducible refine qJ ?_ |(with_reducible refine qU ?_;try dsimp only) |(with_reducible refine qr ?_;try dsimp only) |(with_reducible refine qT ?_;try dsimp only) |(with_reducible refine qd ?_;try dsimp only) |(with_reducible refine zk ?_;try dsimp only) |with_reducible refine qE ?_ |with_reducible refine qI ?_ |(with_reducible refine qG ?_;try dsimp only) |with_reducible refine qv ?_ |with_reducible refine jV ?_ |with_reducible refine jq ?_ |with_reducible refine qf omQ ?_ |with_reducible refine zZ omQ ?_ |with_reducible refine yj omQ ?_ |with_reducible refine yt omQ ?_ |with_reducible refine zB ?_ |with_reducible refine zP ?_ |with_reducible refine zo (λhc=>?_) (λhc=>?_) |with_reducible refine gJ (λhc=>?_) (λhc=>?_) |with_reducible refine gd (λhc=>?_) (λhc=>?_) |with_reducible refine xS (λhc=>?_) (λhc=>?_) |with_reducible refine xp (λhc=>?_) (λhc=>?_) |with_reducible refine yW (λhc=>?_) (λhc=>?_) |with_reducible refine vC (λhc=>?_) (λhc=>?_))
 ·refine qW ⟨?_,rfl⟩;unfold zp;congr 1;repeat' split<;>omega
 ·refine zG (λm s g=>∃i:Int,s=(.int .i64 i,.int .i64 x,())∧1≤i∧i≤5∧(m:Int)=5-i∧g=h∧(1<i→2<x)∧(2<i→4<x)∧(3<i→8<x)∧(4<i→16<x)) ?_ (m:=4) od ⟨1,rfl,by omega,by omega,by omega,rfl,by omega,by omega,by omega,by omega⟩;rintro m ih s g hih ⟨i,rfl,h1,h2,h3,rfl,h4,h5,h6,h7⟩;dsimp only
  repeat' (first |with_reducible refine qX ?_ |with_reducible refine qJ ?_ |(with_reducible refine qU ?_;try dsimp only) |(with_reducible refine qr ?_;try dsimp only) |(with_reducible refine qT ?_;try dsimp only) |(with_reducible refine qd ?_;try dsimp only) |(with_reducible refine zk ?_;try dsimp only) |with_reducible refine qE ?_ |with_reducible refine qI ?_ |(with_reducible refine qG ?_;try dsimp only) |with_reducible refine qv ?_ |with_reducible refine jV ?_ |with_reducible refine jq ?_ |with_reducible refine qf omQ ?_ |with_reducible refine zZ omQ ?_ |with_reducible refine yj omQ ?_ |with_reducible refine yt omQ ?_ |with_reducible refine zB ?_ |with_reducible refine zP ?_ |with_reducible refine zo (λhc=>?_) (λhc=>?_) |with_reducible refine gJ (λhc=>?_) (λhc=>?_) |with_reducible refine gd (λhc=>?_) (λhc=>?_) |with_reducible refine xS (λhc=>?_) (λhc=>?_) |with_reducible refine xp (λhc=>?_) (λhc=>?_) |with_reducible refine yW (λhc=>?_) (λhc=>?_) |with_reducible refine vC (λhc=>?_) (λhc=>?_))
  ·refine qY (Xq omQ) ?_;rintro v g' ⟨rfl,rfl⟩
   repeat' (first |with_reducible refine qX ?_ |with_reducible refine qJ ?_ |(with_reducible refine qU ?_;try dsimp only) |(with_reducible refine qr ?_;try dsimp only) |(with_reducible refine qT ?_;try dsimp only) |(with_reducible refine qd ?_;try dsimp only) |(with_reducible refine zk ?_;try dsimp only) |with_reducible refine qE ?_ |with_reducible refine qI ?_ |(with_reducible refine qG ?_;try dsimp only) |with_reducible refine qv ?_ |with_reducible refine jV ?_ |with_reducible refine jq ?_ |with_reducible refine qf omQ ?_ |with_reducible refine zZ omQ ?_ |with_reducible refine yj omQ ?_ |with_reducible refine yt omQ ?_ |with_reducible refine zB ?_ |with_reducible refine zP ?_ |with_reducible refine zo (λhc=>?_) (λhc=>?_) |with_reducible refine gJ (λhc=>?_) (λhc=>?_) |with_reducible refine gd (λhc=>?_) (λhc=>?_) |with_reducible refine xS (λhc=>?_) (λhc=>?_) |with_reducible refine xp (λhc=>?_) (λhc=>?_) |with_reducible refine yW (λhc=>?_) (λhc=>?_) |with_reducible refine vC (λhc=>?_) (λhc=>?_))
   ·refine qW ⟨?_,rfl⟩;unfold yr at*;unfold zp;congr 1;repeat' split<;>omega
   ·refine hih (m-1) _ _ omQ ⟨i+1,rfl,by omega,by omega,by omega,rfl,?_,?_,?_,?_⟩<;>(unfold yr at*;repeat' split at* <;>omega)
  ·refine qW ⟨?_,rfl⟩;unfold zp;congr 1;repeat' split<;>omega
theorem Jt {n:Nat} (hn:1≤n) {c:Int} (hc:0≤c∧c≤4):t_w n 121 [.int .i64 c] h λv h'=>v=.int .i64 c∧h'=h:=by
 refine t_e1 (S:=S121) rfl omQ λk hk=>?_;unfold S121;try simp only[iZ]
 refine qf omQ ?_;exact qW ⟨by congr 1;omega,rfl⟩
theorem Nk {n:Nat} (hn:1≤n) {w:Int}:t_w n 149 [.int .u64 w] h λv h'=>v=.tup [.int .i64 (JZ w).1,.bool (JZ w).2]∧h'=h:=by
 refine t_e1 (S:=S149) rfl omQ λk hk=>?_;unfold S149;try simp only[iZ]
 unfold JZ;by_cases h1:1≤w∧w≤4
 ·rw[iJ h1];refine jh omQ ?_;refine qG ?_;(try dsimp only);refine qU ?_;(try dsimp only);refine ky omQ ?_;refine qE (qX (xG omQ ?_))
  exact qW ⟨rfl,rfl⟩
 ·rw[iQ h1];by_cases h2:9≤w∧w≤12
  ·rw[iJ h2];refine jh omQ ?_;refine qG ?_;(try dsimp only);refine qU ?_;(try dsimp only);refine J6 omQ ?_;refine qE (qJ (jh omQ ?_));refine qG ?_;(try dsimp only);refine qU ?_;(try dsimp only);refine ky omQ ?_;refine qE (qX (yt omQ ?_));refine xG omQ ?_
   exact qW ⟨rfl,rfl⟩
  ·rw[iQ h2]
   repeat' (first |with_reducible refine qX ?_ |with_reducible refine qJ ?_ |(with_reducible refine qU ?_;try dsimp only) |(with_reducible refine qr ?_;try dsimp only) |(with_reducible refine qT ?_;try dsimp only) |(with_reducible refine qd ?_;try dsimp only) |(with_reducible refine zk ?_;try dsimp only) |with_reducible refine qE ?_ |with_reducible refine qI ?_ |(with_reducible refine qG ?_;try dsimp only) |with_reducible refine qv ?_ |with_reducible refine jV ?_ |with_reducible refine jq ?_ |with_reducible refine qf omQ ?_ |with_reducible refine zZ omQ ?_ |with_reducible refine yj omQ ?_ |with_reducible refine yt omQ ?_ |with_reducible refine zB ?_ |with_reducible refine zP ?_ |with_reducible refine qj omQ ?_ |with_reducible refine qq omQ ?_ |with_reducible refine jX omQ ?_ |with_reducible refine jK omQ ?_ |with_reducible refine zJ omQ ?_ |with_reducible refine jb omQ ?_ |with_reducible refine ky omQ ?_ |with_reducible refine J6 omQ ?_ |with_reducible refine xT omQ ?_ |with_reducible refine xH omQ ?_ |with_reducible refine jh omQ ?_ |with_reducible refine ju omQ ?_ |with_reducible refine zo (λhc=>?_) (λhc=>?_) |with_reducible refine gJ (λhc=>?_) (λhc=>?_) |with_reducible refine gd (λhc=>?_) (λhc=>?_) |with_reducible refine xS (λhc=>?_) (λhc=>?_) |with_reducible refine xp (λhc=>?_) (λhc=>?_) |with_reducible refine yW (λhc=>?_) (λhc=>?_) |with_reducible refine vC (λhc=>?_) (λhc=>?_))
   all_goals exact qW ⟨rfl,rfl⟩
theorem UK {n:Nat} (hn:10≤n) {v:Nat} {M:VM} {b:Int} (H:HS g h (ViewC v M::R)) (O:OkV M) :
  t_w n 119 [.ptr v 0,.int .i64 b] h λr h'=>r=.tup [.int .i64 (jM M b).1.1,.bool (jM M b).1.2.1,.int .i64 (jM M b).1.2.2]∧HS g h' (ViewC v (jM M b).2::R):=by
 refine t_e2 (S:=S119) rfl omQ λk hk=>?_;unfold S119;try simp only[iZ]
 unfold jM;by_cases h1:b≤14
 ·rw[iJ (.inl h1)];refine ky omQ ?_;refine qG ?_;(try dsimp only);refine qr ?_;(try dsimp only);refine qE (qX ?_)
  exact qW ⟨rfl,H⟩
 ·refine J6 omQ ?_;refine qG ?_;(try dsimp only);refine qd ?_;(try dsimp only)
  refine qY (Y8 omQ H) ?_;rintro _ _ ⟨rfl,rfl⟩;by_cases h2:(M.sz:Int)≤b
  ·rw[iJ (.inr h2)];refine jh omQ ?_;refine qI (qX ?_);exact qW ⟨rfl,H⟩
  ·rw[iQ omQ];refine ju omQ ?_;refine qI (qJ ?_);have:=O.hi;refine zZ omQ (qY (kX omQ H O) ?_);rintro _ h3 ⟨rfl,H3⟩;simp only[show((1:Nat):Int)=1 from rfl]at H3 ⊢;refine qB rfl ?_;refine qB rfl ?_;by_cases h4:(qR M (b-1)).1.2=0
   ·rw[iJ h4];refine jK omQ ?_;refine qJ (qY (Nk omQ) ?_);rintro _ _ ⟨rfl,rfl⟩;refine qB rfl ?_;refine qB rfl ?_;by_cases h5:(JZ (qR M (b-1)).1.1).1=0
    ·rw[iJ h5];refine qj omQ ?_;refine qX ?_;exact qW ⟨rfl,H3⟩
    ·rw[iQ h5];refine qq omQ ?_;refine qJ ?_;exact qW ⟨rfl,H3⟩
   ·rw[iQ h4];refine jX omQ ?_;refine qX ?_;exact qW ⟨rfl,H3⟩
theorem qJS {n:Nat} (hn:11≤n) {v:Nat} {M:VM} {b:Int} (H:HS g h (ViewC v M::R)) (O:OkV M) :
  t_w n 185 [.ptr v 0,.int .i64 b] h λr h'=>r=.int .i64 (yf M b).1∧HS g h' (ViewC v (yf M b).2::R):=by
 refine t_e2 (S:=S185) rfl omQ λk hk=>?_;unfold S185;try simp only[iZ]
 refine qY (UK omQ H O) ?_;rintro _ h1 ⟨rfl,H1⟩;have hb:=UN M b;have hO:=Qc (b:=b) O;have:=O.hi;unfold yf;refine qB rfl ?_;refine qB rfl ?_;refine qB rfl ?_;refine qG ?_;(try dsimp only)
 by_cases h2:(jM M b).1.2.2=0
 ·rw[iJ h2];refine qj omQ ?_;refine qG ?_;(try dsimp only);refine qU ?_;(try dsimp only)
  cases h3:(jM M b).1.2.1
  ·rw[iQ osQ];refine jq (qE (qX (qG ?_)));(try dsimp only);refine qq omQ ?_;refine qJ (qG ?_);(try dsimp only);refine qq omQ ?_;refine qJ (qv ?_)
   exact qW ⟨rfl,H1⟩
  ·rw[iJ rfl];refine jV (qE (qJ (qG ?_)));(try dsimp only);refine qj omQ ?_;refine qX (zZ omQ ?_);refine gr omQ ?_;refine qF rfl ?_
   simp only[show((1:Nat):Int)=1 from rfl];refine(jY (n:=1) (l:=[.int .i64 (b-1),.int .u64 (jM M b).1.1]) (sz:=2) H1 rfl rfl rfl rfl λv3 h3 H3=>?_);refine qY (XW (cs:=[(b-1,(jM M b).1.1)]) omQ (H3.sel e_1) hO (.own .here) osQ) ?_;rintro _ h4 ⟨rfl,H4⟩;by_cases h5:(jd (jM M b).2 [(b-1,(jM M b).1.1)]).1=0
   ·rw[iJ h5];refine qG ?_;(try dsimp only);refine qj omQ ?_;refine qX ?_
    refine qY (qZl omQ H4 (VL hO)) ?_;intro _ h6 H6;refine qv ?_;exact qW ⟨by rw[h5],H6.sub (.cons .here (.drop (.refl)))⟩
   ·rw[iQ h5];refine qG ?_;(try dsimp only);refine qq omQ ?_;refine qJ (qv ?_)
    exact qW ⟨rfl,H4.sub (.cons .here (.drop (.refl)))⟩
 ·rw[iQ h2];refine qq omQ ?_;refine qG ?_;(try dsimp only);refine qT ?_;(try dsimp only);refine qI (qJ (qG ?_));(try dsimp only);refine qq omQ ?_;refine qJ (qG ?_);(try dsimp only);refine qq omQ ?_;refine qJ (qv ?_)
  exact qW ⟨rfl,H1⟩
theorem qJb {n:Nat} (hn:11≤n) {v:Nat} {M:VM} {b:Int} (H:HS g h (ViewC v M::R)) (O:OkV M) :
  t_w n 90 [.ptr v 0,.int .i64 b] h λr h'=>r=.int .i64 (xZ M b).1∧HS g h' (ViewC v (xZ M b).2::R):=by
 refine t_e2 (S:=S90) rfl omQ λk hk=>?_;unfold S90;try simp only[iZ]
 refine qY (UK omQ H O) ?_;rintro _ h1 ⟨rfl,H1⟩;have hb:=UN M b;have hO:=Qc (b:=b) O;have:=O.hi;unfold xZ;refine qB rfl ?_;refine qB rfl ?_;refine qB rfl ?_;refine qG ?_;(try dsimp only)
 by_cases h2:(jM M b).1.2.2=0
 ·rw[iJ h2];refine qj omQ ?_;refine qG ?_;(try dsimp only);refine qU ?_;(try dsimp only);refine qE ?_
  cases h3:(jM M b).1.2.1
  ·rw[iQ osQ];refine qJ (jK omQ ?_);refine qJ (qY (Jt omQ omQ) ?_);rintro _ _ ⟨rfl,rfl⟩;refine qY (kX omQ H1 hO) ?_;rintro _ h4 ⟨rfl,H4⟩;refine qB rfl ?_;refine qB rfl ?_;by_cases h5:(qR (jM M b).2 (jM M b).1.1).1.2=0
   ·rw[iJ h5];refine jK omQ ?_;refine qJ (qF rfl ?_);refine qY (Jt omQ omQ) ?_;rintro _ _ ⟨rfl,rfl⟩;refine gr omQ ?_;refine qF rfl (jY (n:=2) (l:=[.int .i64 b,.int .u64 (qR (jM M b).2 (jM M b).1.1).1.1,.int .i64 (jM M b).1.1,.int .u64 b]) (sz:=2) H4 rfl rfl rfl rfl λv5 h5 H5=>?_);refine qY (XW (cs:=[(b,(qR (jM M b).2 (jM M b).1.1).1.1),((jM M b).1.1,b)]) omQ (H5.sel e_1) (xz hO) (.own .here) osQ) ?_;rintro _ h6 ⟨rfl,H6⟩;refine qv ?_;exact qW ⟨rfl,H6.sub (.cons .here (.drop (.refl)))⟩
   ·rw[iQ h5];refine jX omQ ?_;refine qX (qv ?_);exact qW ⟨rfl,H4⟩
  ·rw[iJ rfl];refine qX (jX omQ ?_);refine qX (qv ?_);exact qW ⟨rfl,H1⟩
 ·rw[iQ h2];refine qq omQ ?_;refine qG ?_;(try dsimp only);refine qT ?_;(try dsimp only);refine qI (qJ (jX omQ ?_));refine qX (qv ?_)
  exact qW ⟨rfl,H1⟩
theorem Zw {n:Nat} (hn:10≤n) {v:Nat} {M:VM} {c b:Int} (H:HS g h (ViewC v M::R)) (O:OkV M) (hc:1≤c∧c≤4) (hb:0≤b) :
  t_w n 247 [.ptr v 0,.int .i64 c,.int .u64 b] h λr h'=>r=.tup [.int .i64 (xA M c b).1.1,.int .i64 (xA M c b).1.2]∧HS g h' (ViewC v (xA M c b).2::R):=by
 refine t_e3 (S:=S247) rfl omQ λk hk=>?_;unfold S247;try simp only[iZ]
 unfold xA;by_cases h1:2147483648≤b
 ·rw[iJ h1];refine jh omQ ?_;refine qX ?_;exact qW ⟨rfl,H⟩
 ·rw[iQ h1];refine ju omQ ?_;refine qJ (xG omQ ?_);refine qY (kX omQ H O) ?_;rintro _ h3 ⟨rfl,H3⟩;refine qB rfl ?_;refine qB rfl ?_;refine qG ?_;(try dsimp only)
  by_cases h4:(qR M b).1.2=0
  ·rw[iJ h4];refine qj omQ ?_;refine qX (qY (Jt omQ omQ) ?_);rintro _ _ ⟨rfl,rfl⟩;refine qF rfl (zZ omQ (qf omQ (gr omQ (qF rfl ?_))));refine jY (n:=2) (l:=[.int .i64 c,.int .u64 (qR M b).1.1,.int .i64 (b-1),.int .u64 (c+8)]) (sz:=2) H3 rfl rfl rfl rfl λv5 h5 H5=>?_;refine qY (XW (cs:=[(c,(qR M b).1.1),(b-1,c+8)]) omQ (H5.sel e_1) (xz O) (.own .here) osQ) ?_;rintro _ h6 ⟨rfl,H6⟩;by_cases h7:(jd (qR M b).2 [(c,(qR M b).1.1),(b-1,c+8)]).1=0
   ·rw[iJ h7];refine jK omQ ?_;refine qJ (qv ?_);exact qW ⟨rfl,H6.sub (.cons .here (.drop (.refl)))⟩
   ·rw[iQ h7];refine jX omQ ?_;refine qX (qv ?_);exact qW ⟨rfl,H6.sub (.cons .here (.drop (.refl)))⟩
  ·rw[iQ h4];refine qq omQ ?_;refine qJ (jX omQ ?_);refine qX (qv ?_);exact qW ⟨rfl,H3⟩
theorem ZB {n:Nat} (hn:10≤n) {v:Nat} {M:VM} {c:Int} (H:HS g h (ViewC v M::R)) (O:OkV M) (W:WdV M) (hc:1≤c∧c≤4) :
  t_w n 248 [.ptr v 0,.int .i64 c] h λr h'=>r=.tup [.int .i64 (xy M c).1.1,.int .i64 (xy M c).1.2]∧HS g h' (ViewC v (xy M c).2::R):=by
 refine t_e2 (S:=S248) rfl omQ λk hk=>?_;unfold S248;try simp only[iZ]
 unfold xy;refine qY (kX omQ H O) ?_;rintro _ h3 ⟨rfl,H3⟩;have hw:=W.read (p:=5);simp only[show((5:Nat):Int)=5 from rfl]at H3 ⊢;have hs:=Uq c;have hO:=O.hi;refine qB rfl ?_;refine qB rfl ?_;by_cases h4:(qR M 5).1.2=0
 ·rw[iJ h4];refine jK omQ ?_;refine qJ ?_;have hsz:(qR M 5).2.sz=M.sz:=qZn;by_cases h5:(qR M 5).1.1<14∨2147483648≤(qR M 5).1.1∨(M.sz:Int)<(qR M 5).1.1+1+yr c
  ·rw[iJ h5];by_cases h6:(qR M 5).1.1<14
   ·refine zJ omQ ?_;refine qG ?_;(try dsimp only);refine qr ?_;(try dsimp only);refine qE (qG ?_);(try dsimp only);refine qr ?_;(try dsimp only);refine qE (qX ?_)
    exact qW ⟨rfl,H3⟩
   ·by_cases h7:2147483648≤(qR M 5).1.1
    ·refine jb omQ ?_;refine qG ?_;(try dsimp only);refine qd ?_;(try dsimp only);refine jh omQ ?_;refine qI (qG ?_);(try dsimp only);refine qr ?_;(try dsimp only);refine qE (qX ?_)
     exact qW ⟨rfl,H3⟩
    ·refine jb omQ ?_;refine qG ?_;(try dsimp only);refine qd ?_;(try dsimp only);refine ju omQ ?_;refine qI (qG ?_);(try dsimp only);refine qd ?_;(try dsimp only);refine xG omQ ?_;refine qf omQ ?_
     refine qY (Xq omQ) ?_;rintro _ _ ⟨rfl,rfl⟩;refine qf omQ ?_;refine qY (Y8 omQ H3) ?_;rintro _ _ ⟨rfl,rfl⟩;rw[hsz];refine xT omQ ?_;refine qI (qX ?_);exact qW ⟨rfl,H3⟩
  ·rw[iQ h5];refine jb omQ ?_;refine qG ?_;(try dsimp only);refine qd ?_;(try dsimp only);refine ju omQ ?_;refine qI (qG ?_);(try dsimp only);refine qd ?_;(try dsimp only);refine xG omQ ?_;refine qf omQ ?_
   refine qY (Xq omQ) ?_;rintro _ _ ⟨rfl,rfl⟩;refine qf omQ ?_;refine qY (Y8 omQ H3) ?_;rintro _ _ ⟨rfl,rfl⟩;rw[hsz];refine xH omQ ?_;refine qI (qJ (xG omQ ?_));refine qf omQ ?_;refine qY (Xq omQ) ?_;rintro _ _ ⟨rfl,rfl⟩;refine qf omQ (gr omQ (qF rfl (qf omQ (gr omQ (qF rfl ?_)))));refine jY (n:=2) (l:=[.int .i64 5,.int .u64 ((qR M 5).1.1+1+yr c),.int .i64 (qR M 5).1.1,.int .u64 (c+8)]) (sz:=2) H3 rfl rfl rfl rfl λv5 h5 H5=>?_;refine qY (XW (cs:=[(5,(qR M 5).1.1+1+yr c),((qR M 5).1.1,c+8)]) omQ (H5.sel e_1) (xz O) (.own .here) osQ) ?_;rintro _ h6 ⟨rfl,H6⟩;by_cases h7:(jd (qR M 5).2 [(5,(qR M 5).1.1+1+yr c),((qR M 5).1.1,c+8)]).1=0
   ·rw[iJ h7];refine jK omQ ?_;refine qJ (qf omQ ?_);exact qW ⟨rfl,H6.sub (.cons .here (.drop (.refl)))⟩
   ·rw[iQ h7];refine jX omQ ?_;refine qX ?_;exact qW ⟨rfl,H6.sub (.cons .here (.drop (.refl)))⟩
 ·rw[iQ h4];refine jX omQ ?_;refine qX ?_;exact qW ⟨rfl,H3⟩
theorem ZX {n:Nat} (hn:11≤n) {v:Nat} {M:VM} {x:Int} (H:HS g h (ViewC v M::R)) (O:OkV M) (W:WdV M) :
  t_w n 184 [.ptr v 0,.int .i64 x] h λr h'=>r=.tup [.int .i64 (zD M x).1.1,.int .i64 (zD M x).1.2]∧HS g h' (ViewC v (zD M x).2::R):=by
 refine t_e2 (S:=S184) rfl omQ λk hk=>?_;unfold S184;try simp only[iZ]
 refine qY (Z0 omQ) ?_;rintro _ _ ⟨rfl,rfl⟩;have hc:=Mw x;unfold zD;by_cases h1:zp x=0
 ·rw[iJ h1];refine qj omQ ?_;refine qX ?_;exact qW ⟨rfl,H⟩
 ·rw[iQ h1];refine qq omQ ?_;refine qJ (qY (Jt omQ hc) ?_);rintro _ _ ⟨rfl,rfl⟩;refine qY (kX omQ H O) ?_;rintro _ h3 ⟨rfl,H3⟩;have hw:=W.read (p:=zp x);refine qB rfl ?_;refine qB rfl ?_;by_cases h4:(qR M (zp x)).1.2=0
  ·rw[iJ h4];by_cases h5:(qR M (zp x)).1.1=0
   ·rw[iJ h5];refine jK omQ ?_;refine qJ (jK omQ ?_);refine qJ (qY (ZB omQ H3 (xz O) W.read2 omQ) ?_);rintro _ h6 ⟨rfl,H6⟩;refine qB rfl ?_;refine qB rfl ?_;exact qW ⟨rfl,H6⟩
   ·rw[iQ h5];refine jK omQ ?_;refine qJ (jX omQ ?_);refine qX (qY (Zw omQ H3 (xz O) omQ hw.1) ?_);rintro _ h6 ⟨rfl,H6⟩;refine qB rfl ?_;refine qB rfl ?_;exact qW ⟨rfl,H6⟩
  ·rw[iQ h4];refine jX omQ ?_;refine qX ?_;exact qW ⟨rfl,H3⟩
end
section
variable {g h:AH} {L R:List SP}
end
section
theorem Oo {l:List ES} {a b:List AV} {K:AV→Go.Ae.R} {Q:AV→AH→Prop} {neg:Bool} {p:Prop} [Decidable p] (e:zf l a b=some (decide p)) (h1:p→wp (K (.bool (!neg))) Q) (h2:¬p→wp (K (.bool neg)) Q):wp (XQ l neg (.agg a) (.agg b) K) Q:=by
 unfold XQ;simp only[e,ob];by_cases h:p
 ·have:=h1 h;simpa[h]using this
 ·have:=h2 h;simpa[h]using this
end
section
variable {g h:AH} {L R:List SP}
def AskP (M M':VM):Prop:=M'.sz=M.sz∧M'.K=M.K∧M'.most=M.most∧(M'.need=M.need∨M'.lv=M.lv∧1≤M'.need∧M'.need<M.sz∧zC M'.need M.K=none)
theorem AskP.refl (M:VM):AskP M M:=⟨rfl,rfl,rfl,.inl rfl⟩
theorem Xc {M:VM} {p:Int} (h:(qR M p).1.2=0):(qR M p).2=M:=by
 unfold qR at h ⊢
 split
 ·rename_i h1;rw[iJ h1]at h
  split
  ·rfl
  ·rename_i h2;rw[h2]at h;dsimp only at h ⊢
   split
   ·rfl
   ·rename_i h3;rw[h3]at h;cases h
 ·rfl
theorem YO (M:VM) (p:Int):AskP M (qR M p).2:=by
 unfold qR
 split
 ·rename_i h1
  split
  ·exact .refl M
  ·split
   ·exact .refl M
   ·rename_i h3;exact⟨rfl,rfl,rfl,.inr ⟨rfl,h1.1,h1.2,h3⟩⟩
 ·exact .refl M
theorem qWF (M:VM) (b:Int):AskP M (jM M b).2∧((jM M b).1.2.2=0→(jM M b).2=M):=by
 unfold jM
 split
 ·exact⟨.refl M,λ_=>rfl⟩
 ·split
  ·rename_i h1
   split
   ·exact⟨YO M _,λ_=>Xc h1⟩
   ·exact⟨YO M _,λ_=>Xc h1⟩
  ·rename_i h1;exact⟨YO M _,λh=>absurd h h1⟩
theorem frS_put {most:Nat} {lv:List LvM} {p v:Int}:frS (y5 most lv p v).2=frS lv:=by
 cases lv with
 |nil=>rfl
 |cons x r=>obtain⟨c,hc⟩:=XO (most:=most) (x:=x) (r:=r) (p:=p) (v:=v);rw[hc,wq,wq]
theorem qQ8 {most:Nat} {was:List LvM}:∀{cs:List Cl} {lv:List LvM},frS lv=frS was→frS (yn most was lv cs).2=frS was:=by
 intro cs
 induction cs with
 |nil=>intro lv h;exact h
 |cons c cs ih=>
  intro lv h;rw[y7]
  split
  ·exact ih (frS_put.trans h)
  ·rfl
theorem vM {M:VM} {cs:List Cl}:frS (jd M cs).2.lv=frS M.lv:=by
 unfold jd
 split
 ·exact qQ8 rfl
 ·rfl
theorem xk {M:VM} {p:Int}:frS (qR M p).2.lv=frS M.lv:=by
 unfold qR
 repeat' split
 all_goals rfl
theorem ge {M:VM} {b:Int}:frS (jM M b).2.lv=frS M.lv:=by
 unfold jM
 repeat' split
 all_goals first |rfl |exact xk
theorem Z5 {lv:List LvM} {b:Int}:frS (QJ lv b)≤frS lv+1:=by
 cases lv with
 |nil=>simp[QJ]
 |cons x r=>show frS ((x.1,x.2++[b])::r)≤_;rw[wq,wq,List.length_append];simp;omega
theorem qYT:∀{lv:List LvM} {x:LvM},x∈lv→x.2.length≤frS lv:=by
 intro l
 induction l with
 |nil=>intro x hx;cases hx
 |cons y r ih=>
  intro x hx;rw[wq];rcases List.mem_cons.1 hx with rfl |hx
  ·omega
  ·have:=ih hx;omega
structure jj (M:VM):Prop where
  ok:OkV M
  wd:WdV M
theorem jj.read {M:VM} {p:Int} (G:jj M):jj (qR M p).2:=⟨xz G.ok,G.wd.read2⟩
theorem jj.take {M:VM} {cs:List Cl} (G:jj M) (h:WdC cs):jj (jd M cs).2:=⟨VL G.ok,G.wd.take h⟩
theorem jj.ask {M:VM} {b:Int} (G:jj M):jj (jM M b).2:=⟨Qc G.ok,qWN G.wd⟩
theorem WdC.two {a b:Cl} (ha:0≤a.2∧a.2<18446744073709551616) (hb:0≤b.2∧b.2<18446744073709551616):WdC [a,b]:=by
 intro c hc;rcases List.mem_cons.1 hc with rfl |hc
 ·exact ha
 ·rw[List.mem_singleton]at hc;subst hc;exact hb
theorem WdC.one1 {a:Cl} (ha:0≤a.2∧a.2<18446744073709551616):WdC [a]:=by intro c hc;rw[List.mem_singleton]at hc;subst hc;exact ha
theorem jj.freeV {M:VM} {b:Int} (G:jj M) (hf:frS M.lv<90000):jj (freeV M b):=by
 refine⟨qXf G.ok λx hx=>by have:=qYT hx;omega,G.wd.k,?_⟩;show∀x∈QJ M.lv b,∀c∈x.1,0≤c.2∧c.2<18446744073709551616;have:=G.wd.l;cases hl:M.lv with
 |nil=>intro x hx;cases hx
 |cons y r=>
  rw[hl]at this;intro x hx;rcases List.mem_cons.1 hx with rfl |hx
  ·exact this y (iK ..)
  ·exact this x (iX _ hx)
theorem jj.free {M:VM} {b:Int} (G:jj M) (hf:frS M.lv<90000):jj (yf M b).2∧frS (yf M b).2.lv≤frS M.lv+1:=by
 have hb:=UN M b;have hc:WdC [(b-1,(jM M b).1.1)]:=.one1 ⟨hb.1,by dsimp only;omega⟩;unfold yf
 repeat' split
 ·refine⟨(G.ask.take hc).freeV (by rw[vM,ge];exact hf),?_⟩;have:=Z5 (lv:=(jd (jM M b).2 [(b-1,(jM M b).1.1)]).2.lv) (b:=b);rw[vM,ge]at this;exact this
 ·exact⟨G.ask.take hc,by rw[vM,ge];omega⟩
 ·exact⟨G.ask,by rw[ge];omega⟩
 ·exact⟨G.ask,by rw[ge];omega⟩
theorem jj.give {M:VM} {b:Int} (G:jj M):jj (xZ M b).2∧frS (xZ M b).2.lv=frS M.lv:=by
 have hb:=UN M b;have hO:=G.ok.hi;unfold xZ
 split
 ·rename_i h1;have hbb:=hb.2.2 h1
  split
  ·exact⟨G.ask,ge⟩
  ·split
   ·refine⟨(G.ask.read).take (.two G.ask.wd.read ⟨by dsimp only;omega,by dsimp only;omega⟩),by rw[vM,xk,ge]⟩
   ·exact⟨G.ask.read,by rw[xk,ge]⟩
 ·exact⟨G.ask,ge⟩
theorem jj.again {M:VM} {c b:Int} (G:jj M) (hc:0≤c∧c≤4):jj (xA M c b).2∧frS (xA M c b).2.lv=frS M.lv:=by
 have ht:WdC [(c,(qR M b).1.1),(b-1,c+8)]:=.two G.wd.read ⟨by dsimp only;omega,by dsimp only;omega⟩;unfold xA
 repeat' split
 ·exact⟨G,rfl⟩
 ·exact⟨G.read.take ht,by rw[vM,xk]⟩
 ·exact⟨G.read.take ht,by rw[vM,xk]⟩
 ·exact⟨G.read,xk⟩
theorem jj.grown {M:VM} {c:Int} (G:jj M) (hc:0≤c∧c≤4):jj (xy M c).2∧frS (xy M c).2.lv=frS M.lv:=by
 have hs:=Uq c;have hw:=G.wd.read (p:=5);unfold xy
 split
 ·split
  ·exact⟨G.read,xk⟩
  ·rename_i h1;have ht:WdC [(5,(qR M 5).1.1+1+yr c),((qR M 5).1.1,c+8)]:=.two ⟨by dsimp only;omega,by dsimp only;omega⟩ ⟨by dsimp only;omega,by dsimp only;omega⟩
   split
   ·exact⟨G.read.take ht,by rw[vM,xk]⟩
   ·exact⟨G.read.take ht,by rw[vM,xk]⟩
 ·exact⟨G.read,xk⟩
theorem jj.alloc {M:VM} {x:Int} (G:jj M):jj (zD M x).2∧frS (zD M x).2.lv=frS M.lv:=by
 have hc:=Mw x;unfold zD
 repeat' split
 ·exact⟨G,rfl⟩
 ·exact⟨(G.read.grown hc).1,by rw[(G.read.grown hc).2,xk]⟩
 ·exact⟨(G.read.again hc).1,by rw[(G.read.again hc).2,xk]⟩
 ·exact⟨G.read,xk⟩
theorem jj.openG {M:VM} (G:jj M):jj (yv M).2∧frS (yv M).2.lv=frS M.lv:=by
 have e:(wx M.lv).2=M.lv∨(wx M.lv).2=([],[])::M.lv:=by unfold wx;split<;>simp
 refine⟨⟨⟨G.ok.lo,G.ok.hi,qKc G.ok.lvs,G.ok.ins,G.ok.un,?_⟩,G.wd.k,?_⟩,?_⟩
 ·show∀x∈(wx M.lv).2,_;rcases e with e |e
  ·rw[e];exact G.ok.fr
  ·rw[e];intro x hx;rcases List.mem_cons.1 hx with rfl |hx
   ·simp
   ·exact G.ok.fr x hx
 ·show∀x∈(wx M.lv).2,_;rcases e with e |e
  ·rw[e];exact G.wd.l
  ·rw[e];intro x hx;rcases List.mem_cons.1 hx with rfl |hx
   ·intro c hc;cases hc
   ·exact G.wd.l x hx
 ·show frS (wx M.lv).2=_;rcases e with e |e
  ·rw[e]
  ·rw[e,wq];simp
theorem jj.dropG {M:VM} (G:jj M):jj (zu M).2∧frS (zu M).2.lv≤frS M.lv:=by
 have e:(wz M.lv).2=M.lv∨(wz M.lv).2=M.lv.tail:=by unfold wz;split<;>simp
 have hs:∀x∈(wz M.lv).2,x∈M.lv:=by
  rcases e with e |e
  ·rw[e];exact λx hx=>hx
  ·rw[e];exact λx hx=>List.mem_of_mem_tail hx
 refine⟨⟨⟨G.ok.lo,G.ok.hi,qXe G.ok.lvs,G.ok.ins,G.ok.un,λx hx=>G.ok.fr x (hs x hx)⟩,G.wd.k,λx hx=>G.wd.l x (hs x hx)⟩,?_⟩;show frS (wz M.lv).2≤_;rcases e with e |e
 ·rw[e];exact Nat.le_refl _
 ·rw[e];cases M.lv with
  |nil=>exact Nat.le_refl _
  |cons x r=>rw[wq];show frS r≤_;omega
theorem jj.keepG {M:VM} (G:jj M) (hf:frS M.lv<90000):jj (yT M).2∧frS (yT M).2.lv=frS M.lv:=by
 have hd:=qKI G.ok.lvs;have hfr:=λx (hx:x∈(w8 M.lv).2)=>qYT hx;obtain⟨sz,K,most,lv,need⟩:=M;rcases lv with _ |⟨x,_ |⟨y,r⟩⟩
 ·exact⟨G,rfl⟩
 ·exact⟨G,rfl⟩
 ·have e:=qJn (x:=x) (y:=y) (r:=r);refine⟨⟨⟨G.ok.lo,G.ok.hi,hd,G.ok.ins,G.ok.un,λz hz=>?_⟩,G.wd.k,λz hz=>?_⟩,e⟩
  ·have:=hfr z hz;rw[e]at this;have hf:frS (x::y::r)<90000:=hf;omega
  ·have hl:=G.wd.l;have hx:WdC x.1:=hl x osQ;have hy:WdC y.1:=hl y osQ;have hz:z∈(yQ y.1 x.1,y.2++x.2)::r:=hz;rcases List.mem_cons.1 hz with rfl |hz
   ·exact hy.puts hx
   ·exact hl z (by simp[hz])
end
section
variable {g h:AH} {L R:List SP}
abbrev ItT:Type:=Int×Int
def Xp (x:ItT):AV:=if x.1=1 then .iface 24 (.int .u64 x.2)else if x.1=2 then .iface 4 (.bool (decide (x.2=1)))else .iface 308 (.agg [])
def ItOk (x:ItT):Prop:=0≤x.2∧x.2<18446744073709551616
theorem Ql (x:ItT):One (Xp x):=by unfold Xp;(repeat' split)<;>exact⟨rfl,rfl⟩
theorem Nh (l:List ItT):jG (l.map Xp)=true:=by unfold jG;rw[List.all_eq_true];intro v hv;obtain⟨x,_,rfl⟩:=List.mem_map.1 hv;exact(Ql x).2
def SlaC (o:Nat) (l:List ItT):SP:=.ex λsv=>.all [qw o [sv],qL 20 1 l.length sv (l.map Xp)]
theorem SlaC.E {o:Nat} {l:List ItT} (H:HS g h (SlaC o l::R)):∃sv,HS g h (qw o [sv]::qL 20 1 l.length sv (l.map Xp)::R):=by obtain⟨sv,H⟩:=H.exE;exact⟨sv,H.allE⟩
theorem SlaC.I {o:Nat} {l:List ItT} {sv:AV} (H:HS g h (qw o [sv]::qL 20 1 l.length sv (l.map Xp)::R)):HS g h (SlaC o l::R):=HS.exI sv H.allI
end
section
structure PtM where
  op:Int
  pc:Int
  regs:List Int
  told:Nat
structure IM where
  regs:List Int
  out:List ItT
  pc:Int
  opn:List PtM
structure SM where
  e:Int
  nx:Int
  blk:Bool
  s:IM
  v:VM
def setR (s:IM) (i v:Int):IM:={ s with regs:=s.regs.set i.toNat v }
def xc (b off:Int):Int×Int:=if 2147483648≤b∨2147483648≤b+off∨b+off<6 then(0,2)else(b+off,0)
def Jq (p:Prop) [Decidable p]:Int:=if p then 1 else 0
def jP (s:IM) (V:VM) (x:qb):Int×IM×VM :=
 if x.1=8 then
  (if(xc (qD s.regs x.2.2.1) x.2.2.2.1).2=0 then
   (if(qR V (xc (qD s.regs x.2.2.1) x.2.2.2.1).1).1.2=0 then(0,setR s x.2.1 (qR V (xc (qD s.regs x.2.2.1) x.2.2.2.1).1).1.1,(qR V (xc (qD s.regs x.2.2.1) x.2.2.2.1).1).2)
    else((qR V (xc (qD s.regs x.2.2.1) x.2.2.2.1).1).1.2,s,(qR V (xc (qD s.regs x.2.2.1) x.2.2.2.1).1).2))
  else(2,s,V))
 else if x.1=9 then
  (if(xc (qD s.regs x.2.1) x.2.2.2.1).2=0 then((jd V [((xc (qD s.regs x.2.1) x.2.2.2.1).1,qD s.regs x.2.2.1)]).1,s,(jd V [((xc (qD s.regs x.2.1) x.2.2.2.1).1,qD s.regs x.2.2.1)]).2)
  else(2,s,V))
 else if x.1=10 then
  (if 2147483648≤qD s.regs x.2.2.1 then(3,s,V)
  else if(zD V (qD s.regs x.2.2.1)).1.2=0 then(0,setR s x.2.1 (zD V (qD s.regs x.2.2.1)).1.1,(zD V (qD s.regs x.2.2.1)).2)
  else((zD V (qD s.regs x.2.2.1)).1.2,s,(zD V (qD s.regs x.2.2.1)).2))
 else
  (if 2147483648≤qD s.regs x.2.1 then(2,s,V)else((yf V (qD s.regs x.2.1)).1,s,(yf V (qD s.regs x.2.1)).2))
def zF (op at_ nx:Int) (s:IM) (V:VM):SM :=
 if(yv V).1=0 then⟨0,nx,false,{ s with opn:=⟨op,at_,s.regs,s.out.length⟩::s.opn },(yv V).2⟩else⟨(yv V).1,nx,false,s,(yv V).2⟩
def wS (s:IM) (p:PtM):IM:={ s with regs:=p.regs,out:=s.out.take p.told }
def yB (mt:List Int):List PtM→IM→VM→SM
 |[],s,V=>⟨0,s.pc,true,{ s with opn:=[] },V⟩
 |p::o,s,V=>
  if(zu V).1=0 then
   (if p.op=17 then zF 18 (qD mt p.pc) (qD mt p.pc+1) { wS s p with opn:=o } (zu V).2
   else yB mt o s (zu V).2)
  else⟨(zu V).1,s.pc+1,false,{ s with opn:=o },(zu V).2⟩
def headP (o:List PtM):PtM:=(o.head?).getD ⟨0,0,[0,0,0,0,0,0,0,0],0⟩
def g9 (mt:List Int) (s:IM) (V:VM) (op:Int):SM :=
 if op=14∨op=17 then zF op s.pc (s.pc+1) s V
 else if op=15∨op=19 then⟨(yT V).1,s.pc+1,false,{ s with opn:=s.opn.tail },(yT V).2⟩
 else if op=18 then⟨(yT V).1,qD mt s.pc+1,false,{ s with opn:=s.opn.tail },(yT V).2⟩
 else if op=16 then⟨(zu V).1,qD mt s.pc+1,false,{ wS s (headP s.opn)with opn:=s.opn.tail },(zu V).2⟩
 else yB mt s.opn s V
def doM (mt:List Int) (s:IM) (V:VM) (x:qb):SM :=
 if x.1=1 then⟨0,s.pc+1,false,setR s x.2.1 x.2.2.2.2,V⟩
 else if x.1=2 then⟨0,s.pc+1,false,setR s x.2.1 (qD s.regs x.2.2.1),V⟩
 else if x.1=3 then⟨0,s.pc+1,false,setR s x.2.1 (zg .u64 (qD s.regs x.2.2.1+qD s.regs x.2.2.2.1)),V⟩
 else if x.1=4 then⟨0,s.pc+1,false,setR s x.2.1 (zg .u64 (qD s.regs x.2.2.1-qD s.regs x.2.2.2.1)),V⟩
 else if x.1=5 then⟨0,s.pc+1,false,setR s x.2.1 (zg .u64 (qD s.regs x.2.2.1*qD s.regs x.2.2.2.1)),V⟩
 else if x.1=6 then⟨0,s.pc+1,false,setR s x.2.1 (Jq (qD s.regs x.2.2.1<qD s.regs x.2.2.2.1)),V⟩
 else if x.1=7 then⟨0,s.pc+1,false,setR s x.2.1 (Jq (qD s.regs x.2.2.1=qD s.regs x.2.2.2.1)),V⟩
 else if x.1=12 then⟨0,x.2.2.2.1,false,s,V⟩
 else if x.1=13 then⟨0,if qD s.regs x.2.1=0 then x.2.2.2.1 else s.pc+1,false,s,V⟩
 else if x.1=21 then(if 16≤s.out.length then⟨5,s.pc+1,false,s,V⟩else⟨0,s.pc+1,false,{ s with out:=s.out++[(1,qD s.regs x.2.1)] },V⟩)
 else if x.1=22 then⟨13,s.pc+1,false,s,V⟩
 else if x.1=8∨x.1=9∨x.1=10∨x.1=11 then⟨(jP s V x).1,s.pc+1,false,(jP s V x).2.1,(jP s V x).2.2⟩
 else g9 mt s V x.1
structure RM where
  kind:Int
  err:Int
  left:Nat
  s:IM
  v:VM
def zt (l:List qb) (mt:List Int):Nat→IM→VM→RM
 | 0,s,V=>if s.pc=l.length then⟨2,0,0,s,V⟩else⟨4,6,0,s,V⟩
 |n+1,s,V=>
  if s.pc=l.length then⟨2,0,n+1,s,V⟩
  else if(doM mt s V (qP l s.pc)).e=0 then
   (if(doM mt s V (qP l s.pc)).blk=true then⟨3,0,n,{ (doM mt s V (qP l s.pc)).s with pc:=(doM mt s V (qP l s.pc)).nx },(doM mt s V (qP l s.pc)).v⟩
   else zt l mt n { (doM mt s V (qP l s.pc)).s with pc:=(doM mt s V (qP l s.pc)).nx } (doM mt s V (qP l s.pc)).v)
  else if(doM mt s V (qP l s.pc)).e=11 then⟨1,0,n+1,(doM mt s V (qP l s.pc)).s,(doM mt s V (qP l s.pc)).v⟩
  else⟨4,(doM mt s V (qP l s.pc)).e,n+1,(doM mt s V (qP l s.pc)).s,(doM mt s V (qP l s.pc)).v⟩
theorem kh {l:List qb} {mt:List Int} {s:IM} {V:VM}:zt l mt 0 s V=if s.pc=l.length then⟨2,0,0,s,V⟩else⟨4,6,0,s,V⟩:=rfl
theorem QC {l:List qb} {mt:List Int} {n:Nat} {s:IM} {V:VM}:zt l mt (n+1) s V=if s.pc=l.length then⟨2,0,n+1,s,V⟩
  else if(doM mt s V (qP l s.pc)).e=0 then
   (if(doM mt s V (qP l s.pc)).blk=true then⟨3,0,n,{ (doM mt s V (qP l s.pc)).s with pc:=(doM mt s V (qP l s.pc)).nx },(doM mt s V (qP l s.pc)).v⟩
   else zt l mt n { (doM mt s V (qP l s.pc)).s with pc:=(doM mt s V (qP l s.pc)).nx } (doM mt s V (qP l s.pc)).v)
  else if(doM mt s V (qP l s.pc)).e=11 then⟨1,0,n+1,(doM mt s V (qP l s.pc)).s,(doM mt s V (qP l s.pc)).v⟩
  else⟨4,(doM mt s V (qP l s.pc)).e,n+1,(doM mt s V (qP l s.pc)).s,(doM mt s V (qP l s.pc)).v⟩:=rfl
theorem qKM {l:List qb} {mt:List Int} {s:IM} {V:VM} (h0:s.pc=l.length):∀n,zt l mt n s V=⟨2,0,n,s,V⟩:=by
 intro n;cases n with
 |zero=>rw[kh,iJ h0]
 |succ n=>rw[QC,iJ h0]
def qy (l:List qb):Nat→List Int
 | 0=>[]
 |i+1=>jQ (qy l i) i (qP l i).1
theorem vG {l:List qb} {i:Nat} (h:i<l.length):qP l (i:Int)=l[i]:=by unfold qP;rw[Int.toNat_natCast,iW h];rfl
theorem jk {l:List qb} {i:Nat}:qy l (i+1)=jQ (qy l i) i (qP l i).1:=rfl
theorem qXB {l:List qb}:∀(d i:Nat) {st':List Int},i+d=l.length→goM l (l.drop i) i (qy l i)=.inr st'→(∀j,i≤j→j<l.length→zE l (qy l j) (qP l j)=0)∧qy l l.length=st':=by
 intro d
 induction d with
 |zero=>
  intro i st' hi h;obtain rfl:i=l.length:=by omega
  rw[List.drop_length]at h;cases h;exact⟨λj h1 h2=>by omega,rfl⟩
 |succ d ih=>
  intro i st' hi h;have hlt:i<l.length:=by omega
  rw[Y6 hlt]at h
  split at h
  ·rename_i hw;obtain⟨a,b⟩:=ih (i+1) (st':=st') omQ (by rw[jk,vG hlt];exact h);refine⟨λj h1 h2=>?_,b⟩;by_cases hj:j=i
   ·subst hj;rw[vG hlt];exact hw
   ·exact a j omQ h2
  ·cases h
theorem ZE {l:List qb}:∀(d i:Nat),i+d=l.length→∀k,i+k<l.length→(vY (l.drop i) i (qy l i))[k]? =some (jZ (qy l (i+k))):=by
 intro d
 induction d with
 |zero=>intro i hi k hk;omega
 |succ d ih=>
  intro i hi k hk;have hlt:i<l.length:=by omega
  rw[KE hlt];cases k with
  |zero=>rfl
  |succ k=>rw[List.getElem?_cons_succ];have:=ih (i+1) omQ k omQ;rw[jk,vG hlt]at this;rw[show i+(k+1)=i+1+k by omega];exact this
structure Fit (l:List qb):Prop where
  pos:0<l.length
  le:l.length≤40
  ok:∀j,j<l.length→zE l (qy l j) (qP l j)=0
  nil:qy l l.length=[]
  reg:∀j,j<l.length→(vY l 0 [])[j]? =some (jZ (qy l j))
  jump:∀j,j<l.length→¬ku l (vY l 0 []) j (qP l j)
theorem Zx {l:List qb} {a:List Int}:∀(d i:Nat),i+d=l.length→(Q9 l a (l.drop i) i).2=0→∀j,i≤j→j<l.length→¬ku l a j (qP l j):=by
 intro d
 induction d with
 |zero=>intro i hi _ j h1 h2;omega
 |succ d ih=>
  intro i hi h j h1 h2;have hlt:i<l.length:=by omega
  rw[Y1 hlt]at h
  split at h
  ·cases h
  ·rename_i hn;by_cases hj:j=i
   ·subst hj;rw[vG hlt];exact hn
   ·exact ih (i+1) omQ h j omQ h2
theorem NL {l:List qb} (h:(yC l).2=0):Fit l:=by
 have hg:=Gk h;obtain⟨a,b⟩:=qXB (l:=l) l.length 0 (st':=[]) omQ hg;unfold yC at h
 split at h
 ·cases h
 ·rename_i h0;rw[hg]at h;dsimp only at h;rw[iJ rfl]at h
  exact⟨by omega,by omega,λj hj=>a j (Nat.zero_le _) hj,b,λj hj=>by
   have:=ZE (l:=l) l.length 0 omQ j omQ;rw[Nat.zero_add]at this
   exact this,λj hj=>Zx l.length 0 omQ h j (Nat.zero_le _) hj⟩
def Rises (i:Nat) (st:List Int):Prop:=StOk i st∧st.Pairwise (· < ·)
theorem YJ {l:List qb}:∀i,Rises i (qy l i):=by
 intro i
 induction i with
 |zero=>exact⟨StOk.nil,List.Pairwise.nil⟩
 |succ i ih=>
  refine⟨ih.1.behind,?_⟩;rw[jk];have hd:(qy l i).dropLast.Pairwise (· < ·):=ih.2.sublist (List.dropLast_sublist _);have hp:∀st:List Int,StOk i st→st.Pairwise (· < ·)→(st++[(i:Int)]).Pairwise (· < ·):=by intro st h1 h2;rw[List.pairwise_append];refine⟨h2,List.pairwise_singleton ..,λa ha b hb=>?_⟩;rw[List.mem_singleton]at hb;subst hb;exact(h1 a ha).2
  unfold jQ
  repeat' split
  ·exact hp _ ih.1.dropLast hd
  ·exact hp _ ih.1 ih.2
  ·exact hd
  ·exact ih.2
theorem Kb {l:List qb}:∀(i k p:Nat),(qy l i)[k]? =some (p:Int)→qy l (p+1)=(qy l i).take (k+1):=by
 intro i
 induction i with
 |zero=>intro k p h;simp[qy]at h
 |succ i ih=>
  intro k p h;have key:∀st:List Int,(∀k p:Nat,st[k]? =some (p:Int)→qy l (p+1)=st.take (k+1))→qy l (i+1)=st++[(i:Int)]→qy l (p+1)=(qy l (i+1)).take (k+1):=by
   intro st hst he;rw[he]at h ⊢;by_cases hk:k<st.length
   ·rw[List.getElem?_append_left hk]at h;rw[hst k p h,List.take_append_of_le_length omQ]
   ·have hk2:k=st.length:=by
     have:=(List.getElem?_eq_some_iff.1 h).1;simp at this;omega
    subst hk2;rw[List.getElem?_append_right (Nat.le_refl _),Nat.sub_self]at h;simp at h;have:p=i:=by omega
    subst this;rw[he,List.take_of_length_le osQ]
  have hdrop:∀k p:Nat,(qy l i).dropLast[k]? =some (p:Int)→qy l (p+1)=(qy l i).dropLast.take (k+1):=by
   intro k p h;have hk:=(List.getElem?_eq_some_iff.1 h).1;have hk2:k+1≤(qy l i).length-1:=by have:=hk;simp at this;omega
   have h2:(qy l i)[k]? =some (p:Int):=by
    rw[List.getElem?_dropLast]at h
    split at h
    ·exact h
    ·cases h
   rw[ih k p h2,List.dropLast_eq_take,List.take_take,Nat.min_eq_left hk2]
  by_cases hb:zl (qP l i).1=true∨(qP l i).1=18
  ·by_cases he:0<ja (qP l i).1
   ·exact key _ hdrop (by rw[jk];unfold jQ;rw[iJ hb,iJ he])
   ·exact key _ ih (by rw[jk];unfold jQ;rw[iJ hb,iQ he])
  ·by_cases he:0<ja (qP l i).1
   ·have e:qy l (i+1)=(qy l i).dropLast:=by rw[jk];unfold jQ;rw[iQ hb,iJ he]
    rw[e]at h ⊢;exact hdrop k p h
   ·have e:qy l (i+1)=qy l i:=by rw[jk];unfold jQ;rw[iQ hb,iQ he]
    rw[e]at h ⊢;exact ih k p h
theorem vV {l:List qb} {i:Nat} (h:qy l i≠[]):∃p:Nat,jZ (qy l i)=p∧p<i∧(qy l i)[(qy l i).length-1]? =some (p:Int)∧qy l (p+1)=qy l i:=by
 have hb:=(YJ (l:=l) i).1.inmost h;obtain⟨p,hp⟩:∃p:Nat,jZ (qy l i)=p:=⟨(jZ (qy l i)).toNat,by omega⟩;have hl:0<(qy l i).length:=List.length_pos_iff.2 h;have hk:(qy l i)[(qy l i).length-1]? =some (p:Int):=by rw[← hp];unfold jZ;rw[← List.getLast?_eq_getElem?,List.getLast?_eq_some_getLast h];rfl
 refine⟨p,hp,by omega,hk,?_⟩;rw[Kb i _ p hk,List.take_of_length_le omQ]
theorem qZF {l:List qb} {i j:Nat} (h:jZ (qy l i)=jZ (qy l j)):qy l i=qy l j:=by
 by_cases hi:qy l i=[]
 ·by_cases hj:qy l j=[]
  ·rw[hi,hj]
  ·obtain⟨p,h1,_⟩:=vV hj;rw[hi,Y5,h1]at h;omega
 ·obtain⟨p,h1,_,_,h2⟩:=vV hi;by_cases hj:qy l j=[]
  ·rw[hj,Y5,h1]at h;omega
  ·obtain⟨q,h3,_,_,h4⟩:=vV hj;have:p=q:=by omega
   subst this;rw[← h2,← h4]
def mt1 (l:List qb) (A:List Int):Nat→List Int
 | 0=>List.replicate l.length (-1)
 |i+1=>if 0<ja (qP l i).1 then(mt1 l A i).set (qD A i).toNat i else mt1 l A i
def mt2 (l:List qb) (A:List Int):Nat→List Int
 | 0=>mt1 l A l.length
 |i+1=>if(qP l i).1=16 then(mt2 l A i).set i (qD (mt2 l A i) (qD A i))else mt2 l A i
def qm (l:List qb):List Int:=mt2 l (vY l 0 []) l.length
theorem qYb {l:List qb} {A:List Int} {i:Nat}:mt1 l A (i+1)=if 0<ja (qP l i).1 then(mt1 l A i).set (qD A i).toNat i else mt1 l A i:=rfl
theorem qKO {l:List qb} {A:List Int} {i:Nat}:mt2 l A (i+1)=if(qP l i).1=16 then(mt2 l A i).set i (qD (mt2 l A i) (qD A i))else mt2 l A i:=rfl
theorem Ue {l:List qb} {A:List Int}:∀i,(mt1 l A i).length=l.length:=by
 intro i
 induction i with
 |zero=>simp[mt1]
 |succ i ih=>rw[qYb];split<;>simp[ih]
theorem UP {l:List qb} {A:List Int}:∀i,(mt2 l A i).length=l.length:=by
 intro i
 induction i with
 |zero=>exact Ue _
 |succ i ih=>rw[qKO];split<;>simp[ih]
theorem Z4 (l:List qb):(qm l).length=l.length:=UP _
theorem vT {l:List qb} (F:Fit l) {j:Nat} (h:j<l.length):qD (vY l 0 []) (j:Int)=jZ (qy l j):=by unfold qD;rw[Int.toNat_natCast,F.reg j h];rfl
theorem qKs {l:List qb} {p:Nat}:∀(d i:Nat),p<i→(p:Int)∉qy l i→(p:Int)∉qy l (i+d):=by
 intro d
 induction d with
 |zero=>intro i _ h;exact h
 |succ d ih=>
  intro i hp h;have h2:=ih i hp h;rw[show i+(d+1)=i+d+1 by omega,jk];have hd:(p:Int)∉(qy l (i+d)).dropLast:=λhm=>h2 ((List.dropLast_sublist _).subset hm);unfold jQ
  repeat' split
  all_goals first |exact hd |exact h2 |skip
  ·intro hm;rcases List.mem_append.1 hm with hm |hm
   ·exact hd hm
   ·rw[List.mem_singleton]at hm;omega
  ·intro hm;rcases List.mem_append.1 hm with hm |hm
   ·exact h2 hm
   ·rw[List.mem_singleton]at hm;omega
theorem YX {st:List Int} {p:Int} (h:st.Pairwise (· < ·)) (hn:st≠[]) (hp:jZ st=p):p∉st.dropLast:=by
 have e:st=st.dropLast++[p]:=by have:=List.dropLast_concat_getLast hn;rw[show st.getLast hn=p by rw[← hp];unfold jZ;rw[List.getLast?_eq_some_getLast hn];rfl]at this;exact this.symm
 rw[e,List.pairwise_append]at h;intro hm;have:=h.2.2 p hm p (List.mem_singleton_self _);omega
theorem qXU {l:List qb} {p j:Nat} (he:0<ja (qP l j).1) (hn:qy l j≠[]) (hp:jZ (qy l j)=p):(p:Int)∉qy l (j+1):=by
 have h1:=YX (YJ (l:=l) j).2 hn hp;have h2:=(YJ (l:=l) j).1.inmost hn;rw[jk];unfold jQ;rw[iJ he]
 split
 ·intro hm;rcases List.mem_append.1 hm with hm |hm
  ·exact h1 hm
  ·rw[List.mem_singleton]at hm;omega
 ·exact h1
theorem vP {l:List qb} {st:List Int} {x:qb} (h:zE l st x=0):kb x=true∧(0<ja x.1→opM l st=ja x.1)∧(x.1=16→opM l st=14)∧(zl x.1=true→st.length<5):=by
 have h0:=xj h;unfold zE at h;rw[iQ (by rw[h0.1];simp)]at h
 split at h
 ·cases h
 ·rename_i h2
  split at h
  ·cases h
  ·rename_i h3;refine⟨h0.1,λhe=>?_,λhe=>?_,h0.2.2⟩
   ·exact Classical.not_not.1 λhh=>h2 ⟨he,hh⟩
   ·exact Classical.not_not.1 λhh=>h3 ⟨he,hh⟩
theorem Md {l:List qb} {i:Nat} {p:Nat} (hn:qy l i≠[]) (hp:jZ (qy l i)=p):opM l (qy l i)=(qP l p).1:=by unfold opM;rw[iQ hn,hp]
theorem OS {l:List qb} (F:Fit l) {p:Nat} (hp:p<l.length) (ho:(qP l p).1=14∨(qP l p).1=17∨(qP l p).1=18) :
  ∃e:Nat,p<e∧e<l.length∧ja (qP l e).1=(qP l p).1∧qy l e≠[]∧jZ (qy l e)=p∧
   ∀j,j<l.length→0<ja (qP l j).1→jZ (qy l j)=p→j=e:=by
 have hin:(p:Int)∈qy l (p+1):=by rw[jk];unfold jQ;rw[iJ (by unfold zl;rcases ho with h |h |h<;>rw[h]<;>decide)];exact List.mem_append_right _ (List.mem_singleton_self _)
 have key:∀d i,p<i→i+d=l.length→(p:Int)∈qy l i→∃e,i≤e∧e<l.length∧(p:Int)∈qy l e∧(p:Int)∉qy l (e+1):=by
  intro d
  induction d with
  |zero=>
   intro i _ hi hm;obtain rfl:i=l.length:=by omega
   rw[F.nil]at hm;cases hm
  |succ d ih=>
   intro i hpi hi hm;by_cases h:(p:Int)∈qy l (i+1)
   ·obtain⟨e,h1,h2⟩:=ih (i+1) omQ omQ h;exact⟨e,by omega,h2⟩
   ·exact⟨i,Nat.le_refl _,by omega,hm,h⟩
 obtain⟨e,h1,h2,h3,h4⟩:=key (l.length-(p+1)) (p+1) omQ omQ hin;have hne:qy l e≠[]:=λh=>by rw[h]at h3;cases h3
 have hend:0<ja (qP l e).1:=by
  apply Classical.not_not.1;intro hn;apply h4;rw[jk];unfold jQ;rw[iQ hn]
  split
  ·exact List.mem_append_left _ h3
  ·exact h3
 have hinm:jZ (qy l e)=p:=by
  apply Classical.not_not.1;intro hn;apply h4;have hd:(p:Int)∈(qy l e).dropLast:=by
   have hd:=List.dropLast_concat_getLast hne;rw[← hd]at h3;rcases List.mem_append.1 h3 with h |h
   ·exact h
   ·rw[List.mem_singleton]at h;exfalso;apply hn;unfold jZ;rw[List.getLast?_eq_some_getLast hne,h];rfl
  rw[jk];unfold jQ;rw[iJ hend]
  split
  ·exact List.mem_append_left _ hd
  ·exact hd
 have hw:=(vP (F.ok e h2)).2.1 hend;rw[Md hne hinm]at hw;refine⟨e,by omega,h2,hw.symm,hne,hinm,λj hj hje hjp=>?_⟩;have hjn:qy l j≠[]:=(xj (F.ok j hj)).2.1 (.inl hje);have hpj:p<j:=by have:=(YJ (l:=l) j).1.inmost hjn;omega
 rcases Nat.lt_trichotomy j e with h |h |h
 ·exfalso;have:=qKs (l:=l) (e-(j+1)) (j+1) omQ (qXU hje hjn hjp);rw[show j+1+(e-(j+1))=e by omega]at this;exact this h3
 ·exact h
 ·exfalso;have h5:=qKs (l:=l) (j-(e+1)) (e+1) omQ h4;rw[show e+1+(j-(e+1))=j by omega]at h5;apply h5;rw[← hjp];unfold jZ;rw[List.getLast?_eq_some_getLast hjn];exact List.getLast_mem hjn
theorem qXd {l:List qb} (F:Fit l) {p e:Nat} (hp:p<l.length) (he:e<l.length) (hee:0<ja (qP l e).1) (hi:jZ (qy l e)=p)
  (hu:∀j,j<l.length→0<ja (qP l j).1→jZ (qy l j)=p→j=e):∀i,e<i→i≤l.length→(mt1 l (vY l 0 []) i)[p]? =some (e:Int):=by
 intro i
 induction i with
 |zero=>intro h;omega
 |succ i ih=>
  intro h1 h2;rw[qYb];by_cases hie:i=e
  ·subst hie;rw[iJ hee,vT F he,hi,Int.toNat_natCast,List.getElem?_set_self (by rw[Ue];exact hp)]
  ·split
   ·rename_i hx;rw[vT F omQ,List.getElem?_set_ne]
    ·exact ih omQ omQ
    ·intro hh;have hjn:qy l i≠[]:=(xj (F.ok i omQ)).2.1 (.inl hx);have:=(YJ (l:=l) i).1.inmost hjn;exact hie (hu i omQ hx omQ)
   ·exact ih omQ omQ
theorem qK2 {l:List qb} (F:Fit l) {p:Nat} (hp:(qP l p).1≠16):∀i,(mt2 l (vY l 0 []) i)[p]? =(mt1 l (vY l 0 []) l.length)[p]?:=by
 intro i
 induction i with
 |zero=>rfl
 |succ i ih=>
  rw[qKO]
  split
  ·rename_i hx;rw[List.getElem?_set_ne,ih];rintro rfl;exact hp hx
  ·exact ih
theorem qZC {l:List qb} (F:Fit l) {u:Nat} (hu:u<l.length) (ho:(qP l u).1=16):∀i,u<i→(mt2 l (vY l 0 []) i)[u]? =some (qD (mt2 l (vY l 0 []) u) (jZ (qy l u))):=by
 intro i
 induction i with
 |zero=>intro h;omega
 |succ i ih=>
  intro h;rw[qKO];by_cases hi:i=u
  ·subst hi;rw[iJ ho,List.getElem?_set_self (by rw[UP];exact hu),vT F hu]
  ·split
   ·rw[List.getElem?_set_ne hi];exact ih omQ
   ·exact ih omQ
theorem QZ {l:List qb} (F:Fit l) {p:Nat} (hp:p<l.length) (ho:(qP l p).1=14∨(qP l p).1=17∨(qP l p).1=18) :
  ∃e:Nat,qD (qm l) (p:Int)=e∧p<e∧e<l.length∧ja (qP l e).1=(qP l p).1∧qy l e=qy l (p+1):=by
 obtain⟨e,h1,h2,h3,h4,h5,h6⟩:=OS F hp ho;refine⟨e,?_,h1,h2,h3,?_⟩
 ·unfold qD qm;rw[Int.toNat_natCast,qK2 F (by rcases ho with h |h |h<;>rw[h]<;>decide),qXd F hp h2 (by rw[h3];rcases ho with h |h |h<;>rw[h]<;>decide) h5 h6 l.length h2 (Nat.le_refl _)];rfl
 ·obtain⟨q,g1,_,_,g2⟩:=vV h4;have:q=p:=by omega
  subst this;exact g2.symm
theorem GV {l:List qb} (F:Fit l) {u:Nat} (hu:u<l.length) (ho:(qP l u).1=16) :
  ∃e:Nat,qD (qm l) (u:Int)=e∧e<l.length∧(qP l e).1=15∧qy l e=qy l u∧qy l u≠[]:=by
 have hn:qy l u≠[]:=(xj (F.ok u hu)).2.1 (.inr ho);obtain⟨q,g1,g2,_,g3⟩:=vV hn;have hw:=(vP (F.ok u hu)).2.2.1 ho;rw[Md hn g1]at hw;obtain⟨e,h1,h2,h3,h4,h5,h6⟩:=OS F (p:=q) omQ (.inl hw);have e0:qD (mt2 l (vY l 0 []) u) (q:Int)=e:=by unfold qD;rw[Int.toNat_natCast,qK2 F (by rw[hw];decide),qXd F omQ h2 (by rw[h3,hw];decide) h5 h6 l.length h2 (Nat.le_refl _)];rfl
 refine⟨e,?_,h2,?_,?_,hn⟩
 ·unfold qm;rw[qD,Int.toNat_natCast,qZC F hu ho l.length hu,g1,e0];rfl
 ·rw[hw]at h3;unfold ja at h3
  repeat' split at h3
  all_goals first |assumption |omega
 ·obtain⟨q2,k1,_,_,k2⟩:=vV h4;have:q2=q:=by omega
  subst this;rw[← k2,g3]
end
section
structure kM (M M':VM):Prop where
  sz:M'.sz=M.sz
  K:M'.K=M.K
  most:M'.most=M.most
  len:M'.lv.length=M.lv.length
def kR (M M':VM):Prop:=M'.lv=M.lv∧1≤M'.need∧M'.need<M.sz∧zC M'.need M.K=none
theorem kM.refl (M:VM):kM M M:=⟨rfl,rfl,rfl,rfl⟩
theorem kM.trans {M N Q:VM} (a:kM M N) (b:kM N Q):kM M Q:=⟨b.sz.trans a.sz,b.K.trans a.K,b.most.trans a.most,b.len.trans a.len⟩
theorem ze (M:VM) (p:Int):kM M (qR M p).2:=by
 unfold qR
 repeat' split
 all_goals exact⟨rfl,rfl,rfl,rfl⟩
theorem gp {M:VM} {p:Int} (h:(qR M p).1.2=11):kR M (qR M p).2:=by
 unfold qR at h ⊢
 split
 ·rename_i h1;rw[iJ h1]at h
  split
  ·rename_i h2;rw[h2]at h;cases h
  ·rename_i h2;rw[h2]at h;dsimp only at h ⊢
   split
   ·rename_i h3;rw[h3]at h;cases h
   ·rename_i h3;exact⟨rfl,h1.1,h1.2,h3⟩
 ·rename_i h1;rw[iQ h1]at h;cases h
theorem qWU {most:Nat} {lv:List LvM} {p v:Int}:(y5 most lv p v).1=0∨(y5 most lv p v).1=2∨(y5 most lv p v).1=5:=by
 unfold y5
 repeat' split
 all_goals simp
theorem qQc {most:Nat} {was:List LvM}:∀{cs:List Cl} {lv:List LvM},(yn most was lv cs).1=0∨(yn most was lv cs).1=2∨(yn most was lv cs).1=5:=by
 intro cs
 induction cs with
 |nil=>intro lv;exact .inl rfl
 |cons c cs ih=>
  intro lv;rw[y7]
  split
  ·exact ih
  ·exact qWU
theorem qJo {M:VM} {cs:List Cl}:(jd M cs).1=0∨(jd M cs).1=2∨(jd M cs).1=5:=by
 unfold jd
 split
 ·exact qQc
 ·exact .inr (.inl rfl)
theorem J8 {M:VM} {cs:List Cl} (h:(jd M cs).1=11):False:=by have:=qJo (M:=M) (cs:=cs);omega
theorem vJ {M:VM} {cs:List Cl} (O:OkV M):kM M (jd M cs).2:=by
 unfold jd
 split
 ·exact⟨rfl,rfl,rfl,(Vs O.lvs O.lvs rfl).2⟩
 ·exact .refl M
theorem VU (M:VM) (b:Int):kM M (jM M b).2:=by
 unfold jM
 repeat' split
 all_goals first |exact .refl M |exact ze M _
theorem MI {M:VM} {b:Int} (h:(jM M b).1.2.2=11):kR M (jM M b).2:=by
 unfold jM at h ⊢
 split
 ·rename_i h1;rw[iJ h1]at h;cases h
 ·rename_i h1;rw[iQ h1]at h
  split
  ·rename_i h2;rw[iJ h2]at h
   split
   ·rename_i h3;rw[iJ h3]at h;cases h
   ·rename_i h3;rw[iQ h3]at h;cases h
  ·rename_i h2;rw[iQ h2]at h;exact gp h
theorem freeL_len {lv:List LvM} {b:Int}:(QJ lv b).length=lv.length:=by cases lv<;>rfl
theorem Zc {M:VM} {b:Int} (O:OkV M):kM M (yf M b).2:=by
 have ha:=VU M b;unfold yf
 repeat' split
 ·have ht:=ha.trans (vJ (cs:=[(b-1,(jM M b).1.1)]) (Qc (b:=b) O));exact⟨ht.sz,ht.K,ht.most,freeL_len.trans ht.len⟩
 ·exact ha.trans (vJ (Qc O))
 ·exact ha
 ·exact ha
theorem Zy {M:VM} {b:Int} (h:(yf M b).1=11):kR M (yf M b).2:=by
 unfold yf at h ⊢
 split
 ·rename_i h1;rw[iJ h1]at h
  split
  ·rename_i h2;rw[iJ h2]at h
   split
   ·rename_i h3;rw[iJ h3]at h;cases h
   ·rename_i h3;rw[iQ h3]at h;exact(J8 h).elim
  ·rename_i h2;rw[iQ h2]at h;cases h
 ·rename_i h1;rw[iQ h1]at h;exact MI h
theorem Nw {M:VM} {c b:Int} (O:OkV M):kM M (xA M c b).2:=by
 unfold xA
 repeat' split
 ·exact .refl M
 ·exact(ze M _).trans (vJ (xz O))
 ·exact(ze M _).trans (vJ (xz O))
 ·exact ze M _
theorem Nf {M:VM} {c b:Int} (h:(xA M c b).1.2=11):kR M (xA M c b).2:=by
 unfold xA at h ⊢
 split
 ·rename_i h1;rw[iJ h1]at h;cases h
 ·rename_i h1;rw[iQ h1]at h
  split
  ·rename_i h2;rw[iJ h2]at h
   split
   ·rename_i h3;rw[iJ h3]at h;cases h
   ·rename_i h3;rw[iQ h3]at h;exact(J8 h).elim
  ·rename_i h2;rw[iQ h2]at h;exact gp h
theorem NJ {M:VM} {c:Int} (O:OkV M):kM M (xy M c).2:=by
 unfold xy
 repeat' split
 ·exact ze M _
 ·exact(ze M _).trans (vJ (xz O))
 ·exact(ze M _).trans (vJ (xz O))
 ·exact ze M _
theorem NT {M:VM} {c:Int} (h:(xy M c).1.2=11):kR M (xy M c).2:=by
 unfold xy at h ⊢
 split
 ·rename_i h1;rw[iJ h1]at h
  split
  ·rename_i h2;rw[iJ h2]at h;cases h
  ·rename_i h2;rw[iQ h2]at h
   split
   ·rename_i h3;rw[iJ h3]at h;cases h
   ·rename_i h3;rw[iQ h3]at h;exact(J8 h).elim
 ·rename_i h1;rw[iQ h1]at h;exact gp h
theorem GF {M:VM} {x:Int} (O:OkV M):kM M (zD M x).2:=by
 unfold zD
 repeat' split
 ·exact .refl M
 ·exact(ze M _).trans (NJ (xz O))
 ·exact(ze M _).trans (Nw (xz O))
 ·exact ze M _
theorem Nz {M:VM} {x:Int} (h:(zD M x).1.2=11):kR M (zD M x).2:=by
 unfold zD at h ⊢
 split
 ·rename_i h1;rw[iJ h1]at h;cases h
 ·rename_i h1;rw[iQ h1]at h
  split
  ·rename_i h2;rw[iJ h2]at h;have e:=Xc h2
   split
   ·rename_i h3;rw[iJ h3,e]at h;rw[e];exact NT h
   ·rename_i h3;rw[iQ h3,e]at h;rw[e];exact Nf h
  ·rename_i h2;rw[iQ h2]at h;exact gp h
theorem Oa {M:VM} {x:Int} (W:WdV M) (h:(zD M x).1.2=0):0≤(zD M x).1.1∧(zD M x).1.1≤2147483648:=by
 have hs:=Uq (zp x);unfold zD at h ⊢
 split
 ·rename_i h1;rw[iJ h1]at h;cases h
 ·rename_i h1;rw[iQ h1]at h
  split
  ·rename_i h2;rw[iJ h2]at h;have hr:=W.read (p:=zp x)
   split
   ·rename_i h3;rw[iJ h3]at h;have hr2:=(W.read2 (p:=zp x)).read (p:=5);unfold xy at h ⊢
    split
    ·rename_i h4;rw[iJ h4]at h
     split
     ·rename_i h5;rw[iJ h5]at h;cases h
     ·rename_i h5
      split
      ·dsimp only;omega
      ·show(0:Int)≤0∧(0:Int)≤2147483648;omega
    ·show(0:Int)≤0∧(0:Int)≤2147483648;omega
   ·rename_i h3;rw[iQ h3]at h;unfold xA at h ⊢
    split
    ·rename_i h4;rw[iJ h4]at h;cases h
    ·split
     ·split
      ·dsimp only;omega
      ·show(0:Int)≤0∧(0:Int)≤2147483648;omega
     ·show(0:Int)≤0∧(0:Int)≤2147483648;omega
  ·show(0:Int)≤0∧(0:Int)≤2147483648;omega
structure kF (r:List Int):Prop where
  len:r.length=8
  bd:∀z∈r,0≤z∧z<18446744073709551616
theorem kF.at {r:List Int} (h:kF r) (i:Int):0≤qD r i∧qD r i<18446744073709551616:=by
 unfold qD;cases hi:r[i.toNat]? with
 |none=>show(0:Int)≤0∧(0:Int)<18446744073709551616;omega
 |some z=>exact h.bd z (List.mem_of_getElem? hi)
theorem kF.set {r:List Int} {i v:Int} (h:kF r) (hv:0≤v∧v<18446744073709551616):kF (r.set i.toNat v) :=
 ⟨by rw[List.length_set];exact h.len,λz hz=>by
  rcases List.mem_or_eq_of_mem_set hz with hz |rfl
  ·exact h.bd z hz
  ·exact hv⟩
structure PtOk (l:List qb) (p:PtM):Prop where
  regs:kF p.regs
  pc:∃k:Nat,p.pc=k∧k<l.length
  op:(p.op=14∨p.op=17∨p.op=18)∧(qP l p.pc).1=p.op
def ToldD:Nat→List PtM→Prop
 |_,[]=>True
 |n,p::r=>p.told≤n∧ToldD p.told r
theorem ToldD.mono:∀{o:List PtM} {n n':Nat},n≤n'→ToldD n o→ToldD n' o:=by
 intro o;cases o with
 |nil=>intro _ _ _ _;trivial
 |cons p r=>intro n n' h h2;exact⟨Nat.le_trans h2.1 h,h2.2⟩
structure GB (s:IM):Prop where
  regs:kF s.regs
  out:s.out.length≤16
  its:∀x∈s.out,ItOk x
structure GI (l:List qb) (s:IM) (V:VM):Prop where
  gb:GB s
  pc:∃k:Nat,s.pc=k∧k≤l.length
  pts:∀p∈s.opn,PtOk l p
  told:ToldD s.out.length s.opn
  stk:s.opn.map (·.pc)=(qy l s.pc.toNat).reverse
  lv:V.lv.length=s.opn.length+1
  good:jj V
theorem Of (z:Int):0≤zg .u64 z∧zg .u64 z<18446744073709551616:=by
  cases z with
  | ofNat a => show (0 : Int) ≤ Int.ofNat (a % 18446744073709551616) ∧ Int.ofNat (a % 18446744073709551616) < 18446744073709551616
               rw[iZ];omega
  | negSucc a => show (0 : Int) ≤ Int.ofNat (18446744073709551615 - a % 18446744073709551616) ∧ Int.ofNat (18446744073709551615 - a % 18446744073709551616) < 18446744073709551616
                 rw[iZ];omega
theorem OC (p:Prop) [Decidable p]:0≤Jq p∧Jq p<18446744073709551616:=by unfold Jq;split<;>omega
theorem GB.setR {s:IM} {i v:Int} (h:GB s) (hv:0≤v∧v<18446744073709551616):GB (setR s i v):=⟨h.regs.set hv,h.out,h.its⟩
structure Jl (l:List qb) (s:IM) (V:VM) (r:SM):Prop where
  gb:GB r.s
  good:jj r.v
  fr:frS r.v.lv≤frS V.lv+1
  sz:r.v.sz=V.sz
  K:r.v.K=V.K
  most:r.v.most=V.most
  next:r.e=0→r.blk=false→GI l { r.s with pc:=r.nx } r.v
  need:r.e=11→r.s=s∧kR V r.v
  bl:r.blk=true→r.e=0
theorem NS {l:List qb} {i:Nat} (h1:zl (qP l i).1=false) (h2:(qP l i).1≠18) (h3:ja (qP l i).1=0):qy l (i+1)=qy l i:=by rw[jk];unfold jQ;rw[iQ (by rw[h1];simp[h2]),iQ omQ]
theorem GI.plain {l:List qb} {s s':IM} {V V':VM} {i:Nat} (G:GI l s V) (hi:s.pc=i) (hlt:i<l.length) (h1:zl (qP l i).1=false) (h2:(qP l i).1≠18) (h3:ja (qP l i).1=0)
  (gb:GB s') (ho:s'.opn=s.opn) (hl:s.out.length≤s'.out.length) (hv:V'.lv.length=V.lv.length) (hg:jj V'):GI l { s' with pc:=s.pc+1 } V':=by
 refine⟨⟨gb.regs,gb.out,gb.its⟩,⟨i+1,by show s.pc+1=_;omega,by omega⟩,by show∀p∈s'.opn,_;rw[ho];exact G.pts,by show ToldD s'.out.length s'.opn;rw[ho];exact G.told.mono hl,?_,by show V'.lv.length=s'.opn.length+1;rw[ho,hv];exact G.lv,hg⟩;show s'.opn.map _=(qy l (s.pc+1).toNat).reverse;rw[ho,hi,show((i:Int)+1).toNat=i+1 by omega,NS h1 h2 h3,G.stk,hi,Int.toNat_natCast]
theorem Gr {l:List qb} {s:IM} {V:VM} {op:Int} {p:Nat} {st:List Int} (gb:GB s) (hp:p<l.length) (ho:(op=14∨op=17∨op=18)∧(qP l (p:Int)).1=op) (pts:∀p∈s.opn,PtOk l p) (told:ToldD s.out.length s.opn)
  (hst:s.opn.map (·.pc)=st.reverse) (hs2:qy l (p+1)=st++[(p:Int)]) (lv:V.lv.length=s.opn.length+1) (hd:s.opn.length<5) (G:jj V) :
  (zF op p ((p:Int)+1) s V).e=0∧(zF op p ((p:Int)+1) s V).blk=false∧(zF op p ((p:Int)+1) s V).nx=(p:Int)+1∧GI l { (zF op p ((p:Int)+1) s V).s with pc:=(p:Int)+1 } (zF op p ((p:Int)+1) s V).v∧
   (zF op p ((p:Int)+1) s V).v=(yv V).2:=by
 have h0:(yv V).1=0∧(yv V).2.lv=([],[])::V.lv:=by unfold yv wx;rw[iQ omQ];exact⟨rfl,rfl⟩
 unfold zF;rw[iJ h0.1];refine⟨rfl,rfl,rfl,⟨⟨gb.regs,gb.out,gb.its⟩,⟨p+1,rfl,by omega⟩,?_,⟨Nat.le_refl _,told⟩,?_,?_,G.openG.1⟩,rfl⟩
 ·intro q hq;rcases List.mem_cons.1 hq with rfl |hq
  ·exact⟨gb.regs,⟨p,rfl,hp⟩,ho⟩
  ·exact pts q hq
 ·show(p:Int)::s.opn.map _=(qy l ((p:Int)+1).toNat).reverse;rw[hst,show((p:Int)+1).toNat=p+1 by omega,hs2,List.reverse_append];rfl
 ·show(yv V).2.lv.length=_;rw[h0.2,List.length_cons,lv];rfl
theorem KF {V:VM} (h:2≤V.lv.length):(zu V).1=0∧(zu V).2.lv=V.lv.tail:=by unfold zu wz;rw[iQ omQ];exact⟨rfl,rfl⟩
theorem Kq {V:VM} (h:2≤V.lv.length):(yT V).1=0∧(yT V).2.lv.length+1=V.lv.length:=by
 unfold yT
 match hl:V.lv,h with
 |[],h=>simp at h
 |[x],h=>simp at h
 |x::y::r,_=>exact⟨rfl,by simp[w8]⟩
theorem ToldD.tail {n:Nat} {p:PtM} {o:List PtM} (h:ToldD n (p::o)):ToldD n o:=h.2.mono h.1
theorem Jl.plain {l:List qb} {s s':IM} {V V':VM} {i:Nat} {e:Int} (G:GI l s V) (hi:s.pc=i) (hlt:i<l.length) (h1:zl (qP l i).1=false) (h2:(qP l i).1≠18) (h3:ja (qP l i).1=0)
  (gb:GB s') (ho:s'.opn=s.opn) (hl:s.out.length≤s'.out.length) (hk:kM V V') (hg:jj V') (hf:frS V'.lv≤frS V.lv+1) (hn:e=11→s'=s∧kR V V'):Jl l s V ⟨e,s.pc+1,false,s',V'⟩ :=
 ⟨gb,hg,hf,hk.sz,hk.K,hk.most,λ_ _=>G.plain hi hlt h1 h2 h3 gb ho hl hk.len hg,hn,λh=>(by cases h)⟩
theorem NK {l:List qb} (F:Fit l) {i:Nat} (hlt:i<l.length) (ho:(qP l i).1=12∨(qP l i).1=13):∃c:Nat,(qP l i).2.2.2.1=c∧c≤l.length∧qy l c=qy l i:=by
 have hm:=(vP (F.ok i hlt)).1;have hj:=F.jump i hlt;generalize qP l i=x at*;have hc:0≤x.2.2.2.1∧x.2.2.2.1≤40:=by
  unfold kb jH wU at hm;simp only[Bool.and_eq_true,decide_eq_true_eq]at hm;have:=hm.1.2;rcases ho with h |h
  ·rw[iQ omQ,iQ omQ,iQ omQ,iQ omQ,iJ h]at this;exact this
  ·rw[iQ omQ,iQ omQ,iQ omQ,iQ omQ,iQ omQ,iJ h]at this;exact this
 obtain⟨c,hcc⟩:∃c:Nat,x.2.2.2.1=c:=⟨x.2.2.2.1.toNat,by omega⟩;refine⟨c,hcc,?_⟩;unfold ku at hj;rw[hcc]at hj;have hle:c≤l.length:=by
  rcases Nat.lt_or_ge l.length c with h |h
  ·exact absurd ⟨ho,.inl omQ⟩ hj
  ·exact h
 refine⟨hle,?_⟩;by_cases he:c=l.length
 ·subst he;rw[F.nil];have:qD (vY l 0 []) (i:Int)= -1:=Classical.not_not.1 λh=>hj ⟨ho,.inr (.inl ⟨rfl,h⟩)⟩;rw[vT F hlt]at this
  exact(Classical.not_not.1 λh=>by
   have:=(YJ (l:=l) i).1.inmost (λh'=>h h'.symm)
   omega:[]=qy l i)
 ·have:qD (vY l 0 []) (c:Int)=qD (vY l 0 []) (i:Int):=Classical.not_not.1 λh=>hj ⟨ho,.inr (.inr ⟨by omega,h⟩)⟩;rw[vT F hlt,vT F omQ]at this;exact qZF this
theorem Yt {l:List qb} (F:Fit l):∀i,i≤l.length→(qy l i).length≤5:=by
 intro i
 induction i with
 |zero=>intro _;simp[qy]
 |succ i ih=>
  intro h;have h1:=ih omQ;have hw:=vP (F.ok i omQ);rw[jk];unfold jQ
  repeat' split
  ·rename_i hb he;have hne:qy l i≠[]:=(xj (F.ok i omQ)).2.1 (.inl he);have:=List.length_pos_iff.2 hne;simp;omega
  ·rename_i hb he;rcases hb with hb |hb
   ·have:=hw.2.2.2 hb;simp;omega
   ·exact absurd (by rw[hb];decide) he
  ·simp;omega
  ·exact h1
theorem ki {o:List PtM} {p:PtM} {st:List Int} (h:(p::o).map (·.pc)=st.reverse):st=st.dropLast++[p.pc]∧o.map (·.pc)=st.dropLast.reverse:=by
 have e:st=o.reverse.map (·.pc)++[p.pc]:=by have:=congrArg List.reverse h;rw[List.reverse_reverse]at this;rw[← this,List.map_cons,List.reverse_cons,List.map_reverse]
 have e2:st.dropLast=o.reverse.map (·.pc):=by rw[e,List.dropLast_concat]
 refine⟨by rw[e2];exact e,?_⟩;rw[e2,List.map_reverse,List.reverse_reverse]
def PreP (l:List qb) (st:List Int):Prop:=∀k p:Nat,st[k]? =some (p:Int)→qy l (p+1)=st.take (k+1)
theorem PreP.dropLast {l:List qb} {st:List Int} (h:PreP l st):PreP l st.dropLast:=by
 intro k p hk;have h1:=(List.getElem?_eq_some_iff.1 hk).1;have h2:k+1≤st.length-1:=by have:=h1;simp at this;omega
 rw[List.getElem?_dropLast]at hk
 split at hk
 ·rw[h k p hk,List.dropLast_eq_take,List.take_take,Nat.min_eq_left h2]
 ·cases hk
theorem GB.back {l:List qb} {s:IM} {p:PtM} (g:GB s) (h:PtOk l p):GB (wS s p):=⟨h.regs,by
 show(s.out.take p.told).length≤16;have:=g.out
 simp;omega,λx hx=>g.its x (List.mem_of_mem_take hx)⟩
theorem qK8 {l:List qb} {st:List Int} (hp:PreP l st) {o:List PtM} {p:PtM} {q:Nat} (h:(p::o).map (·.pc)=st.reverse) (hq:p.pc=q):qy l (q+1)=st:=by
 have e:=(ki h).1;have hl:st.length=st.dropLast.length+1:=by have:=congrArg List.length e;simpa using this
 have:=hp st.dropLast.length q (by rw[e,hq];simp);rw[this,List.take_of_length_le omQ]
theorem NA {l:List qb} (F:Fit l) {s0:IM} {V0:VM}:∀(o:List PtM) (s:IM) (V:VM) (st:List Int),PreP l st→o.map (·.pc)=st.reverse→GB s→(∀p∈o,PtOk l p)→ToldD s.out.length o→V.lv.length=o.length+1→jj V→
  frS V.lv≤frS V0.lv→V.sz=V0.sz→V.K=V0.K→V.most=V0.most→Jl l s0 V0 (yB (qm l) o s V):=by
 intro o
 induction o with
 |nil=>intro s V st hp hm gb _ _ hlv G hf h1 h2 h3;exact⟨⟨gb.regs,gb.out,gb.its⟩,G,by show frS V.lv≤_;omega,h1,h2,h3,λ_ h=>(by cases h),λh=>(by cases h),λ_=>rfl⟩
 |cons p o ih=>
  intro s V st hp hm gb pts told hlv G hf h1 h2 h3;have hd:=KF (V:=V) (by rw[hlv];simp);have hdG:=G.dropG;have hlv2:(zu V).2.lv.length=o.length+1:=by rw[hd.2,List.length_tail,hlv];simp
  have hmt:=ki hm;unfold yB;rw[iJ hd.1]
  split
  ·rename_i hop;have P:=pts p (iK ..);obtain⟨q,hq,hql⟩:=P.pc;have hqo:(qP l (q:Int)).1=17:=by rw[← hq,P.op.2,hop]
   obtain⟨e,e1,e2,e3,e4,e5⟩:=QZ F hql (.inr (.inl hqo));have hst:=qK8 hp hm hq;have heo:(qP l (e:Int)).1=18:=by
    rw[hqo]at e4;unfold ja at e4
    repeat' split at e4
    all_goals first |assumption |omega
   have hst2:qy l (e+1)=st.dropLast++[(e:Int)]:=by rw[jk,e5,hst];unfold jQ;rw[iJ (.inr heo),iJ (by rw[heo];decide)]
   have h5:=Yt F e omQ;rw[e5,hst]at h5;have hl5:st.length=st.dropLast.length+1:=by have:=congrArg List.length hmt.1;simpa using this
   have hol:o.length=st.dropLast.length:=by have:=congrArg List.length hmt.2;simpa using this
   have gb2:GB { wS s p with opn:=o }:=⟨(gb.back P).regs,(gb.back P).out,(gb.back P).its⟩;have told2:ToldD (s.out.take p.told).length o:=by rw[List.length_take,Nat.min_eq_left told.1];exact told.2
   have key:=Gr (l:=l) (s:={ wS s p with opn:=o }) (V:=(zu V).2) (op:=18) (p:=e) (st:=st.dropLast) gb2 e3 ⟨.inr (.inr rfl),heo⟩ (λr hr=>pts r (iX _ hr)) told2 hmt.2 hst2 hlv2 (by show o.length<5;omega) hdG.1;rw[hq,e1];obtain⟨k1,k2,k3,k4,k5⟩:=key;have hoG:=hdG.1.openG;refine⟨k4.gb |> λg=>⟨g.regs,g.out,g.its⟩,k4.good,?_,?_,?_,?_,λ_ _=>?_,λh=>(by rw[k1]at h;cases h),λh=>(by rw[k2]at h;cases h)⟩
   ·rw[k5,hoG.2];have:=hdG.2;omega
   ·rw[k5];exact h1
   ·rw[k5];exact h2
   ·rw[k5];exact h3
   ·rw[k3];exact k4
  ·exact ih s (zu V).2 st.dropLast hp.dropLast hmt.2 gb (λr hr=>pts r (iX _ hr)) told.tail hlv2 hdG.1 (by have:=hdG.2;omega) h1 h2 h3
theorem Nn {l:List qb} {s:IM} {V:VM} {x:qb} (G:GI l s V) (hf:frS V.lv<10000) :
  GB (jP s V x).2.1∧(jP s V x).2.1.opn=s.opn∧(jP s V x).2.1.out=s.out∧(jP s V x).2.1.pc=s.pc∧kM V (jP s V x).2.2∧jj (jP s V x).2.2∧frS (jP s V x).2.2.lv≤frS V.lv+1∧
   ((jP s V x).1=11→(jP s V x).2.1=s∧kR V (jP s V x).2.2):=by
 have gb:=G.gb;have good:=G.good;have hr:=λi=>gb.regs.at i;have same:∀e:Int,e≠11→GB s∧s.opn=s.opn∧s.out=s.out∧s.pc=s.pc∧kM V V∧jj V∧frS V.lv≤frS V.lv+1∧(e=11→s=s∧kR V V) :=
  λe he=>⟨gb,rfl,rfl,rfl,.refl V,good,by omega,λh=>absurd h he⟩
 unfold jP
 split
 ·split
  ·split
   ·refine⟨gb.setR ?_,rfl,rfl,rfl,ze V _,good.read,by rw[xk];omega,λh=>by cases h⟩;exact good.wd.read
   ·exact⟨gb,rfl,rfl,rfl,ze V _,good.read,by rw[xk];omega,λh=>⟨rfl,gp h⟩⟩
  ·exact same 2 omQ
 ·split
  ·split
   ·exact⟨gb,rfl,rfl,rfl,vJ good.ok,good.take (WdC.one1 (hr _)),by rw[vM];omega,λh=>(J8 h).elim⟩
   ·exact same 2 omQ
  ·split
   ·split
    ·exact same 3 omQ
    ·split
     ·rename_i h0;have hb:=Oa (x:=qD s.regs x.2.2.1) good.wd h0;exact⟨gb.setR omQ,rfl,rfl,rfl,GF good.ok,(good.alloc).1,by rw[(good.alloc).2];omega,λh=>by cases h⟩
     ·exact⟨gb,rfl,rfl,rfl,GF good.ok,(good.alloc).1,by rw[(good.alloc).2];omega,λh=>⟨rfl,Nz h⟩⟩
   ·split
    ·exact same 2 omQ
    ·exact⟨gb,rfl,rfl,rfl,Zc good.ok,(good.free omQ).1,(good.free omQ).2,λh=>⟨rfl,Zy h⟩⟩
theorem YA {l:List qb} {s:IM} {V:VM} (G:GI l s V):s.opn.length=(qy l s.pc.toNat).length:=by have:=congrArg List.length G.stk;simpa using this
theorem U3 {l:List qb} (F:Fit l) {s:IM} {V:VM} (G:GI l s V) {i:Nat} (hi:s.pc=i) (hlt:i<l.length) (hf:frS V.lv<10000) (hN:0≤(qP l i).2.2.2.2∧(qP l i).2.2.2.2<18446744073709551616) (hx:(qP l i).1≠23) :
  Jl l s V (doM (qm l) s V (qP l i)):=by
 have hw:=vP (F.ok i hlt);have hwo:=xj (F.ok i hlt);have hop:1≤(qP l i).1∧(qP l i).1≤23:=by have:=hw.1;unfold kb at this;simp only[Bool.and_eq_true,decide_eq_true_eq]at this;exact this.1.1.1.1
 have hbe:zl (qP l i).1=decide ((qP l i).1=14∨(qP l i).1=17):=rfl;have hend:ja (qP l i).1=if(qP l i).1=15 then 14 else if(qP l i).1=18 then 17 else if(qP l i).1=19 then 18 else 0:=rfl
 have hjmp:=λh=>NK F hlt h;have hstk:=G.stk;rw[hi,Int.toNat_natCast]at hstk;have hol:=YA G;rw[hi,Int.toNat_natCast]at hol;have hr:=λi=>G.gb.regs.at i;have hmb:=λh=>QZ F hlt h;have hmu:=λh=>GV F hlt h;have hss:qy l (i+1)=jQ (qy l i) i (qP l i).1:=jk;have plain:(qP l i).1≠14→(qP l i).1≠17→(qP l i).1≠15→(qP l i).1≠18→(qP l i).1≠19→zl (qP l i).1=false∧(qP l i).1≠18∧ja (qP l i).1=0:=by intro a b c d e;refine⟨by rw[hbe];exact iV omQ,d,?_⟩;rw[hend,iQ c,iQ d,iQ e]
 have keep:∀{s':IM} {V':VM} {e:Int},(qP l i).1≠14→(qP l i).1≠17→(qP l i).1≠15→(qP l i).1≠18→(qP l i).1≠19→GB s'→s'.opn=s.opn→s.out.length≤s'.out.length→kM V V'→jj V'→frS V'.lv≤frS V.lv+1→
   (e=11→s'=s∧kR V V')→Jl l s V ⟨e,s.pc+1,false,s',V'⟩:=λa b c d e gb ho hl hk hg hf hn=>
  Jl.plain G hi hlt (plain a b c d e).1 (plain a b c d e).2.1 (plain a b c d e).2.2 gb ho hl hk hg hf hn
 generalize hxe:qP l i=x at*;obtain⟨sregs,sout,spc,sopn⟩:=s;dsimp only at hi hstk hol hr keep ⊢;unfold doM;have reg:∀v:Int,x.1≠14→x.1≠17→x.1≠15→x.1≠18→x.1≠19→0≤v∧v<18446744073709551616→Jl l ⟨sregs,sout,spc,sopn⟩ V ⟨0,spc+1,false,setR ⟨sregs,sout,spc,sopn⟩ x.2.1 v,V⟩ :=
  λv a b c d e hv=>keep a b c d e (G.gb.setR hv) rfl (Nat.le_refl _) (.refl V) G.good omQ λh=>by cases h
 have jump:∀n:Int,(x.1=12∨x.1=13)→(n=x.2.2.2.1∨n=spc+1)→Jl l ⟨sregs,sout,spc,sopn⟩ V ⟨0,n,false,⟨sregs,sout,spc,sopn⟩,V⟩:=by
  intro n ho hn;rcases hn with rfl |rfl
  ·obtain⟨c,c1,c2,c3⟩:=hjmp ho;refine⟨G.gb,G.good,Nat.le_succ _,rfl,rfl,rfl,λ_ _=>⟨⟨G.gb.regs,G.gb.out,G.gb.its⟩,⟨c,c1,c2⟩,G.pts,G.told,?_,G.lv,G.good⟩,λh=>(by cases h),λh=>(by cases h)⟩;show sopn.map _=(qy l x.2.2.2.1.toNat).reverse;rw[c1,Int.toNat_natCast,c3];exact hstk
  ·exact keep omQ omQ omQ omQ omQ G.gb rfl (Nat.le_refl _) (.refl V) G.good omQ λh=>by cases h
 by_cases c1:x.1=1
 ·rw[iJ c1];exact reg _ omQ omQ omQ omQ omQ hN
 rw[iQ c1];by_cases c2:x.1=2
 ·rw[iJ c2];exact reg _ omQ omQ omQ omQ omQ (hr _)
 rw[iQ c2];by_cases c3:x.1=3
 ·rw[iJ c3];exact reg _ omQ omQ omQ omQ omQ (Of _)
 rw[iQ c3];by_cases c4:x.1=4
 ·rw[iJ c4];exact reg _ omQ omQ omQ omQ omQ (Of _)
 rw[iQ c4];by_cases c5:x.1=5
 ·rw[iJ c5];exact reg _ omQ omQ omQ omQ omQ (Of _)
 rw[iQ c5];by_cases c6:x.1=6
 ·rw[iJ c6];exact reg _ omQ omQ omQ omQ omQ (OC _)
 rw[iQ c6];by_cases c7:x.1=7
 ·rw[iJ c7];exact reg _ omQ omQ omQ omQ omQ (OC _)
 rw[iQ c7];by_cases c12:x.1=12
 ·rw[iJ c12];exact jump _ (.inl c12) (.inl rfl)
 rw[iQ c12];by_cases c13:x.1=13
 ·rw[iJ c13];by_cases cz:qD sregs x.2.1=0
  ·rw[iJ cz];exact jump _ (.inr c13) (.inl rfl)
  ·rw[iQ cz];exact jump _ (.inr c13) (.inr rfl)
 rw[iQ c13];by_cases c21:x.1=21
 ·rw[iJ c21];have hk:∀e:Int,e≠11→Jl l ⟨sregs,sout,spc,sopn⟩ V ⟨e,spc+1,false,⟨sregs,sout,spc,sopn⟩,V⟩:=λe he=>
   keep omQ omQ omQ omQ omQ G.gb rfl (Nat.le_refl _) (.refl V) G.good (Nat.le_succ _) λh=>absurd h he
  by_cases hlen:16≤sout.length
  ·rw[iJ hlen];exact hk 5 omQ
  ·rw[iQ hlen];refine keep omQ omQ omQ omQ omQ ⟨G.gb.regs,?_,?_⟩ rfl ?_ (.refl V) G.good (Nat.le_succ _) λh=>by cases h
   ·show(sout++[_]).length≤16;simp;omega
   ·intro y hy;rcases List.mem_append.1 hy with hy |hy
    ·exact G.gb.its y hy
    ·rw[List.mem_singleton]at hy;subst hy;exact hr _
   ·show sout.length≤(sout++[_]).length;simp
 rw[iQ c21];by_cases c22:x.1=22
 ·rw[iJ c22];exact keep omQ omQ omQ omQ omQ G.gb rfl (Nat.le_refl _) (.refl V) G.good (Nat.le_succ _) λh=>by cases h
 rw[iQ c22];by_cases c8:x.1=8∨x.1=9∨x.1=10∨x.1=11
 ·rw[iJ c8];obtain⟨t1,t2,t3,t4,t5,t6,t7,t8⟩:=Nn (x:=x) G hf;exact keep omQ omQ omQ omQ omQ t1 t2 (by rw[t3];exact Nat.le_refl _) t5 t6 t7 t8
 rw[iQ c8];unfold g9;by_cases h:x.1=14∨x.1=17
 ·rw[iJ h];dsimp only;subst hi;have hb:zl x.1=true:=by rw[hbe];exact iG h
  have he:¬0<ja x.1:=by rw[hend,iQ omQ,iQ omQ,iQ omQ];omega
  have key:=Gr (l:=l) (s:=⟨sregs,sout,(i:Int),sopn⟩) (V:=V) (op:=x.1) (p:=i) (st:=qy l i) G.gb hlt ⟨by omega,by rw[hxe]⟩ G.pts G.told hstk (by rw[hss];unfold jQ;rw[iJ (.inl hb),iQ he]) G.lv (by show sopn.length<5;rw[hol];exact hw.2.2.2 hb) G.good;obtain⟨k1,k2,k3,k4,k5⟩:=key;have hoG:=G.good.openG;refine⟨k4.gb |> λg=>⟨g.regs,g.out,g.its⟩,k4.good,?_,?_,?_,?_,λ_ _=>?_,λh=>(by rw[k1]at h;cases h),λh=>(by rw[k2]at h;cases h)⟩
  ·rw[k5,hoG.2];omega
  ·rw[k5];rfl
  ·rw[k5];rfl
  ·rw[k5];rfl
  ·rw[k3];exact k4
 rw[iQ h];clear h;by_cases h:x.1=15∨x.1=19
 ·rw[iJ h];have he:0<ja x.1:=by rw[hend];rcases h with h |h<;>rw[h]<;>decide
  have hne:=hwo.2.1 (.inl he)
  match sopn,hol,hstk,G with
  |[],hol,_,_=>exact absurd (iA hol.symm) hne
  |p::o,hol,hstk,G=>
   have hk:=Kq (V:=V) (by rw[G.lv];simp);have hkG:=G.good.keepG omQ;have hlv:=G.lv
   refine⟨⟨G.gb.regs,G.gb.out,G.gb.its⟩,hkG.1,by rw[hkG.2];omega,rfl,rfl,rfl,λ_ _=>⟨⟨G.gb.regs,G.gb.out,G.gb.its⟩,⟨i+1,by show spc+1=_;omega,by omega⟩,λq hq=>G.pts q (iX _ hq),G.told.tail,?_,?_,hkG.1⟩,λh0=>(by
    dsimp only at h0;rw[hk.1]at h0;cases h0),λh=>(by cases h)⟩
   ·show o.map _=(qy l (spc+1).toNat).reverse;rw[hi,show((i:Int)+1).toNat=i+1 by omega,hss];unfold jQ;rw[iQ (by rw[hbe];simp;omega),iJ he];exact(ki hstk).2
   ·show(yT V).2.lv.length=o.length+1;have:=hk.2;simp at hlv;omega
 rw[iQ h];clear h;by_cases h:x.1=18
 ·rw[iJ h];have he:0<ja x.1:=by rw[hend];rw[h];decide
  have hne:=hwo.2.1 (.inl he);obtain⟨e,e1,e2,e3,e4,e5⟩:=hmb (.inr (.inr h));have heo:(qP l (e:Int)).1=19:=by
   rw[h]at e4;unfold ja at e4
   repeat' split at e4
   all_goals first |assumption |omega
  match sopn,hol,hstk,G with
  |[],hol,_,_=>exact absurd (iA hol.symm) hne
  |p::o,hol,hstk,G=>
   have hk:=Kq (V:=V) (by rw[G.lv];simp);have hkG:=G.good.keepG omQ;have hlv:=G.lv
   refine⟨⟨G.gb.regs,G.gb.out,G.gb.its⟩,hkG.1,by rw[hkG.2];omega,rfl,rfl,rfl,λ_ _=>⟨⟨G.gb.regs,G.gb.out,G.gb.its⟩,⟨e+1,by show qD (qm l) spc+1=_;rw[hi,e1];omega,by omega⟩,λq hq=>G.pts q (iX _ hq),G.told.tail,?_,?_,hkG.1⟩,λh0=>(by
    dsimp only at h0;rw[hk.1]at h0;cases h0),λh=>(by cases h)⟩
   ·show o.map _=(qy l (qD (qm l) spc+1).toNat).reverse;rw[hi,e1,show((e:Int)+1).toNat=e+1 by omega,jk,e5,hss];unfold jQ;rw[iQ (by rw[heo];decide),iJ (by rw[heo];decide),iJ (.inr h),iJ he,List.dropLast_concat];exact(ki hstk).2
   ·show(yT V).2.lv.length=o.length+1;have:=hk.2;simp at hlv;omega
 rw[iQ h];clear h;by_cases h:x.1=16
 ·rw[iJ h];obtain⟨e,e1,e2,e3,e4,hne⟩:=hmu h
  match sopn,hol,hstk,G with
  |[],hol,_,_=>exact absurd (iA hol.symm) hne
  |p::o,hol,hstk,G=>
   have hk:=KF (V:=V) (by rw[G.lv];simp);have hkG:=G.good.dropG;have hlv:=G.lv;have P:=G.pts p (iK ..);have told:=G.told;have gb2:=G.gb.back P
   refine⟨⟨gb2.regs,gb2.out,gb2.its⟩,hkG.1,by have:=hkG.2;dsimp only;omega,rfl,rfl,rfl,λ_ _=>⟨⟨gb2.regs,gb2.out,gb2.its⟩,⟨e+1,by show qD (qm l) spc+1=_;rw[hi,e1];omega,by omega⟩,λq hq=>G.pts q (iX _ hq),?_,?_,?_,hkG.1⟩,λh0=>(by
    dsimp only at h0;rw[hk.1]at h0;cases h0),λh=>(by cases h)⟩
   ·show ToldD (sout.take p.told).length o;rw[List.length_take,Nat.min_eq_left told.1];exact told.2
   ·show o.map _=(qy l (qD (qm l) spc+1).toNat).reverse;rw[hi,e1,show((e:Int)+1).toNat=e+1 by omega,jk,e4];unfold jQ;rw[iQ (by rw[e3];decide),iJ (by rw[e3];decide)];exact(ki hstk).2
   ·show(zu V).2.lv.length=o.length+1;rw[hk.2,List.length_tail,hlv];simp
 ·rw[iQ h];exact NA F sopn _ V (qy l i) (Kb i) hstk G.gb G.pts G.told G.lv G.good (Nat.le_refl _) rfl rfl rfl
end
section
variable {g h:AH} {L R:List SP}
theorem Xk {b off n sz a:Nat} {k:IntKind} {K:AV→Go.Ae.R} {Q:AV→AH→Prop} (ha:a<n) (w:wp (K (.ptr b (off+a*sz))) Q):wp (wR (.ptr b off) (.int k (a:Int)) n sz K) Q:=by unfold wR;show wp (bif Nat.ble (a+1) n then _ else none) Q;rw[iY (show a+1≤n from ha)];exact w
theorem qXP {z:Int} (h0:0≤z):∃a:Nat,z.tmod ((8:Nat):Int)=a∧a<8∧(z<8→z=a):=by refine⟨(z%8).toNat,?_,by omega,λh=>by omega⟩;rw[Int.tmod_eq_emod_of_nonneg h0];omega
def qYU (r:List Int):List AV:=[.int .u64 (qD r 0),.int .u64 (qD r 1),.int .u64 (qD r 2),.int .u64 (qD r 3),.int .u64 (qD r 4),.int .u64 (qD r 5),.int .u64 (qD r 6),.int .u64 (qD r 7)]
def x8 (p:PtM):List AV:=[.int .i64 p.op,.int .i64 p.pc,.int .u64 (qD p.regs 0),.int .u64 (qD p.regs 1),.int .u64 (qD p.regs 2),.int .u64 (qD p.regs 3),.int .u64 (qD p.regs 4),.int .u64 (qD p.regs 5),.int .u64 (qD p.regs 6),.int .u64 (qD p.regs 7),.int .i64 (p.told:Int)]
def vE (c mv ov:AV) (v o:Nat) (bad err fin left nx pc:Int) (r:List Int):List AV :=
 [c,.ptr v 0,mv,.int .i64 bad,.int .i64 err,.int .i64 fin,.int .u64 (qD r 0),.int .u64 (qD r 1),.int .u64 (qD r 2),.int .u64 (qD r 3),.int .u64 (qD r 4),.int .u64 (qD r 5),.int .u64 (qD r 6),.int .u64 (qD r 7),
  .ptr o 0,.int .i64 pc,.int .i64 nx,.int .i64 left,ov]
section
variable {c mv ov:AV} {v o:Nat} {bad err fin left nx pc:Int} {r:List Int}
theorem JH {a:Nat} (ha:a<8):(vE c mv ov v o bad err fin left nx pc r)[6+a*1]? =some (.int .u64 (qD r (a:Int))):=by
 rcases(show a=0∨a=1∨a=2∨a=3∨a=4∨a=5∨a=6∨a=7 by omega)with rfl |rfl |rfl |rfl |rfl |rfl |rfl |rfl<;>rfl
theorem Zn {i k:Nat} {z:Int} (hi:i<r.length):qD (r.set i z) (k:Int)=if i=k then z else qD r (k:Int):=by
 unfold qD;rw[Int.toNat_natCast,List.getElem?_set]
 split
 ·rename_i h;subst h;simp[hi]
 ·rfl
theorem qW6 {a:Nat} {z:Int} (hr:r.length=8) (ha:a<8):(vE c mv ov v o bad err fin left nx pc r).set (6+a*1) (.int .u64 z)=vE c mv ov v o bad err fin left nx pc (r.set a z):=by have hs:=λk:Nat=>Zn (r:=r) (i:=a) (k:=k) (z:=z) omQ;have e0:=hs 0;have e1:=hs 1;have e2:=hs 2;have e3:=hs 3;have e4:=hs 4;have e5:=hs 5;have e6:=hs 6;have e7:=hs 7;simp only[iZ,show((0:Nat):Int)=0 from rfl,show((1:Nat):Int)=1 from rfl,show((2:Nat):Int)=2 from rfl,show((3:Nat):Int)=3 from rfl,show((4:Nat):Int)=4 from rfl,show((5:Nat):Int)=5 from rfl,show((6:Nat):Int)=6 from rfl,show((7:Nat):Int)=7 from rfl]at e0 e1 e2 e3 e4 e5 e6 e7;unfold vE;rw[e0,e1,e2,e3,e4,e5,e6,e7];rcases(show a=0∨a=1∨a=2∨a=3∨a=4∨a=5∨a=6∨a=7 by omega)with rfl |rfl |rfl |rfl |rfl |rfl |rfl |rfl<;>rfl
end
def IntC (x v:Nat) (l:List qb) (bad:Int) (mt:List Int) (s:IM) (err fin left nx:Int):SP:=.ex λc=>.ex λmv=>.ex λov=>.ex λo=>.all
 [qw x (vE c mv ov v o bad err fin left nx s.pc s.regs),qL 32 5 l.length c (l.flatMap js),qL 3 1 mt.length mv (mt.map (.int .i64)),SlaC o s.out,qL 255 11 s.opn.length ov (s.opn.reverse.flatMap x8)]
section
variable {x v:Nat} {l:List qb} {bad:Int} {mt:List Int} {s:IM} {err fin left nx:Int}
theorem IntC.E (H:HS g h (IntC x v l bad mt s err fin left nx::R)):∃c mv ov o,HS g h (qw x (vE c mv ov v o bad err fin left nx s.pc s.regs)::qL 32 5 l.length c (l.flatMap js)::qL 3 1 mt.length mv (mt.map (.int .i64))::SlaC o s.out::
  qL 255 11 s.opn.length ov (s.opn.reverse.flatMap x8)::R):=by
 obtain⟨c,H⟩:=H.exE;obtain⟨mv,H⟩:=H.exE;obtain⟨ov,H⟩:=H.exE;obtain⟨o,H⟩:=H.exE;exact⟨c,mv,ov,o,H.allE⟩
theorem IntC.I {c mv ov:AV} {o:Nat} (H:HS g h (qw x (vE c mv ov v o bad err fin left nx s.pc s.regs)::qL 32 5 l.length c (l.flatMap js)::qL 3 1 mt.length mv (mt.map (.int .i64))::SlaC o s.out::
  qL 255 11 s.opn.length ov (s.opn.reverse.flatMap x8)::R)):HS g h (IntC x v l bad mt s err fin left nx::R) :=
 HS.exI c (HS.exI mv (HS.exI ov (HS.exI o H.allI)))
theorem qWt {n o:Nat} (hn:1≤n) {l:List ItT} (H:HS g h (SlaC o l::R)):t_w n 251 [.ptr o 0] h λr h'=>r=.int .i64 (l.length:Int)∧h'=h:=by
 refine t_e1 (S:=S251) rfl omQ λk hk=>?_;unfold S251;try simp only[iZ]
 obtain⟨sv,H⟩:=SlaC.E H;refine qK (qQ (qV ‹_› .here rfl ?_));refine qs ‹_› e_1 ?_;exact qW ⟨rfl,rfl⟩
theorem qGO {n o:Nat} (hn:1≤n) {l:List ItT} {x:ItT} (H:HS g h (SlaC o l::R)) (hl:l.length≤16) :
  t_w n 167 [.ptr o 0,Xp x] h λr h'=>r=.bool (decide (l.length<16))∧HS g h' (SlaC o (if l.length<16 then l++[x]else l)::R):=by
 refine t_e2 (S:=S167) rfl omQ λk hk=>?_;unfold S167;try simp only[iZ]
 obtain⟨sv,H⟩:=SlaC.E H;by_cases h1:l.length<16
 ·rw[iJ h1,iG h1];refine qK (qQ (qV ‹_› .here rfl ?_));refine qs ‹_› e_1 ?_;refine ju omQ ?_;refine qJ (qK (qQ (qV ‹_› .here rfl ?_)))
  refine jY (n:=1) (l:=[Xp x]) (sz:=1) H rfl rfl (by
   have e:=(Ql x).1
   simp only[vK,e,yo];rfl) (yi (Ql x)) λv2 h2 H2=>?_
  refine zn (H2.sel e_2) (H2.sl .here) omQ omQ (yi (Ql x)) λv3 h3 H3=>?_;have o3:=H3.one .here;refine qK (qQ (qk H3 (b:=o) e_2 o3 osQ λh4 H4=>?_));refine qW ⟨rfl,SlaC.I (sv:=v3) ?_⟩;rw[List.length_append,List.map_append];exact H4.sub (.cons .here (.cons .here (.drop .refl)))
 ·rw[iQ h1,iV h1];refine qK (qQ (qV ‹_› .here rfl ?_));refine qs ‹_› e_1 ?_;refine jh omQ ?_;refine qX ?_;exact qW ⟨rfl,SlaC.I H⟩
theorem qVb {n o:Nat} (hn:2≤n) {l:List ItT} {u:Int} (H:HS g h (SlaC o l::R)) (hl:l.length≤16) :
  t_w n 144 [.ptr o 0,.int .u64 u] h λr h'=>r=.bool (decide (l.length<16))∧HS g h' (SlaC o (if l.length<16 then l++[(1,u)]else l)::R):=by
 refine t_e2 (S:=S144) rfl omQ λk hk=>?_;unfold S144;try simp only[iZ]
 refine qY (qGO (x:=(1,u)) omQ H hl) ?_;rintro _ h2 ⟨rfl,H2⟩;exact qW ⟨rfl,H2⟩
theorem qQd {n m:Nat} (hn:1≤n) {e:TypeId} {v:AV} {xs:List AV} (H:HS g h L) (s:Sel L (qL e 1 m v xs) R) (ha:jG xs=true) (hm:m≤1000000) :
  t_w n 107 [v] h λr h'=>HS g h' (qL 20 1 m r xs::L):=by
 refine t_e1 (S:=S107) rfl omQ λk hk=>?_;unfold S107;try simp only[iZ]
 refine UB H s (λh1 h2=>?_) ?_
 ·subst h1 h2;have hx:xs=[]:=iA (by simpa using H.sl_len s);subst hx;exact qX (qW H.nils)
 ·refine qJ (jY (n:=0) (l:=[]) (sz:=1) H rfl rfl rfl rfl λv2 h2 H2=>?_);refine zn H2 (H2.sl (.there s)) omQ omQ ha λv3 h3 H3=>?_;rw[Nat.zero_add,List.nil_append]at H3;exact qW H3
theorem qGH {n o m:Nat} (hn:2≤n) {l:List ItT} (H:HS g h (SlaC o l::R)) (hl:l.length≤16) (hm:m≤l.length) :
  t_w n 253 [.ptr o 0,.int .i64 (m:Int)] h λ_ h'=>HS g h' (SlaC o (l.take m)::R):=by
 refine t_e2 (S:=S253) rfl omQ λk hk=>?_;unfold S253;try simp only[iZ]
 obtain⟨sv,H⟩:=SlaC.E H;refine qK (qQ (qV ‹_› .here rfl ?_));refine qK (qQ (qV ‹_› .here rfl ?_));refine qs ‹_› e_1 ?_;refine zB (zP ?_);rw[show max ((0:Nat):Int) (min (m:Int) (l.length:Int))=(m:Int) by omega];refine Yq (H.sel e_1) omQ hm λv2 H2=>?_;rw[Nat.mul_one,← List.map_take]at H2;refine qY (qQd omQ H2 .here (Nh _) omQ) ?_;intro cv h3 H3;have oc:=H3.one .here;refine qK (qQ (qk H3 (b:=o) e_2 oc osQ λh4 H4=>?_));refine qW (SlaC.I (sv:=cv) ?_);rw[show(l.take m).length=m by simp;omega];exact H4.sub (.cons .here (.cons .here (.drop .refl)))
theorem K5 {n:Nat} (hn:1≤n) {p:Prop} [Decidable p]:t_w n 143 [.bool (decide p)] h λr h'=>r=.int .u64 (Jq p)∧h'=h:=by
 refine t_e1 (S:=S143) rfl omQ λk hk=>?_;unfold S143;try simp only[iZ]
 unfold Jq;by_cases hp:p
 ·rw[iG hp,iJ hp];exact qX (qW ⟨rfl,rfl⟩)
 ·rw[iV hp,iQ hp];exact qJ (qW ⟨rfl,rfl⟩)
theorem VE {n:Nat} (hn:1≤n) {e:Int} (H:HS g h (IntC x v l bad mt s err fin left nx::R)) :
  t_w n 117 [.ptr x 0,.int .i64 e] h λ_ h'=>HS g h' (IntC x v l bad mt s e 4 left nx::R):=by
 refine t_e2 (S:=S117) rfl omQ λk hk=>?_;unfold S117;try simp only[iZ]
 obtain⟨c,mv,ov,o,H⟩:=IntC.E H;unfold vE at H;refine qK (qQ (qk H (b:=x) .here ⟨rfl,rfl⟩ osQ λh1 H1=>?_));refine qK (qQ (qk H1 (b:=x) .here ⟨rfl,rfl⟩ osQ λh2 H2=>?_));exact qW (IntC.I H2)
theorem qGF {n:Nat} (hn:1≤n) (H:HS g h (IntC x v l bad mt s err fin left nx::R)):t_w n 89 [.ptr x 0] h λr h'=>r=.int .i64 err∧h'=h:=by
 refine t_e1 (S:=S89) rfl omQ λk hk=>?_;unfold S89;try simp only[iZ]
 obtain⟨c,mv,ov,o,H⟩:=IntC.E H;unfold vE at H;refine qK (qQ (qV ‹_› .here rfl ?_));exact qW ⟨rfl,rfl⟩
theorem KS {n:Nat} (hn:1≤n) {b off:Int} (hb:0≤b∧b<18446744073709551616) (ho:0≤off∧off≤100):t_w n 182 [.int .u64 b,.int .i64 off] h λr h'=>r=.tup [.int .i64 (xc b off).1,.int .i64 (xc b off).2]∧h'=h:=by
 refine t_e2 (S:=S182) rfl omQ λk hk=>?_;unfold S182;try simp only[iZ]
 unfold xc;by_cases h1:2147483648≤b
 ·rw[iJ (.inl h1)];refine jh omQ ?_;refine qG ?_;(try dsimp only);refine qr ?_;(try dsimp only);refine qE (qG ?_);(try dsimp only);refine qr ?_;(try dsimp only);refine qE (qX ?_)
  exact qW ⟨rfl,rfl⟩
 ·refine ju omQ ?_;refine qG ?_;(try dsimp only);refine qd ?_;(try dsimp only);refine xG omQ ?_;refine qf omQ ?_
  by_cases h2:2147483648≤b+off
  ·rw[iJ (.inr (.inl h2))];refine jh omQ ?_;refine qI (qG ?_);(try dsimp only);refine qr ?_;(try dsimp only);refine qE (qX ?_)
   exact qW ⟨rfl,rfl⟩
  ·refine ju omQ ?_;refine qI (qG ?_);(try dsimp only);refine qd ?_;(try dsimp only);refine xG omQ ?_;refine qf omQ ?_
   by_cases h3:b+off<6
   ·rw[iJ (.inr (.inr h3))];refine zJ omQ ?_;refine qI (qX ?_);exact qW ⟨rfl,rfl⟩
   ·rw[iQ omQ];refine jb omQ ?_;refine qI (qJ (xG omQ ?_));refine qf omQ ?_;exact qW ⟨rfl,rfl⟩
theorem qJP {most:Nat} {lv:List LvM} {p z:Int} (h:¬(y5 most lv p z).1=0):(y5 most lv p z).2=lv:=by
 cases lv with
 |nil=>rfl
 |cons y r=>
  unfold y5 at h ⊢;dsimp only at h ⊢
  split
  ·rfl
  ·rename_i h1;rw[iQ h1]at h
   split
   ·rfl
   ·rename_i h2;rw[iQ h2]at h;exact absurd rfl h
theorem Z6 {n:Nat} (hn:6≤n) {v:Nat} {M:VM} {p z:Int} (H:HS g h (ViewC v M::R)) (O:OkV M) :
  t_w n 183 [.ptr v 0,.int .i64 p,.int .u64 z] h λr h'=>r=.int .i64 (jd M [(p,z)]).1∧HS g h' (ViewC v (jd M [(p,z)]).2::R):=by
 refine t_e3 (S:=S183) rfl omQ λk hk=>?_;unfold S183;try simp only[iZ]
 refine qY (VQ omQ H) ?_;rintro _ _ ⟨rfl,rfl⟩;by_cases hp:1≤p∧p<M.sz
 ·rw[iG hp];obtain⟨fv,ov,q,e,H⟩:=ViewC.E H;refine jV (qJ (qK (qQ (qV ‹_› .here rfl ?_))));refine qY (Ow omQ (H.sel (P:=LgC q M.most M.lv) e_3) O.lvs) ?_;rintro _ h2 ⟨rfl,H2⟩;have e2:jd M [(p,z)]=((y5 M.most M.lv p z).1,{ M with lv:=(y5 M.most M.lv p z).2 }):=by
   unfold jd;rw[iJ (by intro c hc;rw[List.mem_singleton]at hc;subst hc;exact hp),y7]
   split
   ·rename_i h0;rw[h0];rfl
   ·rename_i h0;have hx:=qJP h0;rw[hx]
  rw[e2];exact qW ⟨rfl,ViewC.I (M:={ M with lv:=(y5 M.most M.lv p z).2 }) (fv:=fv) (ov:=ov) (q:=q) (e:=e) (H2.sub (.cons e_1 (.cons e_1 (.cons e_1 (.refl)))))⟩
 ·rw[iV hp];have e2:jd M [(p,z)]=(2,M):=by
   unfold jd;rw[iQ (λhh=>hp (hh (p,z) (List.mem_singleton_self _)))]
  rw[e2];refine jq (qX ?_);exact qW ⟨rfl,H⟩
end
end
section
variable {g h:AH} {L R:List SP}
section
variable {x v:Nat} {l:List qb} {bad:Int} {mt:List Int} {s:IM} {err fin left nx:Int}
theorem qZP (o:List PtM):(o.reverse.flatMap x8).length=o.length*11:=by rw[Js (sz:=11) _ (λ_=>rfl),List.length_reverse]
theorem qKP (p:PtM):jG (x8 p)=true:=rfl
theorem KH (p:PtM) (o:List PtM):(p::o).reverse.flatMap x8=o.reverse.flatMap x8++x8 p:=by rw[List.reverse_cons,List.flatMap_append];simp
theorem QD {n:Nat} (hn:1≤n) {p:PtM} {o:List PtM} (ho:s.opn=p::o) (hlo:o.length≤100) (H:HS g h (IntC x v l bad mt s err fin left nx::R)) :
  t_w n 187 [.ptr x 0] h λr h'=>r=.agg (x8 p)∧HS g h' (IntC x v l bad mt { s with opn:=o } err fin left nx::R):=by
 refine t_e1 (S:=S187) rfl omQ λk hk=>?_;unfold S187;try simp only[iZ]
 obtain⟨c,mv,ov,q,H⟩:=IntC.E H;rw[ho,KH,List.length_cons]at H;have hol:=qZP o;generalize hA:o.reverse.flatMap x8=A at*;unfold vE at H;refine qH H rfl λb0 h1 H1=>?_;clear H;refine qK (qQ (qV ‹_› e_1 rfl ?_));refine qK (qQ (qV ‹_› e_1 rfl ?_));refine qs ‹_› e_5 ?_;refine zZ omQ ?_;rw[show((o.length+1:Nat):Int)-((1:Nat):Int)=(o.length:Int) by omega]
 refine xK (l:=x8 p) (H1.sl e_5) (i:=o.length) omQ omQ (by
  rw[List.drop_append_of_le_length omQ,List.drop_of_length_le omQ,List.nil_append];rfl) ?_
 refine qH H1 rfl λb2 h3 H3=>qe H3 .here rfl (by show 0+11≤11;omega) rfl λh4 H4=>?_
 have H5:HS g h4 (qw b2 (x8 p)::qw b0 [.int .i64 ((0:Nat):Int),.int .i64 ((0:Nat):Int),.int .u64 ((0:Nat):Int),.int .u64 ((0:Nat):Int),.int .u64 ((0:Nat):Int),.int .u64 ((0:Nat):Int),.int .u64 ((0:Nat):Int),.int .u64 ((0:Nat):Int),.int .u64 ((0:Nat):Int),.int .u64 ((0:Nat):Int),.int .i64 ((0:Nat):Int)]::
  qw x (vE c mv ov v q bad err fin left nx s.pc s.regs)::qL 32 5 l.length c (l.flatMap js)::qL 3 1 mt.length mv (mt.map (.int .i64))::SlaC q s.out::
  qL 255 11 (o.length+1) ov (A++x8 p)::R):=H4
 clear H1 H3 H4;unfold vE at H5;refine qK (qQ (qV ‹_› e_2 rfl ?_));refine qK (qQ (qV ‹_› e_2 rfl ?_));refine qs ‹_› e_6 ?_;refine zZ omQ ?_;rw[show((o.length+1:Nat):Int)-((1:Nat):Int)=(o.length:Int) by omega];refine Yq (hi:=o.length) (H5.sel e_6) omQ omQ λv6 H6=>?_;rw[List.take_append_of_le_length omQ,List.take_of_length_le omQ]at H6;have o6:=H6.one .here;clear H5;refine qK (qQ (qk H6 (b:=x) e_3 o6 osQ λh7 H7=>?_));refine qA H7 (b:=b2) (off:=0) e_2 rfl omQ (l:=x8 p) rfl ?_;refine qe H7 (b:=b0) e_3 rfl (by show 0+11≤11;omega) rfl λh8 H8=>?_
 have H8:HS g h8 (qw b0 (x8 p)::qw x (vE c mv v6 v q bad err fin left nx s.pc s.regs)::qL 255 11 o.length v6 A::qw b2 (x8 p)::
  qL 32 5 l.length c (l.flatMap js)::qL 3 1 mt.length mv (mt.map (.int .i64))::SlaC q s.out::R):=H8
 refine qA H8 (b:=b0) (off:=0) .here rfl omQ (l:=x8 p) rfl ?_;refine qW ⟨rfl,IntC.I (s:={ s with opn:=o }) (c:=c) (mv:=mv) (ov:=v6) (o:=q) ?_⟩
 show HS g h8 (qw x (vE c mv v6 v q bad err fin left nx s.pc s.regs)::qL 32 5 l.length c (l.flatMap js)::qL 3 1 mt.length mv (mt.map (.int .i64))::SlaC q s.out::
  qL 255 11 o.length v6 (o.reverse.flatMap x8)::R)
 rw[hA];exact H8.sub (.cons e_1 (.cons e_3 (.cons e_3 (.cons e_3 (.cons e_1 (.drop (.drop .refl)))))))
theorem Vp {n:Nat} (hn:3≤n) {p:PtM} (ht:p.told≤s.out.length) (hl:s.out.length≤16) (H:HS g h (IntC x v l bad mt s err fin left nx::R)) :
  t_w n 189 [.ptr x 0,.agg (x8 p)] h λ_ h'=>HS g h' (IntC x v l bad mt (wS s p) err fin left nx::R):=by
 refine t_e2 (S:=S189) rfl omQ λk hk=>?_;unfold S189;try simp only[iZ]
 refine qH H (qKP p) λb0 h1 H1=>?_;obtain⟨c,mv,ov,q,H2⟩:=IntC.E (H1.sel (P:=IntC x v l bad mt s err fin left nx) e_1);clear H H1;refine qQ (qA H2 (b:=b0) (off:=2) e_5 rfl omQ (l:=qYU p.regs) rfl ?_);refine qK (qQ ?_);refine qe H2 (b:=x) .here rfl (by show 6+8≤19;omega) rfl λh3 H3=>?_
 have H3:HS g h3 (qw x (vE c mv ov v q bad err fin left nx s.pc p.regs)::qL 32 5 l.length c (l.flatMap js)::qL 3 1 mt.length mv (mt.map (.int .i64))::SlaC q s.out::
  qL 255 11 s.opn.length ov (s.opn.reverse.flatMap x8)::qw b0 (x8 p)::R):=H3
 clear H2;have H4:=H3;unfold vE x8 at H4;refine qK (qQ (qV ‹_› .here rfl ?_));refine qQ (qV ‹_› e_5 rfl ?_);refine qY (qGH omQ (H3.sel (P:=SlaC q s.out) e_3) hl ht) ?_;intro _ h5 H5;clear H4 H3;exact qW (IntC.I (s:=wS s p) (c:=c) (mv:=mv) (ov:=ov) (o:=q) (H5.sub (.cons e_1 (.cons e_1 (.cons e_1 (.cons .here (.cons .here (.drop .refl))))))))
theorem Kl {n:Nat} (hn:5≤n) {op at_ nx0:Int} {V:VM} (O:OkV V) (hlo:s.opn.length≤100) (H:HS g h (IntC x v l bad mt s err fin left nx::ViewC v V::R)) :
  t_w n 186 [.ptr x 0,.int .i64 op,.int .i64 at_] h λr h'=>r=.int .i64 (zF op at_ nx0 s V).e∧HS g h' (IntC x v l bad mt (zF op at_ nx0 s V).s err fin left nx::ViewC v (zF op at_ nx0 s V).v::R):=by
 refine t_e3 (S:=S186) rfl omQ λk hk=>?_;unfold S186;try simp only[iZ]
 obtain⟨c,mv,ov,q,H⟩:=IntC.E H;unfold vE at H;refine qK (qQ (qV ‹_› .here rfl ?_));refine qY (qZ0 omQ (H.sel (P:=ViewC v V) e_5) O) ?_;rintro _ h2 ⟨rfl,H2⟩
 have H2:HS g h2 (ViewC v (yv V).2::qw x (vE c mv ov v q bad err fin left nx s.pc s.regs)::qL 32 5 l.length c (l.flatMap js)::qL 3 1 mt.length mv (mt.map (.int .i64))::SlaC q s.out::
  qL 255 11 s.opn.length ov (s.opn.reverse.flatMap x8)::R):=H2
 clear H;unfold zF;by_cases h0:(yv V).1=0
 ·rw[iJ h0];refine jK h0 (qJ ?_);have H3:=H2;unfold vE at H3;refine qG ?_
  try dsimp only
  refine qK (qQ ?_);refine qV H2 (b:=x) e_1 rfl ?_;refine qK (qQ ?_);refine qA H2 (b:=x) (off:=6) e_1 rfl omQ (l:=qYU s.regs) rfl ?_;refine qK (qQ ?_);refine qV H2 (b:=x) e_1 rfl ?_;refine qY (qWt omQ (H2.sel (P:=SlaC q s.out) e_4)) ?_;rintro _ _ ⟨rfl,rfl⟩;refine qF (l:=x8 ⟨op,at_,s.regs,s.out.length⟩) rfl ?_;refine jY (n:=1) (l:=x8 ⟨op,at_,s.regs,s.out.length⟩) (sz:=11) H2 rfl rfl rfl rfl λv4 h4 H4=>?_;refine zn (H4.sel e_6) (H4.sl .here) omQ omQ rfl λv5 h5 H5=>?_;have o5:=H5.one .here;refine qK (qQ ?_);refine qk H5 (b:=x) e_3 o5 (by show 18<19;omega) λh6 H6=>?_;refine zU H2 (b:=x) e_1 rfl H2 e_1 rfl rfl omQ (HS.lt H2 e_1) ?_;refine jz H2 (b:=x) e_1 rfl H2 e_1 rfl (HS.lt H2 e_1) ?_;refine qW ⟨rfl,IntC.I (s:={ s with opn:=⟨op,at_,s.regs,s.out.length⟩::s.opn }) (c:=c) (mv:=mv) (ov:=v5) (o:=q) ?_⟩
  show HS g h6 (qw x (vE c mv v5 v q bad err fin left nx s.pc s.regs)::qL 32 5 l.length c (l.flatMap js)::qL 3 1 mt.length mv (mt.map (.int .i64))::SlaC q s.out::
   qL 255 11 (s.opn.length+1) v5 ((⟨op,at_,s.regs,s.out.length⟩::s.opn).reverse.flatMap x8)::ViewC v (yv V).2::R)
  rw[KH];exact H6.sub (.cons .here (.cons e_3 (.cons e_3 (.cons e_3 (.cons .here (.drop .refl))))))
 ·rw[iQ h0];refine jX h0 (qX ?_);exact qW ⟨rfl,IntC.I (s:=s) (c:=c) (mv:=mv) (ov:=ov) (o:=q) (H2.sub (.cons e_1 (.cons e_1 (.cons e_1 (.cons e_1 (.cons e_1 .refl))))))⟩
end
end
section
variable {g h:AH} {L R:List SP}
section
variable {x v:Nat} {l:List qb} {bad:Int} {mt:List Int} {s:IM} {err fin left nx:Int}
def MtAt (mt:List Int) (p:Int):Prop:=∃k:Nat,p=k∧∃z:Int,mt[k]? =some z∧ -1≤z∧z≤1000
theorem MtAt.num {mt:List Int} {p z:Int} {k:Nat} (h1:p=k) (h2:mt[k]? =some z):qD mt p=z:=by unfold qD;rw[h1,Int.toNat_natCast,h2];rfl
theorem MtAt.idx {mt:List Int} {k:Nat} {z:Int} (h:mt[k]? =some z):(mt.map (AV.int .i64))[k]? =some (.int .i64 z)∧k<mt.length:=by refine⟨by rw[List.getElem?_map,h];rfl,(List.getElem?_eq_some_iff.1 h).1⟩
theorem qQa {n:Nat} (hn:8≤n) {V:VM} (G:jj V) (hlo:s.opn.length≤100) (hout:s.out.length≤16) (told:ToldD s.out.length s.opn) (hm:∀p∈s.opn,p.op=17→MtAt mt p.pc) (hpc:0≤s.pc∧s.pc≤100)
  (H:HS g h (IntC x v l bad mt s err 0 left (s.pc+1)::ViewC v V::R)) :
  t_w n 191 [.ptr x 0] h λr h'=>r=.int .i64 (yB mt s.opn s V).e∧
   HS g h' (IntC x v l bad mt (yB mt s.opn s V).s err (if(yB mt s.opn s V).blk=true then 3 else 0) left (yB mt s.opn s V).nx::ViewC v (yB mt s.opn s V).v::R):=by
 refine t_e1 (S:=S191) rfl omQ λk hk=>?_;unfold S191;try simp only[iZ]
 generalize hD:yB mt s.opn s V=D;have hs:s={ s with opn:=s.opn }:=rfl;refine zG (λm st h'=>∃(o:List PtM) (V':VM),st=(.ptr x 0,())∧m=o.length∧o.length≤100∧HS g h' (IntC x v l bad mt { s with opn:=o } err 0 left (s.pc+1)::ViewC v V'::R)∧jj V'∧ToldD s.out.length o∧(∀p∈o,p.op=17→MtAt mt p.pc)∧yB mt o s V'=D)
  ?_ (m:=s.opn.length) (by show _<1000000000;omega) ⟨s.opn,V,rfl,rfl,hlo,H,G,told,hm,hD⟩
 clear H G told hm hD hlo hs;rintro m ih st h2 hih ⟨o,V,rfl,rfl,hlo,H,G,told,hm,hD⟩;dsimp only;obtain⟨c,mv,ov,q,H1⟩:=IntC.E H
 have H1:HS g h2 (qw x (vE c mv ov v q bad err 0 left (s.pc+1) s.pc s.regs)::qL 32 5 l.length c (l.flatMap js)::qL 3 1 mt.length mv (mt.map (.int .i64))::SlaC q s.out::
  qL 255 11 o.length ov (o.reverse.flatMap x8)::ViewC v V::R):=H1
 refine qK (qQ (qV H1 (b:=x) .here rfl ?_));refine qs H1 e_4 ?_;cases o with
 |nil=>refine xH osQ (qJ ?_);refine qK (qQ (qV H1 (b:=x) .here rfl ?_));refine qK (qQ ?_);refine qk H1 (b:=x) .here ⟨rfl,rfl⟩ (by show 16<19;omega) λh3 H3=>?_;refine qK (qQ ?_);refine qk H3 (b:=x) .here ⟨rfl,rfl⟩ (by show 5<19;omega) λh4 H4=>?_;subst hD;exact qv (qW ⟨rfl,IntC.I (s:={ s with opn:=[] }) (c:=c) (mv:=mv) (ov:=ov) (o:=q) H4⟩)
 |cons p o=>
  refine xT (by rw[List.length_cons];omega) (qX ?_);refine qY (QD (s:={ s with opn:=p::o }) (p:=p) (o:=o) omQ rfl (by simp at hlo;omega) H) ?_;rintro _ h3 ⟨rfl,H3⟩;clear H H1;refine qH H3 rfl λb h4 H4=>qe H4 .here rfl (by show 0+11≤11;omega) rfl λh5 H5=>?_;have H5:HS g h5 (qw b (x8 p)::IntC x v l bad mt { s with opn:=o } err 0 left (s.pc+1)::ViewC v V::R):=H5;clear H3 H4;obtain⟨c,mv,ov,q,H6⟩:=IntC.E (H5.sel (P:=IntC x v l bad mt { s with opn:=o } err 0 left (s.pc+1)) e_1)
  have H6:HS g h5 (qw x (vE c mv ov v q bad err 0 left (s.pc+1) s.pc s.regs)::qL 32 5 l.length c (l.flatMap js)::qL 3 1 mt.length mv (mt.map (.int .i64))::SlaC q s.out::
   qL 255 11 o.length ov (o.reverse.flatMap x8)::qw b (x8 p)::ViewC v V::R):=H6
  refine qK (qQ (qV H6 (b:=x) .here rfl ?_));clear H6;refine qY (VG omQ (H5.sel (P:=ViewC v V) e_2) G.ok) ?_;rintro _ h6 ⟨rfl,H6⟩;have GD:=G.dropG;clear H5;unfold yB at hD;by_cases h0:(zu V).1=0
  ·rw[iJ h0]at hD;refine jK h0 (qJ ?_);refine qQ (qV H6 (b:=b) e_1 rfl ?_);by_cases h17:p.op=17
   ·rw[iJ h17]at hD;refine qj h17 (qX ?_);refine qA H6 (b:=b) (off:=0) e_1 rfl omQ (l:=x8 p) rfl ?_;have H7:=H6.sub (L':=IntC x v l bad mt { s with opn:=o } err 0 left (s.pc+1)::ViewC v (zu V).2::qw b (x8 p)::R) (.cons e_2 (.cons .here (.cons .here .refl)));refine qY (Vp (s:={ s with opn:=o }) (p:=p) omQ told.1 hout H7) ?_;intro _ h8 H8;clear H6 H7;obtain⟨c,mv,ov,q,H9⟩:=IntC.E H8
    have H9:HS g h8 (qw x (vE c mv ov v q bad err 0 left (s.pc+1) s.pc p.regs)::qL 32 5 l.length c (l.flatMap js)::qL 3 1 mt.length mv (mt.map (.int .i64))::SlaC q (s.out.take p.told)::
     qL 255 11 o.length ov (o.reverse.flatMap x8)::ViewC v (zu V).2::qw b (x8 p)::R):=H9
    clear H8;obtain⟨kk,hk1,z,hk2,hk3,hk4⟩:=hm p (iK ..) h17;rw[MtAt.num hk1 hk2]at hD;refine qK (qQ (qV H9 (b:=x) .here rfl ?_));refine qQ (qV H9 (b:=b) e_6 rfl ?_);rw[hk1];refine jf (H9.sl e_2) (MtAt.idx hk2).1 ?_;refine qf omQ ?_;refine qK (qQ ?_);refine qk H9 (b:=x) .here ⟨rfl,rfl⟩ (by show 16<19;omega) λh10 H10=>?_;have H11:HS g h10 (IntC x v l bad mt { wS s p with opn:=o } err 0 left (z+1)::ViewC v (zu V).2::qw b (x8 p)::R):=IntC.I (s:={ wS s p with opn:=o }) (c:=c) (mv:=mv) (ov:=ov) (o:=q) H10;clear H9 H10;refine qY (Kl (s:={ wS s p with opn:=o }) (nx0:=z+1) omQ GD.1.ok (by simp at hlo;show o.length≤100;omega) H11) ?_;rintro _ h12 ⟨rfl,H12⟩;subst hD;have hb:(zF 18 z (z+1) { wS s p with opn:=o } (zu V).2).blk=false∧(zF 18 z (z+1) { wS s p with opn:=o } (zu V).2).nx=z+1:=by unfold zF;split<;>exact⟨rfl,rfl⟩
    refine qv (qW ⟨rfl,?_⟩);rw[hb.1,hb.2];exact H12.sub (.cons .here (.cons .here (.drop .refl)))
   ·rw[iQ h17]at hD;refine qq h17 (qJ ?_);exact hih o.length _ _ osQ ⟨o,(zu V).2,rfl,rfl,by simp at hlo;omega,H6.sub (.cons e_2 (.cons .here (.drop .refl))),GD.1,told.tail,λr hr=>hm r (iX _ hr),hD⟩
  ·rw[iQ h0]at hD;refine jX h0 (qX ?_);subst hD;exact qv (qW ⟨rfl,H6.sub (.cons e_2 (.cons .here (.drop .refl)))⟩)
theorem qJ5 {n:Nat} (hn:9≤n) {V:VM} {i:qb} (G:jj V) (hlo:s.opn.length≤100) (hout:s.out.length≤16) (told:ToldD s.out.length s.opn) (hm:∀p∈s.opn,p.op=17→MtAt mt p.pc) (hpc:0≤s.pc∧s.pc≤100)
  (hne:i.1=15∨i.1=19∨i.1=18∨i.1=16→s.opn≠[]) (hmt:i.1=18∨i.1=16→MtAt mt s.pc) (H:HS g h (IntC x v l bad mt s err 0 left (s.pc+1)::ViewC v V::R)) :
  t_w n 147 [.ptr x 0,.agg (js i)] h λr h'=>r=.int .i64 (g9 mt s V i.1).e∧
   HS g h' (IntC x v l bad mt (g9 mt s V i.1).s err (if(g9 mt s V i.1).blk=true then 3 else 0) left (g9 mt s V i.1).nx::ViewC v (g9 mt s V i.1).v::R):=by
 refine t_e2 (S:=S147) rfl omQ λk hk=>?_;unfold S147;try simp only[iZ]
 refine qH H rfl λb h1 H1=>?_;clear H;have H1:HS g h1 (qw b (js i)::IntC x v l bad mt s err 0 left (s.pc+1)::ViewC v V::R):=H1;refine qQ (qV H1 (b:=b) .here rfl ?_);refine qG ?_
 try dsimp only
 unfold g9;have HB:=H1.sub (L':=IntC x v l bad mt s err 0 left (s.pc+1)::ViewC v V::qw b (js i)::R) (.cons e_1 (.cons e_1 (.cons .here .refl)));by_cases c1:i.1=14∨i.1=17
 ·rw[iJ c1]
  have key:wp (ql (.ptr b 0) 0 λv8=>jJ h1 v8 λv9=>z7 (.ptr x 0) λv10=>ql v10 15 λv11=>jJ h1 v11 λv12=>
    jF (callT tab qx k) (.fn 186 [] []) [.ptr x 0,v9,v12] h1 λv13 h14=>zS [] h14 λh15=>some (v13,h15)) λr h'=>r=.int .i64 (zF i.1 s.pc (s.pc+1) s V).e∧
   HS g h' (IntC x v l bad mt (zF i.1 s.pc (s.pc+1) s V).s err (if(zF i.1 s.pc (s.pc+1) s V).blk=true then 3 else 0) left (zF i.1 s.pc (s.pc+1) s V).nx::ViewC v (zF i.1 s.pc (s.pc+1) s V).v::R):=by
   refine qQ (qV H1 (b:=b) .here rfl ?_);obtain⟨c,mv,ov,q,H2⟩:=IntC.E HB;refine qK (qQ (qV H2 (b:=x) .here rfl ?_));refine qY (Kl (nx0:=s.pc+1) omQ G.ok hlo HB) ?_;rintro _ h12 ⟨rfl,H12⟩;have hb:(zF i.1 s.pc (s.pc+1) s V).blk=false∧(zF i.1 s.pc (s.pc+1) s V).nx=s.pc+1:=by unfold zF;split<;>exact⟨rfl,rfl⟩
   refine qv (qW ⟨rfl,?_⟩);rw[hb.1,hb.2];exact H12.sub (.cons .here (.cons .here (.drop .refl)))
  by_cases c2:i.1=14
  ·refine qj c2 (qX (qX ?_));exact key
  ·refine qq c2 (qJ ?_);refine qj omQ (qX ?_);exact key
 ·rw[iQ c1];refine qq omQ (qJ ?_);refine qq omQ (qJ ?_);refine qG ?_
  try dsimp only
  by_cases c3:i.1=15∨i.1=19
  ·rw[iJ c3]
   have key:wp (jF (callT tab qx k) (.fn 187 [] []) [.ptr x 0] h1 λ_ h21=>z7 (.ptr x 0) λv22=>ql v22 1 λv23=>jJ h21 v23 λv24=>
     jF (callT tab qx k) (.fn 188 [] []) [v24] h21 λv25 h26=>zS [] h26 λh27=>some (v25,h27)) λr h'=>r=.int .i64 (yT V).1∧
    HS g h' (IntC x v l bad mt { s with opn:=s.opn.tail } err (if false=true then 3 else 0) left (s.pc+1)::ViewC v (yT V).2::R):=by
    obtain⟨p,o,ho⟩:∃p o,s.opn=p::o:=List.exists_cons_of_ne_nil (hne omQ);refine qY (QD (p:=p) (o:=o) omQ ho (by rw[ho]at hlo;simp at hlo;omega) HB) ?_;rintro _ h3 ⟨-,H3⟩;obtain⟨c,mv,ov,q,H4⟩:=IntC.E H3;refine qK (qQ (qV H4 (b:=x) .here rfl ?_));refine qY (Mh omQ (H3.sel (P:=ViewC v V) e_1) G.ok) ?_;rintro _ h5 ⟨rfl,H5⟩;refine qv (qW ⟨rfl,?_⟩);rw[ho];exact H5.sub (.cons e_1 (.cons .here (.drop .refl)))
   by_cases c4:i.1=15
   ·refine qj c4 (qX (qX ?_));exact key
   ·refine qq c4 (qJ ?_);refine qj omQ (qX ?_);exact key
  ·rw[iQ c3];refine qq omQ (qJ ?_);refine qq omQ (qJ ?_);by_cases c5:i.1=18
   ·rw[iJ c5];refine qj c5 (qX ?_);obtain⟨p,o,ho⟩:∃p o,s.opn=p::o:=List.exists_cons_of_ne_nil (hne omQ);refine qY (QD (p:=p) (o:=o) omQ ho (by rw[ho]at hlo;simp at hlo;omega) HB) ?_;rintro _ h3 ⟨-,H3⟩;obtain⟨c,mv,ov,q,H4⟩:=IntC.E H3
    have H4:HS g h3 (qw x (vE c mv ov v q bad err 0 left (s.pc+1) s.pc s.regs)::qL 32 5 l.length c (l.flatMap js)::qL 3 1 mt.length mv (mt.map (.int .i64))::SlaC q s.out::
     qL 255 11 o.length ov (o.reverse.flatMap x8)::ViewC v V::qw b (js i)::R):=H4
    obtain⟨kk,hk1,z,hk2,hk3,hk4⟩:=hmt (.inl c5);rw[MtAt.num hk1 hk2,ho];refine qK (qQ (qV H4 (b:=x) .here rfl ?_));refine qK (qQ (qV H4 (b:=x) .here rfl ?_));rw[hk1];refine jf (H4.sl e_2) (MtAt.idx hk2).1 ?_;refine qf omQ ?_;refine qK (qQ ?_);rw[← hk1];refine qk H4 (b:=x) .here ⟨rfl,rfl⟩ (by show 16<19;omega) λh10 H10=>?_;refine qK (qQ (qV H10 (b:=x) .here rfl ?_));have H11:HS g h10 (IntC x v l bad mt { s with opn:=o } err 0 left (z+1)::ViewC v V::qw b (js i)::R):=IntC.I (s:={ s with opn:=o }) (c:=c) (mv:=mv) (ov:=ov) (o:=q) H10;refine qY (Mh omQ (H11.sel (P:=ViewC v V) e_1) G.ok) ?_;rintro _ h5 ⟨rfl,H5⟩;exact qv (qW ⟨rfl,H5.sub (.cons e_1 (.cons .here (.drop .refl)))⟩)
   ·rw[iQ c5];refine qq c5 (qJ ?_);by_cases c6:i.1=16
    ·rw[iJ c6];refine qj c6 (qX ?_);obtain⟨p,o,ho⟩:∃p o,s.opn=p::o:=List.exists_cons_of_ne_nil (hne omQ);refine qY (QD (p:=p) (o:=o) omQ ho (by rw[ho]at hlo;simp at hlo;omega) HB) ?_;rintro _ h3 ⟨rfl,H3⟩;rw[ho]at told;refine qY (Vp (s:={ s with opn:=o }) (p:=p) omQ told.1 hout H3) ?_;intro _ h4 H4';obtain⟨c,mv,ov,q,H4⟩:=IntC.E H4'
     have H4:HS g h4 (qw x (vE c mv ov v q bad err 0 left (s.pc+1) s.pc p.regs)::qL 32 5 l.length c (l.flatMap js)::qL 3 1 mt.length mv (mt.map (.int .i64))::SlaC q (s.out.take p.told)::
      qL 255 11 o.length ov (o.reverse.flatMap x8)::ViewC v V::qw b (js i)::R):=H4
     obtain⟨kk,hk1,z,hk2,hk3,hk4⟩:=hmt (.inr c6);rw[MtAt.num hk1 hk2,ho];refine qK (qQ (qV H4 (b:=x) .here rfl ?_));refine qK (qQ (qV H4 (b:=x) .here rfl ?_));rw[hk1];refine jf (H4.sl e_2) (MtAt.idx hk2).1 ?_;refine qf omQ ?_;refine qK (qQ ?_);refine qk H4 (b:=x) .here ⟨rfl,rfl⟩ (by show 16<19;omega) λh10 H10=>?_;refine qK (qQ (qV H10 (b:=x) .here rfl ?_));have H11:HS g h10 (IntC x v l bad mt { wS s p with opn:=o } err 0 left (z+1)::ViewC v V::qw b (js i)::R):=IntC.I (s:={ wS s p with opn:=o }) (c:=c) (mv:=mv) (ov:=ov) (o:=q) H10;refine qY (VG omQ (H11.sel (P:=ViewC v V) e_1) G.ok) ?_;rintro _ h5 ⟨rfl,H5⟩;exact qv (qW ⟨rfl,H5.sub (.cons e_1 (.cons .here (.drop .refl)))⟩)
    ·rw[iQ c6];refine qq c6 (qJ ?_);refine qY (qQa omQ G hlo hout told hm hpc HB) ?_;rintro _ h3 ⟨rfl,H3⟩;exact qv (qW ⟨rfl,H3.sub (.cons .here (.cons .here (.drop .refl)))⟩)
end
end
section
variable {g h:AH} {L R:List SP}
section
variable {x v:Nat} {l:List qb} {bad:Int} {mt:List Int} {s:IM} {err fin left nx:Int}
theorem Ns {c mv ov:AV} {q a:Nat} {z:Int} {ai:Int} (hr:s.regs.length=8) (ha:a<8) (hai:ai=a)
  (H:HS g h (qw x ((vE c mv ov v q bad err fin left nx s.pc s.regs).set (6+a*1) (.int .u64 z))::qL 32 5 l.length c (l.flatMap js)::qL 3 1 mt.length mv (mt.map (.int .i64))::SlaC q s.out::
  qL 255 11 s.opn.length ov (s.opn.reverse.flatMap x8)::R)):HS g h (IntC x v l bad mt (setR s ai z) err fin left nx::R):=by
 rw[qW6 hr ha]at H;have e:s.regs.set a z=(setR s ai z).regs:=by unfold setR;rw[hai,Int.toNat_natCast]
 rw[e]at H;exact IntC.I (s:=setR s ai z) H
theorem Z1 {n:Nat} (hn:12≤n) {V:VM} {i:qb} {a:Nat} (G:jj V) (ro:kF s.regs) (hop:i.1=8∨i.1=9∨i.1=10∨i.1=11) (ha:a<8) (hai:i.2.1=a) (hc:0≤i.2.2.2.1∧i.2.2.2.1≤100)
  (H:HS g h (IntC x v l bad mt s err fin left nx::ViewC v V::R)) :
  t_w n 146 [.ptr x 0,.agg (js i),.ptr x (6+a*1),.int .u64 (qD s.regs i.2.2.1)] h λr h'=>r=.int .i64 (jP s V i).1∧
   HS g h' (IntC x v l bad mt (jP s V i).2.1 err fin left nx::ViewC v (jP s V i).2.2::R):=by
 refine t_e4 (S:=S146) rfl omQ λk hk=>?_;unfold S146;try simp only[iZ]
 refine qH H rfl λb h1 H1=>?_;clear H;have H1:HS g h1 (qw b (js i)::IntC x v l bad mt s err fin left nx::ViewC v V::R):=H1;have HB:=H1.sub (L':=IntC x v l bad mt s err fin left nx::ViewC v V::qw b (js i)::R) (.cons e_1 (.cons e_1 (.cons .here .refl)));obtain⟨c,mv,ov,q,H2⟩:=IntC.E HB;refine qQ (qV H1 (b:=b) .here rfl ?_);have hra:=ro.at (a:Int);have hrb:=ro.at i.2.2.1;unfold jP;rw[hai];by_cases c8:i.1=8
 ·rw[iJ c8];refine qj c8 (qX ?_);refine qQ (qV H1 (b:=b) .here rfl ?_);refine qY (KS omQ hrb hc) ?_;rintro _ _ ⟨rfl,rfl⟩;refine qB rfl (qB rfl ?_);by_cases h0:(xc (qD s.regs i.2.2.1) i.2.2.2.1).2=0
  ·rw[iJ h0];refine jK h0 (qJ ?_);refine qK (qQ (qV H2 (b:=x) .here rfl ?_));refine qY (kX omQ (HB.sel (P:=ViewC v V) e_1) G.ok) ?_;rintro _ h3 ⟨rfl,H3⟩;refine qB rfl (qB rfl ?_);refine qG ?_
   try dsimp only
   by_cases h4:(qR V (xc (qD s.regs i.2.2.1) i.2.2.2.1).1).1.2=0
   ·rw[iJ h4];refine qj h4 (qX ?_);obtain⟨c,mv,ov,q,H5⟩:=IntC.E (H3.sel (P:=IntC x v l bad mt s err fin left nx) e_1);refine qK (qk H5 (b:=x) .here ⟨rfl,rfl⟩ (by show 6+a*1<19;omega) λh6 H6=>?_);refine qv (qW ⟨by rw[h4],?_⟩);exact(Ns ro.len ha rfl H6).sub (.cons .here (.cons .here (.drop .refl)))
   ·rw[iQ h4];refine qq h4 (qJ ?_);exact qv (qW ⟨rfl,H3.sub (.cons e_1 (.cons .here (.drop .refl)))⟩)
  ·rw[iQ h0];refine jX h0 (qX ?_);refine qW ⟨?_,HB.sub (.cons .here (.cons .here (.drop .refl)))⟩;unfold xc at h0 ⊢
   split
   ·rfl
   ·rename_i hh;rw[iQ hh]at h0;exact absurd rfl h0
 ·rw[iQ c8];refine qq c8 (qJ ?_);by_cases c9:i.1=9
  ·rw[iJ c9];refine qj c9 (qX ?_);refine qK (qV H2 (b:=x) .here (JH ha) ?_);refine qQ (qV H1 (b:=b) .here rfl ?_);refine qY (KS omQ hra hc) ?_;rintro _ _ ⟨rfl,rfl⟩;refine qB rfl (qB rfl ?_);by_cases h0:(xc (qD s.regs (a:Int)) i.2.2.2.1).2=0
   ·rw[iJ h0];refine jK h0 (qJ ?_);refine qK (qQ (qV H2 (b:=x) .here rfl ?_));refine qY (Z6 omQ (HB.sel (P:=ViewC v V) e_1) G.ok) ?_;rintro _ h3 ⟨rfl,H3⟩;exact qW ⟨rfl,H3.sub (.cons e_1 (.cons .here (.drop .refl)))⟩
   ·rw[iQ h0];refine jX h0 (qX ?_);refine qW ⟨?_,HB.sub (.cons .here (.cons .here (.drop .refl)))⟩;unfold xc at h0 ⊢
    split
    ·rfl
    ·rename_i hh;rw[iQ hh]at h0;exact absurd rfl h0
  ·rw[iQ c9];refine qq c9 (qJ ?_);by_cases c10:i.1=10
   ·rw[iJ c10];refine qj c10 (qX ?_);by_cases h0:2147483648≤qD s.regs i.2.2.1
    ·rw[iJ h0];refine jh omQ (qX ?_);exact qW ⟨rfl,HB.sub (.cons .here (.cons .here (.drop .refl)))⟩
    ·rw[iQ h0];refine ju omQ (qJ ?_);refine qK (qQ (qV H2 (b:=x) .here rfl ?_));refine xG omQ ?_;refine qY (ZX omQ (HB.sel (P:=ViewC v V) e_1) G.ok G.wd) ?_;rintro _ h3 ⟨rfl,H3⟩;refine qB rfl (qB rfl ?_);refine qG ?_
     try dsimp only
     by_cases h4:(zD V (qD s.regs i.2.2.1)).1.2=0
     ·rw[iJ h4];have hb:=Oa (x:=qD s.regs i.2.2.1) G.wd h4;refine qj h4 (qX ?_);obtain⟨c,mv,ov,q,H5⟩:=IntC.E (H3.sel (P:=IntC x v l bad mt s err fin left nx) e_1);refine gr omQ (qK ?_);refine qk H5 (b:=x) .here ⟨rfl,rfl⟩ (by show 6+a*1<19;omega) λh6 H6=>?_;refine qv (qW ⟨by rw[h4],?_⟩);exact(Ns ro.len ha rfl H6).sub (.cons .here (.cons .here (.drop .refl)))
     ·rw[iQ h4];refine qq h4 (qJ ?_);exact qv (qW ⟨rfl,H3.sub (.cons e_1 (.cons .here (.drop .refl)))⟩)
   ·rw[iQ c10];refine qq c10 (qJ ?_);refine qK (qV H2 (b:=x) .here (JH ha) ?_);by_cases h0:2147483648≤qD s.regs (a:Int)
    ·rw[iJ h0];refine jh omQ (qX ?_);exact qW ⟨rfl,HB.sub (.cons .here (.cons .here (.drop .refl)))⟩
    ·rw[iQ h0];refine ju omQ (qJ ?_);refine qK (qQ (qV H2 (b:=x) .here rfl ?_));refine qK (qV H2 (b:=x) .here (JH ha) ?_);refine xG omQ ?_;refine qY (qJS omQ (HB.sel (P:=ViewC v V) e_1) G.ok) ?_;rintro _ h3 ⟨rfl,H3⟩;exact qW ⟨rfl,H3.sub (.cons e_1 (.cons .here (.drop .refl)))⟩
structure DoP (l:List qb) (mt:List Int) (s:IM) (V:VM) (i:qb):Prop where
  good:jj V
  regs:kF s.regs
  out:s.out.length≤16
  lo:s.opn.length≤100
  told:ToldD s.out.length s.opn
  ways:∀p∈s.opn,p.op=17→MtAt mt p.pc
  pc:0≤s.pc∧s.pc≤100
  op:1≤i.1∧i.1<23
  a:0≤i.2.1∧i.2.1≤7
  b:0≤i.2.2.1∧i.2.2.1≤7
  c:0≤i.2.2.2.1∧i.2.2.2.1≤100
  c7:3≤i.1∧i.1≤7→i.2.2.2.1≤7
  ne:i.1=15∨i.1=19∨i.1=18∨i.1=16→s.opn≠[]
  mt:i.1=18∨i.1=16→MtAt mt s.pc
theorem qq6 {n:Nat} (hn:13≤n) {V:VM} {i:qb} (P:DoP l mt s V i) (H:HS g h (IntC x v l bad mt s err 0 left (s.pc+1)::ViewC v V::R)) :
  t_w n 118 [.ptr x 0,.agg (js i)] h λr h'=>r=.int .i64 (doM mt s V i).e∧
   HS g h' (IntC x v l bad mt (doM mt s V i).s err (if(doM mt s V i).blk=true then 3 else 0) left (doM mt s V i).nx::ViewC v (doM mt s V i).v::R):=by
 refine t_e2 (S:=S118) rfl omQ λk hk=>?_;unfold S118;try simp only[iZ]
 refine qH H rfl λb h1 H1=>?_;clear H;have H1:HS g h1 (qw b (js i)::IntC x v l bad mt s err 0 left (s.pc+1)::ViewC v V::R):=H1;have HB:=H1.sub (L':=IntC x v l bad mt s err 0 left (s.pc+1)::ViewC v V::qw b (js i)::R) (.cons e_1 (.cons e_1 (.cons .here .refl)));obtain⟨c,mv,ov,q,H2⟩:=IntC.E HB;obtain⟨a,ha1,ha2,ha3⟩:=qXP P.a.1;obtain⟨bb,hb1,hb2,hb3⟩:=qXP P.b.1;obtain⟨cc,hc1,hc2,hc3⟩:=qXP P.c.1;have ha3:=ha3 (by have:=P.a.2;omega);have hb3:=hb3 (by have:=P.b.2;omega);have ro:=P.regs;have hop:=P.op;have hc7:=P.c7;refine qQ (qV H1 (b:=b) .here rfl (Jz od ?_));rw[ha1];refine qK (qQ (Xk ha2 ?_));refine qQ (qV H1 (b:=b) .here rfl (Jz od ?_));rw[hb1];refine qK (qQ (Xk hb2 ?_));refine qV H2 (b:=x) .here (JH hb2) ?_;refine qQ (qV H1 (b:=b) .here rfl (Jz od ?_));rw[hc1];refine qK (qQ (Xk hc2 ?_));refine qV H2 (b:=x) .here (JH hc2) ?_;refine qQ (qV H1 (b:=b) .here rfl ?_);refine qG ?_
 try dsimp only
 have fin:∀(z:Int) (D:SM) (h0:AH),D=⟨0,s.pc+1,false,setR s i.2.1 z,V⟩→HS g h0 (IntC x v l bad mt s err 0 left (s.pc+1)::ViewC v V::qw b (js i)::R)→
   wp (z7 (.ptr x (6+a*1)) λv32=>jv h0 v32 (.int .u64 z) 1 λh33=>zS [] h33 λh28=>some (.int .i64 ((0:Nat):Int),h28)) λr h'=>r=.int .i64 D.e∧
    HS g h' (IntC x v l bad mt D.s err (if D.blk=true then 3 else 0) left D.nx::ViewC v D.v::R):=by
  rintro z D h0 rfl H0;obtain⟨c,mv,ov,q,H5⟩:=IntC.E H0;refine qK (qk H5 (b:=x) .here ⟨rfl,rfl⟩ (by show 6+a*1<19;omega) λh6 H6=>?_);refine qv (qW ⟨rfl,?_⟩);exact(Ns ro.len ha2 ha3 H6).sub (.cons .here (.cons .here (.drop .refl)))
 by_cases c1:i.1=1
 ·refine qj c1 (qX ?_);refine qQ (qV H1 (b:=b) .here rfl ?_);exact fin _ _ _ (by unfold doM;rw[iJ c1]) HB
 refine qq c1 (qJ ?_);by_cases c2:i.1=2
 ·refine qj c2 (qX ?_);exact fin _ _ _ (by unfold doM;rw[iQ c1,iJ c2,hb3]) HB
 refine qq c2 (qJ ?_);by_cases c3:i.1=3
 ·refine qj c3 (qX (Jd ?_));have hc3:=hc3 (by have:=hc7 omQ;omega);exact fin _ _ _ (by unfold doM;rw[iQ c1,iQ c2,iJ c3,hb3,hc3]) HB
 refine qq c3 (qJ ?_);by_cases c4:i.1=4
 ·refine qj c4 (qX (NB ?_));have hc3:=hc3 (by have:=hc7 omQ;omega);exact fin _ _ _ (by unfold doM;rw[iQ c1,iQ c2,iQ c3,iJ c4,hb3,hc3]) HB
 refine qq c4 (qJ ?_);by_cases c5:i.1=5
 ·refine qj c5 (qX (qqR ?_));have hc3:=hc3 (by have:=hc7 omQ;omega);exact fin _ _ _ (by unfold doM;rw[iQ c1,iQ c2,iQ c3,iQ c4,iJ c5,hb3,hc3]) HB
 refine qq c5 (qJ ?_);by_cases c6:i.1=6
 ·refine qj c6 (qX (JY ?_));have hc3:=hc3 (by have:=hc7 omQ;omega);refine qY (K5 omQ) ?_;rintro _ _ ⟨rfl,rfl⟩;exact fin _ _ _ (by unfold doM;rw[iQ c1,iQ c2,iQ c3,iQ c4,iQ c5,iJ c6,hb3,hc3]) HB
 refine qq c6 (qJ ?_);by_cases c7:i.1=7
 ·refine qj c7 (qX (Qq ?_));have hc3:=hc3 (by have:=hc7 omQ;omega);refine qY (K5 omQ) ?_;rintro _ _ ⟨rfl,rfl⟩;exact fin _ _ _ (by unfold doM;rw[iQ c1,iQ c2,iQ c3,iQ c4,iQ c5,iQ c6,iJ c7,hb3,hc3]) HB
 refine qq c7 (qJ ?_);by_cases c12:i.1=12
 ·refine qj c12 (qX ?_);have e:doM mt s V i=⟨0,i.2.2.2.1,false,s,V⟩:=by unfold doM;rw[iQ c1,iQ c2,iQ c3,iQ c4,iQ c5,iQ c6,iQ c7,iJ c12]
  rw[e];refine qQ (qV H1 (b:=b) .here rfl ?_);refine qK (qQ ?_);refine qk H2 (b:=x) .here ⟨rfl,rfl⟩ (by show 16<19;omega) λh6 H6=>?_;exact qv (qW ⟨rfl,(IntC.I (c:=c) (mv:=mv) (ov:=ov) (o:=q) H6).sub (.cons .here (.cons .here (.drop .refl)))⟩)
 refine qq c12 (qJ ?_);by_cases c13:i.1=13
 ·refine qj c13 (qX ?_);have e:doM mt s V i=⟨0,if qD s.regs i.2.1=0 then i.2.2.2.1 else s.pc+1,false,s,V⟩:=by unfold doM;rw[iQ c1,iQ c2,iQ c3,iQ c4,iQ c5,iQ c6,iQ c7,iQ c12,iJ c13]
  rw[e,ha3];refine qK (qV H2 (b:=x) .here (JH ha2) ?_);by_cases hz:qD s.regs (a:Int)=0
  ·rw[iJ hz];refine qj hz (qX ?_);refine qQ (qV H1 (b:=b) .here rfl ?_);refine qK (qQ ?_);refine qk H2 (b:=x) .here ⟨rfl,rfl⟩ (by show 16<19;omega) λh6 H6=>?_;exact qv (qW ⟨rfl,(IntC.I (c:=c) (mv:=mv) (ov:=ov) (o:=q) H6).sub (.cons .here (.cons .here (.drop .refl)))⟩)
  ·rw[iQ hz];refine qq hz (qJ ?_);exact qv (qW ⟨rfl,HB.sub (.cons .here (.cons .here (.drop .refl)))⟩)
 refine qq c13 (qJ ?_);by_cases c21:i.1=21
 ·refine qj c21 (qX ?_);refine qK (qQ (qV H2 (b:=x) .here rfl ?_));refine qK (qV H2 (b:=x) .here (JH ha2) ?_);refine qY (qVb omQ (H2.sel (P:=SlaC q s.out) e_3) P.out) ?_;rintro _ h3 ⟨rfl,H3⟩;by_cases h16:16≤s.out.length
  ·have e:doM mt s V i=⟨5,s.pc+1,false,s,V⟩:=by unfold doM;rw[iQ c1,iQ c2,iQ c3,iQ c4,iQ c5,iQ c6,iQ c7,iQ c12,iQ c13,iJ c21,iJ h16]
   rw[e];rw[iQ omQ]at H3;rw[iV omQ];refine jq (qX ?_);exact qW ⟨rfl,(IntC.I (c:=c) (mv:=mv) (ov:=ov) (o:=q) (R:=ViewC v V::qw b (js i)::R) (H3.sub (.cons e_1 (.cons e_1 (.cons e_1 (.cons .here (.cons .here .refl))))))).sub (.cons .here (.cons .here (.drop .refl)))⟩
  ·have e:doM mt s V i=⟨0,s.pc+1,false,{ s with out:=s.out++[(1,qD s.regs i.2.1)] },V⟩:=by unfold doM;rw[iQ c1,iQ c2,iQ c3,iQ c4,iQ c5,iQ c6,iQ c7,iQ c12,iQ c13,iJ c21,iQ h16]
   rw[e,ha3];rw[iJ omQ]at H3;rw[iG omQ];refine jV (qJ ?_);exact qv (qW ⟨rfl,(IntC.I (s:={ s with out:=s.out++[(1,qD s.regs (a:Int))] }) (c:=c) (mv:=mv) (ov:=ov) (o:=q) (R:=ViewC v V::qw b (js i)::R) (H3.sub (.cons e_1 (.cons e_1 (.cons e_1 (.cons .here (.cons .here .refl))))))).sub (.cons .here (.cons .here (.drop .refl)))⟩)
 refine qq c21 (qJ ?_);by_cases c22:i.1=22
 ·refine qj c22 (qX ?_);have e:doM mt s V i=⟨13,s.pc+1,false,s,V⟩:=by unfold doM;rw[iQ c1,iQ c2,iQ c3,iQ c4,iQ c5,iQ c6,iQ c7,iQ c12,iQ c13,iQ c21,iJ c22]
  rw[e];exact qW ⟨rfl,HB.sub (.cons .here (.cons .here (.drop .refl)))⟩
 refine qq c22 (qJ ?_);refine qq omQ (qJ ?_);refine qG ?_
 try dsimp only
 by_cases ct:i.1=8∨i.1=9∨i.1=10∨i.1=11
 ·have e:doM mt s V i=⟨(jP s V i).1,s.pc+1,false,(jP s V i).2.1,(jP s V i).2.2⟩:=by unfold doM;rw[iQ c1,iQ c2,iQ c3,iQ c4,iQ c5,iQ c6,iQ c7,iQ c12,iQ c13,iQ c21,iQ c22,iJ ct]
  rw[e];have key:wp (jt h1 (.ptr b 0) 5 λv94=>jF (callT tab qx k) (.fn 146 [] []) [.ptr x 0,v94,.ptr x (6+a*1),.int .u64 (qD s.regs (bb:Int))] h1 λv95 h96=>zS [] h96 λh97=>some (v95,h97)) λr h'=>
    r=.int .i64 (jP s V i).1∧HS g h' (IntC x v l bad mt (jP s V i).2.1 err (if false=true then 3 else 0) left (s.pc+1)::ViewC v (jP s V i).2.2::R):=by
   refine qA H1 (b:=b) (off:=0) .here rfl omQ (l:=js i) rfl ?_;rw[← hb3];refine qY (Z1 omQ P.good ro ct ha2 ha3 P.c HB) ?_;rintro _ h3 ⟨rfl,H3⟩;exact qv (qW ⟨rfl,H3.sub (.cons .here (.cons .here (.drop .refl)))⟩)
  by_cases t8:i.1=8
  ·refine qj t8 (qX (qX ?_));exact key
  refine qq t8 (qJ ?_);by_cases t9:i.1=9
  ·refine qj t9 (qX (qX ?_));exact key
  refine qq t9 (qJ ?_);by_cases t10:i.1=10
  ·refine qj t10 (qX (qX ?_));exact key
  refine qq t10 (qJ ?_);refine qj omQ (qX ?_);exact key
 ·have e:doM mt s V i=g9 mt s V i.1:=by unfold doM;rw[iQ c1,iQ c2,iQ c3,iQ c4,iQ c5,iQ c6,iQ c7,iQ c12,iQ c13,iQ c21,iQ c22,iQ ct]
  rw[e];refine qq omQ (qJ ?_);refine qq omQ (qJ ?_);refine qq omQ (qJ ?_);refine qq omQ (qJ ?_);refine qA H1 (b:=b) (off:=0) .here rfl omQ (l:=js i) rfl ?_;refine qY (qJ5 omQ P.good P.lo P.out P.told P.ways P.pc P.ne P.mt HB) ?_;rintro _ h3 ⟨rfl,H3⟩;exact qv (qW ⟨rfl,H3.sub (.cons .here (.cons .here (.drop .refl)))⟩)
end
end
section
variable {g h:AH} {L R:List SP}
theorem ye {a:List Int} {k:Nat} (h:k<a.length):a[k]? =some (qD a (k:Int)):=by unfold qD;rw[Int.toNat_natCast,iW h];rfl
theorem may_b {x:qb} (h:kb x=true) (hx:x.1≠23):(1≤x.1∧x.1<23)∧(0≤x.2.1∧x.2.1≤7)∧(0≤x.2.2.1∧x.2.2.1≤7)∧(0≤x.2.2.2.1∧x.2.2.2.1≤40)∧(3≤x.1∧x.1≤7→x.2.2.2.1≤7):=by
 unfold kb wU at h;simp only[Bool.and_eq_true,decide_eq_true_eq]at h;obtain⟨⟨⟨⟨h1,h2⟩,h3⟩,h4⟩,_⟩:=h;unfold jH at h2 h3 h4;by_cases c1:x.1=1∨x.1=11∨x.1=21
 ·rw[iJ c1]at h2 h3 h4;dsimp only at h2 h3 h4;omega
 rw[iQ c1]at h2 h3 h4;by_cases c2:x.1=2∨x.1=10
 ·rw[iJ c2]at h2 h3 h4;dsimp only at h2 h3 h4;omega
 rw[iQ c2]at h2 h3 h4;by_cases c3:x.1=3∨x.1=4∨x.1=5∨x.1=6∨x.1=7
 ·rw[iJ c3]at h2 h3 h4;dsimp only at h2 h3 h4;omega
 rw[iQ c3]at h2 h3 h4;by_cases c4:x.1=8∨x.1=9
 ·rw[iJ c4]at h2 h3 h4;dsimp only at h2 h3 h4;omega
 rw[iQ c4]at h2 h3 h4;by_cases c5:x.1=12
 ·rw[iJ c5]at h2 h3 h4;dsimp only at h2 h3 h4;omega
 rw[iQ c5]at h2 h3 h4;by_cases c6:x.1=13
 ·rw[iJ c6]at h2 h3 h4;dsimp only at h2 h3 h4;omega
 rw[iQ c6,iQ hx]at h2 h3 h4;dsimp only at h2 h3 h4;omega
theorem Vj {l:List qb} (F:Fit l) {k:Nat} (hk:k<l.length) (ho:(qP l k).1=14∨(qP l k).1=17∨(qP l k).1=18∨(qP l k).1=16):MtAt (qm l) (k:Int):=by
 have hl:=F.le;refine⟨k,rfl,_,ye (by rw[Z4];exact hk),?_⟩;by_cases h:(qP l k).1=16
 ·obtain⟨e,e1,e2,_⟩:=GV F hk h;rw[e1];omega
 ·obtain⟨e,e1,_,e2,_⟩:=QZ F hk omQ;rw[e1];omega
theorem qqn {l:List qb} {s:IM} {V:VM} (F:Fit l) (G:GI l s V) {i:Nat} (hi:s.pc=i) (hlt:i<l.length) (hx:(qP l i).1≠23):DoP l (qm l) s V (qP l i):=by
 have hw:=vP (F.ok i hlt);have hwo:=xj (F.ok i hlt);have hb:=may_b hw.1 hx;have hol:=YA G;have h5:=Yt F i omQ;have hl:=F.le;rw[hi,Int.toNat_natCast]at hol;refine⟨G.good,G.gb.regs,G.gb.out,by omega,G.told,?_,by omega,hb.1,hb.2.1,hb.2.2.1,by omega,hb.2.2.2.2,?_,?_⟩
 ·intro p hp hop;obtain⟨q,hq,hql⟩:=(G.pts p hp).pc;have:=(G.pts p hp).op.2;rw[hop,hq]at this;rw[hq];exact Vj F hql omQ
 ·intro ho h0;rw[h0]at hol;have he:0<ja (qP l i).1∨(qP l i).1=16:=by
   rcases ho with h |h |h |h
   ·exact .inl (by rw[h];decide)
   ·exact .inl (by rw[h];decide)
   ·exact .inl (by rw[h];decide)
   ·exact .inr h
  exact hwo.2.1 he (iA hol.symm)
 ·intro ho;rw[hi];exact Vj F hlt omQ
def Quiet (l:List qb):Prop:=∀x∈l,x.1≠23∧0≤x.2.2.2.2∧x.2.2.2.2<18446744073709551616
theorem Quiet.at {l:List qb} (Q:Quiet l) {i:Nat} (h:i<l.length):(qP l i).1≠23∧0≤(qP l i).2.2.2.2∧(qP l i).2.2.2.2<18446744073709551616:=by rw[vG h];exact Q _ (List.getElem_mem h)
structure RunB (V:VM) (r:RM):Prop where
  gb:GB r.s
  good:jj r.v
  sz:r.v.sz=V.sz
  K:r.v.K=V.K
  most:r.v.most=V.most
theorem qY8 {l:List qb} (F:Fit l) (Q:Quiet l):∀(n:Nat) {s:IM} {V:VM},GI l s V→frS V.lv+n<9000→RunB V (zt l (qm l) n s V)∧frS (zt l (qm l) n s V).v.lv≤frS V.lv+n∧
  ((zt l (qm l) n s V).kind=2→(zt l (qm l) n s V).v.lv.length=1)∧
  ((zt l (qm l) n s V).kind=1→GI l (zt l (qm l) n s V).s (zt l (qm l) n s V).v∧1≤(zt l (qm l) n s V).v.need∧(zt l (qm l) n s V).v.need<V.sz∧zC (zt l (qm l) n s V).v.need V.K=none)∧
  ((zt l (qm l) n s V).kind=1∨(zt l (qm l) n s V).kind=2∨(zt l (qm l) n s V).kind=3∨(zt l (qm l) n s V).kind=4):=by
 intro n
 induction n with
 |zero=>
  intro s V G hf;rw[kh]
  split
  ·rename_i h0;refine⟨⟨G.gb,G.good,rfl,rfl,rfl⟩,by simp,λ_=>?_,λh=>(by cases h),by simp⟩;have:=YA G;rw[h0,Int.toNat_natCast,F.nil]at this;have hl:=G.lv;show V.lv.length=1;rw[hl,this];rfl
  ·exact⟨⟨G.gb,G.good,rfl,rfl,rfl⟩,by simp,λh=>(by cases h),λh=>(by cases h),by simp⟩
 |succ n ih=>
  intro s V G hf;rw[QC]
  split
  ·rename_i h0;refine⟨⟨G.gb,G.good,rfl,rfl,rfl⟩,by simp,λ_=>?_,λh=>(by cases h),by simp⟩;have:=YA G;rw[h0,Int.toNat_natCast,F.nil]at this;have hl:=G.lv;show V.lv.length=1;rw[hl,this];rfl
  ·rename_i h0;obtain⟨i,hi,hil⟩:=G.pc;have hlt:i<l.length:=by omega
   rw[hi];have S:=U3 F G hi hlt omQ (Q.at hlt).2 (Q.at hlt).1;generalize doM (qm l) s V (qP l i)=D at*
   split
   ·rename_i h1
    split
    ·exact⟨⟨⟨S.gb.regs,S.gb.out,S.gb.its⟩,S.good,S.sz,S.K,S.most⟩,by have:=S.fr;dsimp only;omega,λh=>(by cases h),λh=>(by cases h),by simp⟩
    ·rename_i h2;have G2:=S.next h1 (by simpa using h2);have hfr:=S.fr;obtain⟨a,b,c,d,e⟩:=ih G2 omQ;refine⟨⟨a.gb,a.good,a.sz.trans S.sz,a.K.trans S.K,a.most.trans S.most⟩,by omega,c,λh=>?_,e⟩;have:=d h;rw[S.sz,S.K]at this;exact this
   ·split
    ·rename_i h11;obtain⟨n1,n2,n3,n4,n5⟩:=S.need h11;refine⟨⟨S.gb,S.good,S.sz,S.K,S.most⟩,by have:=S.fr;dsimp only;omega,λh=>(by cases h),λ_=>⟨?_,n3,n4,n5⟩,by simp⟩;show GI l D.s D.v;rw[n1];exact⟨G.gb,G.pc,G.pts,G.told,G.stk,by rw[n2];exact G.lv,S.good⟩
    ·exact⟨⟨S.gb,S.good,S.sz,S.K,S.most⟩,by have:=S.fr;dsimp only;omega,λh=>(by cases h),λh=>(by cases h),by simp⟩
section
variable {x v:Nat} {l:List qb} {bad:Int} {mt:List Int} {s:IM} {err fin left nx:Int}
theorem qWo {n:Nat} (hn:14≤n) (F:Fit l) (Q:Quiet l) {left:Nat} {V:VM} (G:GI l s V) (hf:frS V.lv+left<9000) (hl:left≤1000) (H:HS g h (IntC x v l 0 (qm l) s 0 0 left nx::ViewC v V::R)) :
  t_w n 88 [.ptr x 0] h λr h'=>r=.int .i64 (zt l (qm l) left s V).kind∧
   ∃nx',HS g h' (IntC x v l 0 (qm l) (zt l (qm l) left s V).s (zt l (qm l) left s V).err (if(zt l (qm l) left s V).kind=1 then 0 else(zt l (qm l) left s V).kind) ((zt l (qm l) left s V).left:Int) nx'::ViewC v (zt l (qm l) left s V).v::R):=by
 refine t_e1 (S:=S88) rfl omQ λk hk=>?_;unfold S88;try simp only[iZ]
 generalize hRM:zt l (qm l) left s V=RM
 refine zG (λm st h'=>st=(.ptr x 0,())∧((∃(s':IM) (V':VM) (left':Nat) (nx':Int),m=left'+1∧left'≤1000∧GI l s' V'∧frS V'.lv+left'<9000∧zt l (qm l) left' s' V'=RM∧HS g h' (IntC x v l 0 (qm l) s' 0 0 left' nx'::ViewC v V'::R))∨
   (m=0∧RM.kind≠0∧RM.kind≠1∧∃nx',HS g h' (IntC x v l 0 (qm l) RM.s RM.err RM.kind RM.left nx'::ViewC v RM.v::R))))
  ?_ (m:=left+1) (by show _<1000000000;omega) ⟨rfl,.inl ⟨s,V,left,nx,rfl,hl,G,hf,hRM,H⟩⟩
 clear H G hf hRM hl;rintro m ih st h2 hih ⟨rfl,⟨s,V,left,nx,rfl,hl,G,hf,hRM,H⟩ |⟨rfl,hk0,hk1,nx,H⟩⟩
 rotate_left
 ·dsimp only;obtain⟨c,mv,ov,q,H1⟩:=IntC.E H;refine qK (qQ (qV H1 (b:=x) .here rfl ?_));refine qq hk0 (qJ ?_);refine qK (qQ (qV H1 (b:=x) .here rfl ?_));refine qv (qW ⟨rfl,nx,?_⟩);rw[iQ hk1];exact H
 dsimp only;obtain⟨i,hi,hil⟩:=G.pc;have hlen:=F.le;obtain⟨c,mv,ov,q,H1⟩:=IntC.E H;refine qK (qQ (qV H1 (b:=x) .here rfl ?_));refine qj rfl (qX ?_);refine qG ?_
 try dsimp only
 refine qK (qQ (qV H1 (b:=x) .here rfl ?_));refine jK rfl (qJ ?_);refine qK (qQ (qV H1 (b:=x) .here rfl ?_));refine qK (qQ (qQ (qV H1 (b:=x) .here rfl ?_)));refine qs H1 e_1 ?_;by_cases h0:s.pc=l.length
 ·refine qj h0 (qX ?_);rw[qKM h0]at hRM;subst hRM;refine qK (qQ ?_);refine qk H1 (b:=x) .here ⟨rfl,rfl⟩ (by show 5<19;omega) λh3 H3=>?_;exact hih 0 _ _ omQ ⟨rfl,.inr ⟨rfl,by show(2:Int)≠0;decide,by show(2:Int)≠1;decide,nx,IntC.I (c:=c) (mv:=mv) (ov:=ov) (o:=q) H3⟩⟩
 refine qq h0 (qJ ?_);refine qK (qQ (qV H1 (b:=x) .here rfl ?_));cases left with
 |zero=>refine qj rfl (qX ?_);rw[kh,iQ h0]at hRM;subst hRM;refine qY (VE omQ H) ?_;intro _ h3 H3;exact hih 0 _ _ omQ ⟨rfl,.inr ⟨rfl,by show(4:Int)≠0;decide,by show(4:Int)≠1;decide,nx,H3⟩⟩
 |succ left=>
  refine qq omQ (qJ ?_);rw[QC,iQ h0]at hRM;have hlt:i<l.length:=by omega
  have S:=U3 F G hi hlt omQ (Q.at hlt).2 (Q.at hlt).1;have P:=qqn F G hi hlt (Q.at hlt).1;refine qK (qQ (qV H1 (b:=x) .here rfl ?_));rw[hi];refine qf omQ (qK (qQ ?_));refine qk H1 (b:=x) .here ⟨rfl,rfl⟩ (by show 16<19;omega) λh3 H3=>?_;refine qK (qQ (qQ (qV H3 (b:=x) .here rfl ?_)));refine qK (qQ (qV H3 (b:=x) .here rfl ?_));rw[hi];refine xK (l:=js l[i]) (H3.sl e_1) hlt omQ (Qt hlt) ?_;have H4:HS g h3 (IntC x v l 0 (qm l) s 0 0 ((left+1:Nat):Int) (s.pc+1)::ViewC v V::R):=IntC.I (c:=c) (mv:=mv) (ov:=ov) (o:=q) (by rw[hi]at H3 ⊢;exact H3);clear H H1 H3;rw[← vG hlt];refine qY (qq6 omQ P H4) ?_;rintro _ h5 ⟨rfl,H5⟩;rw[hi]at hRM;generalize doM (qm l) s V (qP l i)=D at*;refine qG ?_
  try dsimp only
  obtain⟨c,mv,ov,q,H6⟩:=IntC.E H5;by_cases h1:D.e=0
  ·refine qj h1 (qX ?_);rw[iJ h1]at hRM;refine qK (qQ (qV H6 (b:=x) .here rfl ?_));refine qK (qQ ?_);refine qk H6 (b:=x) .here ⟨rfl,rfl⟩ (by show 15<19;omega) λh7 H7=>?_;refine qK (qQ (qV H7 (b:=x) .here rfl ?_));refine zZ omQ (qK (qQ ?_));rw[show((left+1:Nat):Int)-((1:Nat):Int)=(left:Int) by omega];refine qk H7 (b:=x) .here ⟨rfl,rfl⟩ (by show 17<19;omega) λh8 H8=>?_;have H9:HS g h8 (IntC x v l 0 (qm l) { D.s with pc:=D.nx } 0 (if D.blk=true then 3 else 0) left D.nx::ViewC v D.v::R):=IntC.I (s:={ D.s with pc:=D.nx }) (c:=c) (mv:=mv) (ov:=ov) (o:=q) H8;clear H6 H7 H8 H5;cases h2:D.blk with
   |true=>rw[h2,iJ rfl]at hRM;rw[h2,iJ rfl]at H9;subst hRM;exact hih 0 _ _ omQ ⟨rfl,.inr ⟨rfl,by show(3:Int)≠0;decide,by show(3:Int)≠1;decide,D.nx,H9⟩⟩
   |false=>rw[h2,iQ osQ]at hRM;rw[h2,iQ osQ]at H9;have:=S.fr;exact hih (left+1) _ _ omQ ⟨rfl,.inl ⟨_,D.v,left,D.nx,rfl,by omega,S.next h1 h2,by omega,hRM,H9⟩⟩
  ·refine qq h1 (qJ ?_);rw[iQ h1]at hRM;have hb:D.blk=false:=by
    cases hb:D.blk with
    |false=>rfl
    |true=>exact absurd (S.bl hb) h1
   rw[hb,iQ osQ]at H5;by_cases h11:D.e=11
   ·rw[iJ h11]at hRM;subst hRM;refine qj h11 (qX ?_);refine qv (qW ⟨rfl,D.nx,?_⟩);rw[iJ rfl];exact H5
   ·rw[iQ h11]at hRM;subst hRM;refine qq h11 (qJ ?_);refine qY (VE omQ H5) ?_;intro _ h7 H7;exact hih 0 _ _ omQ ⟨rfl,.inr ⟨rfl,by show(4:Int)≠0;decide,by show(4:Int)≠1;decide,D.nx,H7⟩⟩
end
end
section
variable {g h:AH} {L R:List SP}
def Yb (l:List qb):List Int:=if(yC l).2=0 then qm l else[]
theorem M3 {n:Nat} (hn:7≤n) {l:List qb} {sv:AV} (H:HS g h R) (S:Rd g R 5 l.length sv (l.flatMap js)) (hl:l.length≤100) :
  t_w n 53 [.agg [sv]] h λv h'=>HS g h' (qL 3 1 (Yb l).length v ((Yb l).map (.int .i64))::R):=by
 refine t_e1 (S:=S53) rfl omQ λk hk=>?_;unfold S53;try simp only[iZ]
 refine qH H (yi (wL (S.sl H))) λb0 h1 H1=>?_;have hLV:=(S.sl H).lenV;clear H;refine qA H1 (b:=b0) (off:=0) .here rfl omQ rfl ?_;refine qY (K9 omQ H1 S.more hl) ?_;rintro _ h2 ⟨rfl,H2⟩;clear H1;refine qB rfl ?_;refine qB rfl ?_;by_cases c0:(yC l).2=0
 rotate_left
 ·refine jX c0 ?_;refine qX ?_;unfold Yb;rw[iQ c0];exact qW H2.drop.nils
 have hG:=Gk c0;have F:=NL c0;have hnr:=λ{j:Nat} (h:j<l.length)=>vT F h;have hrg:=λ{j:Nat} (h:j<l.length)=>F.reg j h;unfold Yb;rw[iJ c0];have hM:qm l=mt2 l (vY l 0 []) l.length:=rfl;rw[hM];clear hM;refine jK c0 ?_;refine qJ (qA H2 (b:=b0) (off:=0) .here rfl omQ rfl ?_);refine qY (Xm omQ H2 S.more hG hl) ?_;intro av h3 H3;clear H2;refine qQ (qV ‹_› e_1 rfl ?_);refine xR ‹_› ?_;refine Xz (n:=l.length) H3 omQ λev h4 H4=>?_;refine qs H4 .here ?_;clear H3;have hA:(vY l 0 []).length=l.length:=YI;have hin:=λ{i:Nat}=>qjD (i:=i) hG;generalize vY l 0 []=A at*
 refine zG (λm s h'=>∃(i:Nat),s=(.int .i64 (i:Int),.int .i64 (l.length:Int),ev,av,.ptr b0 0,())∧i≤l.length∧m=l.length-i∧
  HS g h' (qL 3 1 l.length ev ((List.replicate i (-1:Int)++List.replicate (l.length-i) 0).map (.int .i64))::qL 3 1 l.length av (A.map (.int .i64))::qw b0 [sv]::R))
  ?_ (m:=l.length) (by show _<1000000000;omega) ⟨0,rfl,by omega,by omega,by rw[List.replicate_zero,List.nil_append,Nat.sub_zero,List.map_replicate];exact H4⟩
 clear H4;rintro m ih s h5 hih ⟨i,rfl,hi,rfl,H⟩;dsimp only;by_cases hlt:i<l.length
 ·refine zJ omQ ?_;refine qX (XA H hlt ⟨rfl,rfl⟩ λh6 H6=>?_);refine qf omQ ?_;have h0:(AV.int .i64 (Int.negSucc 0))=.int .i64 (-1):=rfl;rw[h0,← List.map_set]at H6;have es:(List.replicate i (-1:Int)++List.replicate (l.length-i) 0).set i (-1)=List.replicate (i+1) (-1:Int)++List.replicate (l.length-(i+1)) 0:=by
   rw[show l.length-i=(l.length-(i+1))+1 by omega,List.replicate_succ,List.set_append_right _ _ osQ,List.length_replicate,Nat.sub_self,List.set_cons_zero,List.replicate_succ' (n:=i),List.append_assoc];rfl
  rw[es]at H6;exact hih (l.length-(i+1)) _ _ omQ ⟨i+1,rfl,by omega,rfl,H6⟩
 obtain rfl:i=l.length:=by omega
 clear hih;rw[Nat.sub_self,List.replicate_zero,List.append_nil]at H;have hL1:∀i,(mt1 l A i).length=l.length:=λi=>Ue i;have hL2:∀i,(mt2 l A i).length=l.length:=λi=>UP i;refine jb omQ ?_;refine qJ (qQ (qV ‹_› e_2 rfl ?_));refine xR ‹_› ?_
 refine zG (λm s h'=>∃(i:Nat),s=(.int .i64 (i:Int),.int .i64 (l.length:Int),sv,ev,av,.ptr b0 0,())∧i≤l.length∧m=l.length-i∧
  HS g h' (qL 3 1 l.length ev ((mt1 l A i).map (.int .i64))::qL 3 1 l.length av (A.map (.int .i64))::qw b0 [sv]::R))
  ?_ (m:=l.length) (by show _<1000000000;omega) ⟨0,rfl,by omega,by omega,H⟩
 clear H;rintro m ih s h6 hih ⟨i,rfl,hi,rfl,H⟩;dsimp only;by_cases hlt:i<l.length
 ·have hrow:=Qt hlt;have hini:=hin hlt;have hrgi:=hrg hlt;have hnri:=hnr hlt;have hstep:mt1 l A (i+1)=if 0<ja (qP l (i:Int)).1 then(mt1 l A i).set (qD A (i:Int)).toNat i else mt1 l A i:=rfl
  rw[vG hlt]at hstep;generalize l[i]=x at*;refine zJ omQ (qX ?_)
  refine jR [] (λs h'=>s=(.int .i64 (i:Int),.int .i64 (l.length:Int),sv,ev,av,.ptr b0 0,())∧
   HS g h' (qL 3 1 l.length ev ((mt1 l A (i+1)).map (.int .i64))::qL 3 1 l.length av (A.map (.int .i64))::qw b0 [sv]::R)) ?_ ?_
  rotate_left
  ·rintro s h7 ⟨rfl,H7⟩;refine qf omQ ?_;exact hih (l.length-(i+1)) _ _ omQ ⟨i+1,rfl,by omega,rfl,H7⟩
  intro j hj;refine xK (S.sl H.drop.drop.drop) hlt omQ hrow ?_;refine qH H rfl λb h7 H7=>?_;refine qe H7 (b:=b) .here rfl (by simp[js]) rfl λh8 H8=>?_;have H8:HS g h8 (qw b [.int .i64 x.1,.int .i64 x.2.1,.int .i64 x.2.2.1,.int .i64 x.2.2.2.1,.int .u64 x.2.2.2.2]::qL 3 1 l.length ev ((mt1 l A i).map (.int .i64))::qL 3 1 l.length av (A.map (.int .i64))::qw b0 [sv]::R):=H8;clear H H7;refine qQ (qV ‹_› .here rfl ?_);refine qY (XK omQ) ?_;rintro _ h8 ⟨rfl,rfl⟩;by_cases he:0<ja x.1
  ·obtain⟨p,hp,hpl⟩:=hini (.inl he);refine xT he (qX ?_);refine jf (H8.sl e_2) (x:=.int .i64 (p:Int)) (by rw[List.getElem?_map,hp];rfl) ?_;refine XA (H8.sel e_1) hpl ⟨rfl,rfl⟩ λh9 H9=>?_;rw[← List.map_set]at H9;have hnp:qD A (i:Int)=p:=by unfold qD;rw[Int.toNat_natCast,hp];rfl
   rw[iJ he,hnp,Int.toNat_natCast]at hstep;rw[← hstep]at H9;exact hj _ _ ⟨rfl,H9.sub (.cons .here (.cons e_1 (.cons e_1 (.drop .refl))))⟩
  ·refine xH he (qJ ?_);rw[iQ he]at hstep;exact hj _ _ ⟨rfl,by rw[hstep];exact H8.drop⟩
 obtain rfl:i=l.length:=by omega
 clear hih;refine jb omQ ?_;refine qJ (qQ (qV ‹_› e_2 rfl ?_));refine xR ‹_› ?_
 refine zG (λm s h'=>∃(i:Nat),s=(.int .i64 (i:Int),.int .i64 (l.length:Int),sv,ev,av,())∧i≤l.length∧m=l.length-i∧
  HS g h' (qL 3 1 l.length ev ((mt2 l A i).map (.int .i64))::qL 3 1 l.length av (A.map (.int .i64))::qw b0 [sv]::R))
  ?_ (m:=l.length) (by show _<1000000000;omega) ⟨0,rfl,by omega,by omega,H⟩
 clear H;rintro m ih s h6 hih ⟨i,rfl,hi,rfl,H⟩;dsimp only;by_cases hlt:i<l.length
 ·have hrow:=Qt hlt;have hini:=hin hlt;have hstep:mt2 l A (i+1)=if(qP l (i:Int)).1=16 then(mt2 l A i).set i (qD (mt2 l A i) (qD A (i:Int)))else mt2 l A i:=rfl
  rw[vG hlt]at hstep;generalize l[i]=x at*;refine zJ omQ (qX ?_)
  refine jR [] (λs h'=>s=(.int .i64 (i:Int),.int .i64 (l.length:Int),sv,ev,av,())∧
   HS g h' (qL 3 1 l.length ev ((mt2 l A (i+1)).map (.int .i64))::qL 3 1 l.length av (A.map (.int .i64))::qw b0 [sv]::R)) ?_ ?_
  rotate_left
  ·rintro s h7 ⟨rfl,H7⟩;refine qf omQ ?_;exact hih (l.length-(i+1)) _ _ omQ ⟨i+1,rfl,by omega,rfl,H7⟩
  intro j hj;refine xK (S.sl H.drop.drop.drop) hlt omQ hrow ?_;refine qH H rfl λb h7 H7=>?_;refine qe H7 (b:=b) .here rfl (by simp[js]) rfl λh8 H8=>?_;have H8:HS g h8 (qw b [.int .i64 x.1,.int .i64 x.2.1,.int .i64 x.2.2.1,.int .i64 x.2.2.2.1,.int .u64 x.2.2.2.2]::qL 3 1 l.length ev ((mt2 l A i).map (.int .i64))::qL 3 1 l.length av (A.map (.int .i64))::qw b0 [sv]::R):=H8;clear H H7;refine qQ (qV ‹_› .here rfl ?_);by_cases he:x.1=16
  ·obtain⟨p,hp,hpl⟩:=hini (.inr he);refine qj he (qX ?_);refine jf (H8.sl e_2) (x:=.int .i64 (p:Int)) (by rw[List.getElem?_map,hp];rfl) ?_;refine jf (H8.sl e_1) (x:=.int .i64 (qD (mt2 l A i) (p:Int))) (by rw[List.getElem?_map,ye (by rw[hL2];exact hpl)];rfl) ?_;refine XA (H8.sel e_1) hlt ⟨rfl,rfl⟩ λh9 H9=>?_;rw[← List.map_set]at H9;have hnp:qD A (i:Int)=p:=by unfold qD;rw[Int.toNat_natCast,hp];rfl
   rw[iJ he,hnp]at hstep;rw[← hstep]at H9;exact hj _ _ ⟨rfl,H9.sub (.cons .here (.cons e_1 (.cons e_1 (.drop .refl))))⟩
  ·refine qq he (qJ ?_);rw[iQ he]at hstep;exact hj _ _ ⟨rfl,by rw[hstep];exact H8.drop⟩
 obtain rfl:i=l.length:=by omega
 refine jb omQ ?_;refine qJ (qv (qW ?_));rw[hL2];exact H.sub (.cons .here (.drop (.drop .refl)))
def ZW:IM:=⟨[0,0,0,0,0,0,0,0],[],0,[]⟩
theorem Om {l:List qb} {V:VM} (h1:V.lv.length=1) (G:jj V):GI l ZW V :=
 ⟨⟨⟨rfl,by intro z hz;simp[ZW]at hz;subst hz;omega⟩,Nat.zero_le _,λx hx=>by cases hx⟩,⟨0,rfl,Nat.zero_le _⟩,(λp hp=>by cases hp),trivial,rfl,h1,G⟩
def JQ (fuel:Int):Nat:=(max 0 (min fuel 400)).toNat
theorem qWd {n:Nat} (hn:8≤n) {l:List qb} {sv:AV} {v:Nat} {fuel:Int} (H:HS g h R) (S:Rd g R 5 l.length sv (l.flatMap js)) (hl:l.length≤100) :
  t_w n 28 [.agg [sv],.ptr v 0,.int .i64 fuel] h λr h'=>∃x,r=.ptr x 0∧HS g h' (IntC x v l (yC l).2 (Yb l) ZW 0 0 (JQ fuel:Nat) 0 ::R):=by
 refine t_e3 (S:=S28) rfl omQ λk hk=>?_;unfold S28;try simp only[iZ]
 refine qH H (yi (wL (S.sl H))) λb0 h1 H1=>?_;refine qQ (qV ‹_› .here rfl ?_);refine zn (H1.nils) (S.sl H1.drop) omQ omQ (Vh l) λcv h2 H2=>?_;rw[List.nil_append,Nat.zero_add]at H2;have oc:=H2.one .here;refine qQ (qk H2 (b:=b0) e_1 oc osQ λh3 H3=>?_);have H3:HS g h3 (qw b0 [cv]::qL 32 5 l.length cv (l.flatMap js)::R):=H3;refine qA H3 (b:=b0) (off:=0) .here rfl omQ rfl ?_;refine qY (K9 omQ H3 (Rd.own e_1) hl) ?_;rintro _ h4 ⟨rfl,H4⟩;refine qB rfl ?_;refine qB rfl ?_;refine qG ?_;(try dsimp only)
 refine qA H4 (b:=b0) (off:=0) .here rfl omQ rfl ?_;refine qA H4 (b:=b0) (off:=0) .here rfl omQ rfl ?_;refine qY (M3 omQ H4 (Rd.own e_1) hl) ?_;intro mv h5 H5;have om:=H5.one .here;refine qY (Q':=λr h'=>∃o,r=.ptr o 0∧HS g h' (qw o [.nils]::qL 3 1 (Yb l).length mv ((Yb l).map (.int .i64))::qw b0 [cv]::qL 32 5 l.length cv (l.flatMap js)::R)) ?_ ?_
 ·refine t_e0 (S:=S54) rfl omQ λk hk=>?_;unfold S54;try simp only[iZ]
  refine qF rfl ?_;exact qH H5 rfl λo h6 H6=>qW ⟨o,rfl,H6⟩
 rintro _ h6 ⟨o,rfl,H6⟩;refine zB (zP ?_);rw[show max ((0:Nat):Int) (min fuel ((400:Nat):Int))=((JQ fuel:Nat):Int) by unfold JQ;omega]
 refine qF (l:=vE cv mv .nils v o (yC l).2 0 0 (JQ fuel:Nat) 0 0 [0,0,0,0,0,0,0,0]) (by
  have e:(AV.agg (List.take 1 (List.drop 0 [cv]))).cells=[cv]:=rfl
  simp only[vK,e,om.1];rfl) ?_
 refine qH H6 (by unfold vE;simp only[jG,List.all_cons,oc.2,om.2];rfl) λx h7 H7=>?_;refine zU H5 (b:=b0) e_1 rfl H6 e_2 rfl rfl omQ (HS.lt H4 .here) ?_;refine zU H4 (b:=b0) .here rfl H5 e_1 rfl rfl omQ (HS.lt H4 .here) ?_
 skip
 refine qW ⟨x,rfl,?_⟩;have H8:=(H7.nils (e:=20) (sz:=1)).nils (e:=255) (sz:=11)
 have H9:HS g h7 (SlaC o []::qL 255 11 0 .nils []::qw x (vE cv mv .nils v o (yC l).2 0 0 (JQ fuel:Nat) 0 0 [0,0,0,0,0,0,0,0])::qL 3 1 (Yb l).length mv ((Yb l).map (.int .i64))::qw b0 [cv]::
  qL 32 5 l.length cv (l.flatMap js)::R):=SlaC.I (l:=[]) (sv:=.nils) (H8.sub (.cons e_3 (.cons e_1 (.cons .here (.cons .here .refl)))))
 exact IntC.I (s:=ZW) (c:=cv) (mv:=mv) (ov:=.nils) (o:=o) (H9.sub (.cons e_2 (.cons e_4 (.cons e_2 (.cons .here (.cons .here (.drop .refl)))))))
section
variable {x v:Nat} {l:List qb} {bad:Int} {mt:List Int} {s:IM} {err fin left nx:Int}
end
end
section
abbrev LkM:Type:=Int×Bool×Int
structure OpM where
  kind:Int
  at_:Int
  old:Int
  word:Int
  was:LkM
  lk:LkM
structure AnM where
  word:Int
  lk:LkM
  done:Bool
  err:Int
structure jT where
  w:List Int
  l:List LkM
  n:Int
  s:List Int
  cnt:Int
def lk0:LkM:=(0,false,0)
def op0 (kind at_ word:Int):OpM:=⟨kind,at_,0,word,lk0,lk0⟩
def an0:AnM:=⟨0,lk0,false,0⟩
def anE (e:Int):AnM:=⟨0,lk0,false,e⟩
def XY (l:LkM):Prop:=l.1<4611686018427387904∧(if l.2.1=true then 0≤l.2.2∧l.2.2<4 else l.2.2=0)
instance {l:LkM}:Decidable (XY l):=by unfold XY;infer_instance
def jN (l:List LkM) (i:Int):LkM:=(l[i.toNat]?).getD lk0
def kU (m:jT) (o:OpM):AnM×jT :=
 if o.at_<1∨(m.w.length:Int)≤o.at_ then(anE 2,m)else if o.kind=1 then(⟨qD m.w o.at_,lk0,false,0⟩,m)else(an0,{ m with w:=m.w.set o.at_.toNat o.word })
def wn (m:jT) (o:OpM):AnM×jT :=
 if o.at_<0∨(m.l.length:Int)≤o.at_ then(anE 2,m)
 else if o.kind=3 then(⟨0,jN m.l o.at_,false,0⟩,m)
 else if¬XY o.lk then(anE 1,m)
 else if o.kind=5 then(an0,{ m with l:=m.l.set o.at_.toNat o.lk })
 else if jN m.l o.at_≠o.was then(an0,m)
 else(⟨0,lk0,true,0⟩,{ m with l:=m.l.set o.at_.toNat o.lk })
def Q2 (m:jT) (o:OpM):AnM×jT :=
 if o.kind=6 then(⟨m.n,lk0,false,0⟩,m)
 else if o.word≤o.old then(anE 1,m)
 else if 4611686018427387904≤o.word then(anE 7,m)
 else if m.n≠o.old then(an0,m)
 else(⟨0,lk0,true,0⟩,{ m with n:=o.word })
def NF (m:jT) (o:OpM):AnM×jT :=
 if o.at_<0∨(m.s.length:Int)≤o.at_ then(anE 2,m)else if o.kind=8 then(⟨qD m.s o.at_,lk0,false,0⟩,m)else(an0,{ m with s:=m.s.set o.at_.toNat o.word })
def zz (m:jT) (o:OpM):AnM×jT :=
 let r:=if o.kind=1∨o.kind=2 then kU m o else if o.kind=3∨o.kind=4∨o.kind=5 then wn m o else if o.kind=6∨o.kind=7 then Q2 m o else if o.kind=8∨o.kind=9 then NF m o else(anE 1,m)
 if r.1.err=0 then(r.1,{ r.2 with cnt:=r.2.cnt+1 })else r
def ofM (at_ n wide:Int):Int:=if at_<0 then-1 else(at_/max 1 (min wide 16))%max 1 (min n 16)
def jS (cs:List Cl) (n wide:Int):List Int:=((List.range 16).map λi:Nat=>(i:Int)).filter λs=>cs.any λc=>decide (ofM c.1 n wide=s)
structure gj where
  me:Int
  spins:Int
  fin:Int
  by_:Int
  err:Int
def Q3 (me spins:Int):gj:=⟨me,max 0 (min spins 4),0,-1,0⟩
def qc (p:gj) (l:LkM):Bool×gj:=if p.me<l.2.2 then(true,p)else(decide (0≤p.spins-1),{ p with spins:=p.spins-1 })
def q9 (p:gj) (fin err by_:Int):gj:={ p with fin:=fin,err:=err,by_:=by_ }
def qS (p:gj) (a:AnM):Bool×gj:=if p.fin=0∧a.err≠0 then(true,q9 p 4 a.err (-1))else(decide (p.fin≠0),p)
abbrev z6:Type:=Int×Int
structure wJ where
  p:gj
  at_:Int
  stripe:Int
  stamp:Int
  state:Int
  lk:LkM
  word:Int
def Zh (me at_ stripe spins stamp:Int):wJ:=⟨Q3 me spins,at_,stripe,stamp,0,lk0,0⟩
def kA (f:wJ):Option OpM:=if f.p.fin≠0 then none else if f.state=1 then some (op0 1 f.at_ 0)else some (op0 3 f.stripe 0)
def w9 (f:wJ) (l:LkM):wJ :=
 if l.2.1=true then(if(qc f.p l).1=true then{ f with state:=0,p:=(qc f.p l).2 }else{ f with state:=0,p:=q9 (qc f.p l).2 5 0 l.2.2 })
 else if f.stamp<l.1 then{ f with state:=0,p:=q9 f.p 6 0 (-1) }
 else{ f with lk:=l,state:=1 }
def xO (f:wJ) (a:AnM):wJ :=
 if(qS f.p a).1=true then{ f with p:=(qS f.p a).2 }
 else if f.state=1 then{ f with word:=a.word,state:=2 }
 else if f.state=2∧a.lk=f.lk then{ f with p:=q9 f.p 2 0 (-1) }
 else w9 f a.lk
def xP (f:wJ):Int:=if f.p.fin≠2 then 0 else f.word
def yq (f:wJ):z6:=if f.p.fin≠2 then(0,0)else(f.stripe,f.lk.1)
structure wD where
  p:gj
  seen:List z6
  loaded:Bool
  at_:Int
  stamp:Int
def Mg (me spins:Int) (seen:List z6):wD:=⟨Q3 me spins,seen,false,0,0⟩
def jr (l:List z6) (i:Int):z6:=(l[i.toNat]?).getD (0,0)
def kE (x:wD):Option OpM:=if x.p.fin≠0 then none else if x.loaded=false then some (op0 6 0 0)else some (op0 3 (jr x.seen x.at_).1 0)
def GM (x:wD):wD:=if x.at_=(x.seen.length:Int)then{ x with p:=q9 x.p 2 0 (-1) }else x
def yg (x:wD) (a:AnM):wD :=
 if(qS x.p a).1=true then{ x with p:=(qS x.p a).2 }
 else if x.loaded=false then GM { x with loaded:=true,stamp:=a.word }
 else if a.lk.2.1=true then(if(qc x.p a.lk).1=true then{ x with p:=(qc x.p a.lk).2 }else{ x with p:=q9 (qc x.p a.lk).2 5 0 a.lk.2.2 })
 else if a.lk.1≠(jr x.seen x.at_).2 then{ x with p:=q9 x.p 5 0 (-1) }
 else GM { x with at_:=x.at_+1 }
def yl (x:wD):Int:=if x.p.fin≠2 then 0 else x.stamp
structure jW where
  p:gj
  me:Int
  stamp:Int
  seen:List z6
  cells:List Cl
  s:List Int
  was:List LkM
  state:Int
  at_:Int
  lk:LkM
  now:Int
  writing:Bool
  fin2:Int
  by2:Int
  err2:Int
def wO (c:jW):jW:={ c with state:=if c.was.length=c.s.length then 2 else 0 }
def YZ (me spins stamp:Int) (seen:List z6) (cells:List Cl) (n wide:Int):jW :=
 wO ⟨Q3 me spins,me,stamp,seen,cells,jS cells n wide,[],0,0,lk0,0,false,0,0,0⟩
def xo (l:List Cl) (i:Int):Cl:=(l[i.toNat]?).getD (0,0)
def xD (c:jW):Option OpM :=
 if c.p.fin≠0 then none
 else if c.state=0 then some (op0 3 (qD c.s c.was.length) 0)
 else if c.state=1 then some ⟨4,qD c.s c.was.length,0,0,c.lk,(c.lk.1,true,c.me)⟩
 else if c.state=2 then some (op0 6 0 0)
 else if c.state=3 then some ⟨7,0,c.now,c.now+1,lk0,lk0⟩
 else if c.state=4 then some (op0 3 (jr c.seen c.at_).1 0)
 else if c.state=5 then some (op0 2 (xo c.cells c.at_).1 (xo c.cells c.at_).2)
 else if c.state=6 then some ⟨5,qD c.s c.at_,0,0,lk0,(c.now+1,false,0)⟩
 else some ⟨5,qD c.s c.at_,0,0,lk0,jN c.was c.at_⟩
def xd (c:jW):jW:=if c.at_=(c.was.length:Int)then{ c with p:=q9 c.p c.fin2 c.err2 c.by2 }else c
def y3 (c:jW) (fin err by_:Int):jW:=xd { c with fin2:=fin,err2:=err,by2:=by_,at_:=0,state:=7 }
def yG (c:jW) (l:LkM):jW:=if(qc c.p l).1=true then{ c with p:=(qc c.p l).2 }else y3 { c with p:=(qc c.p l).2 } 5 0 l.2.2
def xF (c:jW):jW:=if c.at_=(c.s.length:Int)then{ c with p:=q9 c.p 2 0 (-1) }else c
def xY (c:jW):jW:=if c.at_=(c.cells.length:Int)then xF { c with at_:=0,state:=6 }else c
def yE (c:jW):jW:=xY { c with writing:=true,at_:=0,state:=5 }
def Xe:List Int→List LkM→Int→Option Int
 |s::r,w::q,x=>if s=x then some w.1 else Xe r q x
 |_,_,_=>none
def xC (c:jW):Nat→jW
 | 0=>yE c
 |n+1=>
  if c.at_<(c.seen.length:Int)then
   (match Xe c.s c.was (jr c.seen c.at_).1 with
   |none=>c
   |some v=>if v≠(jr c.seen c.at_).2 then y3 c 5 0 (-1)else xC { c with at_:=c.at_+1 } n)
  else yE c
def yh (c:jW):jW:=xC { c with state:=4 } (c.seen.length+1)
def yz (c:jW) (a:AnM):jW :=
 if c.state=0∧a.lk.2.1=true then yG c a.lk
 else if c.state=0 then{ c with lk:=a.lk,state:=1 }
 else if a.done=true then wO { c with was:=c.was++[c.lk] }
 else{ c with state:=0 }
def x7 (c:jW) (a:AnM):jW :=
 if c.state=2∧4611686018427387903≤a.word then y3 c 4 7 (-1)
 else if c.state=2 then{ c with now:=a.word,state:=3 }
 else if a.done=false then{ c with state:=2 }
 else if c.now=c.stamp then yE c
 else yh c
def xe (c:jW) (l:LkM):jW :=
 if l.2.1=true then yG c l
 else if l.1≠(jr c.seen c.at_).2 then y3 c 5 0 (-1)
 else yh { c with at_:=c.at_+1 }
def zQ (c:jW) (a:AnM):jW :=
 if(qS c.p a).1=true then{ c with p:=(qS c.p a).2 }
 else if c.state=0∨c.state=1 then yz c a
 else if c.state=2∨c.state=3 then x7 c a
 else if c.state=4 then xe c a.lk
 else if c.state=5 then xY { c with at_:=c.at_+1 }
 else if c.state=6 then xF { c with at_:=c.at_+1 }
 else xd { c with at_:=c.at_+1 }
def Xw (c:jW):Int:=if c.writing=false then 0 else c.now+1
def kH (c:jW):Bool:=c.writing&&decide (c.p.fin=0)
structure zi where
  words:Int
  stripes:Int
  wide:Int
  threads:Int
  start:Int
  spins:Int
  writes:Int
  fuel:Int
def kS (n lo hi:Int):Int:=max lo (min n hi)
def jo (s:zi):zi:=⟨kS s.words 32 256,kS s.stripes 1 16,kS s.wide 1 16,kS s.threads 1 4,min s.start 4611686018427387903,kS s.spins 0 4,kS s.writes 0 96,kS s.fuel 0 400⟩
structure RunS where
  l:List qb
  s:IM
  fin:Int
  err:Int
  left:Nat
inductive Gz where
  |prog (r:RunS)
  |sweep (blocks:List Int) (k:Nat)
structure jI where
  me:Int
  set:zi
  job:Gz
  v:VM
  r:List z6
  state:Int
  f:wJ
  e:wD
  c:Option jW
  begun:Bool
  begin_:Int
  stamp:Int
  fin:Int
  by_:Int
  err:Int
  blocking:Bool
def qXL (me:Int) (S:zi) (job:Gz):jI:=⟨me,S,job,U6 S.words S.writes,[],0,Zh 0 0 0 0 0,Mg 0 0 [],none,false,0,0,0,-1,0,false⟩
def kC (me:Int) (S:zi) (l:List qb):jI:=qXL me (jo S) (.prog ⟨l,ZW,0,0,JQ (jo S).fuel⟩)
def yY (x:jI):Option OpM :=
 if x.state=0 then some (op0 9 x.me 1)
 else if x.state=1 then some (op0 6 0 0)
 else if x.state=2 then some (op0 9 x.me (zg .u64 (x.stamp+1)))
 else if x.state=7 then some (op0 9 x.me 0)
 else if x.state=8 then none
 else if x.state=3 then kA x.f
 else if x.state=6 then x.c.bind xD
 else kE x.e
def xq (x:jI) (fin err by_:Int):jI:={ x with fin:=fin,err:=err,by_:=by_,state:=7 }
def JB (x:jI) (at_:Int):jI:={ x with state:=3,f:=Zh x.me at_ (ofM at_ x.set.stripes x.set.wide) x.set.spins x.stamp }
def wZ (x:jI) (state:Int):jI:={ x with state:=state,e:=Mg x.me x.set.spins x.r }
def xv:VM→List Int→Nat→(Nat×Int)×VM
 |V,[],k=>((k,0),V)
 |V,b::r,k=>if(xZ V b).1=0 then xv (xZ V b).2 r (k+1)else((k,(xZ V b).1),(xZ V b).2)
def vy (x:jI):(Int×Int)×jI:=match x.job with
 | .sweep bs k=>(if(xv x.v (bs.drop k) k).1.2=11 then(1,0)else if(xv x.v (bs.drop k) k).1.2=0 then(2,0)else(4,(xv x.v (bs.drop k) k).1.2),{ x with job:=.sweep bs (xv x.v (bs.drop k) k).1.1,v:=(xv x.v (bs.drop k) k).2 })
 | .prog q=>(((zt q.l (qm q.l) q.left q.s x.v).kind,(zt q.l (qm q.l) q.left q.s x.v).err),{ x with
   job:=.prog ⟨q.l,(zt q.l (qm q.l) q.left q.s x.v).s,if(zt q.l (qm q.l) q.left q.s x.v).kind=1 then 0 else(zt q.l (qm q.l) q.left q.s x.v).kind,(zt q.l (qm q.l) q.left q.s x.v).err,(zt q.l (qm q.l) q.left q.s x.v).left⟩,
   v:=(zt q.l (qm q.l) q.left q.s x.v).v })
def kL (x:jI) (k e:Int):jI :=
 if k=1 then JB x x.v.need
 else if k=3 then wZ { x with blocking:=true } 5
 else if k=4 then xq x 4 e (-1)
 else if jO x.v.lv=[]then xq x 2 0 (-1)
 else{ x with state:=6,c:=some (YZ x.me x.set.spins x.stamp x.r (jO x.v.lv) x.set.stripes x.set.wide) }
def gT (x:jI):jI:=kL (vy x).2 (vy x).1.1 (vy x).1.2
def ga (r:List z6) (x:z6):Int×List z6 :=
 if x.1<0∨16≤x.1∨4611686018427387904≤x.2 then(1,r)
 else match r.find? λy=>decide (y.1=x.1)with
  |some y=>if y.2≠x.2 then(14,r)else(0,r)
  |none=>if r.length=16 then(5,r)else(0,r++[x])
def xx (x:jI):jI :=
 if x.f.p.fin=6 then wZ x 4
 else if(ga x.r (yq x.f)).1=0 then gT { x with r:=(ga x.r (yq x.f)).2,v:=(xN x.v x.v.need (xP x.f)).2 }
 else if(ga x.r (yq x.f)).1=14 then xq x 5 0 (-1)
 else xq x 4 (ga x.r (yq x.f)).1 (-1)
def zR (x:jI):Int×Int:=if x.state=3 then(x.f.p.fin,x.f.p.by_)else if x.state=6 then(match x.c with |some c=>(c.p.fin,c.p.by_) |none=>(0,0))else(x.e.p.fin,x.e.p.by_)
def z8 (x:jI):jI :=
 if x.state=3 then xx x
 else if x.state=4 then JB { x with stamp:=yl x.e } x.v.need
 else if x.state=5 then xq { x with stamp:=yl x.e } 3 0 (-1)
 else match x.c with |some c=>xq x c.p.fin c.p.err (-1) |none=>x
def vn (x:jI):Bool:=decide (x.state≠8)&&(match x.c with |some c=>kH c||decide (c.p.fin=2) |none=>false)
def xr (x:jI):jI:=if vn x=true then(match x.c with |some c=>{ x with stamp:=Xw c } |none=>x)else x
def zy (x:jI):jI:=xr (if(zR x).1=0 then x else if(zR x).1=5 then xq x 5 0 (zR x).2 else z8 x)
def zT (x:jI) (a:AnM):jI :=
 if x.state=8 then x
 else if a.err≠0 then{ xq x 4 a.err (-1)with state:=8 }
 else if x.state=0 then{ x with state:=1 }
 else if x.state=1 then{ x with begun:=true,begin_:=a.word,stamp:=a.word,state:=2 }
 else if x.state=2 then gT x
 else if x.state=7 then{ x with state:=8 }
 else if x.state=3 then zy { x with f:=xO x.f a }
 else if x.state=6 then zy { x with c:=x.c.map λc=>zQ c a }
 else zy { x with e:=yg x.e a }
end
end Go.Proofs.YtbiljkdgeekpbabGreatDoor
