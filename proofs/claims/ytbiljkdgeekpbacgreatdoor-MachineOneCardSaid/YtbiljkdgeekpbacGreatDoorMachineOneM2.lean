/- Lemmas for 'quietus/quietuslaw28.MachineOne': Blocks of words: by the program;Blocks of words: by the documents own text;Numbers brought into bounds;Are two lists of numbers the same?;Are two lists of ... No condition. -/
import Derived.Test.YtbiljkdgeekpbacGreatDoorMachineOneM1
import Derived.Test.YtbiljkdgeekpbacGreatDoorMachineOneAe7
import Derived.Test.YtbiljkdgeekpbacGreatDoorMachineOneT
import Derived.KernelRfl
import Derived.Lib.ItoaLen
import Derived.Lib.Join
namespace Go.Proofs.YtbiljkdgeekpbacGreatDoor
open Go Go.Ae
set_option maxRecDepth 100000
section
variable {g h:AH} {L R:List SP}
def gZ (x:Int):Int:=if x=1 then 2 else if x=2 then 4 else if x=3 then 8 else if x=4 then 16 else 0
def xe (x:Int):Int:=if x<1 then 0 else if x≤2 then 1 else if x≤4 then 2 else if x≤8 then 3 else if x≤16 then 4 else 0
theorem OI (x:Int):0≤gZ x∧gZ x≤16:=by unfold gZ;repeat' split<;>omega
theorem qJS (x:Int):0≤xe x∧xe x≤4:=by unfold xe;repeat' split<;>omega
structure WdV (M:VM):Prop where
  k:∀c∈M.K,0≤c.2∧c.2<18446744073709551616
  l:∀x∈M.lv,∀c∈x.1,0≤c.2∧c.2<18446744073709551616
theorem Mo {P:Int→Prop} {p x:Int}:∀{l:List Cl},(∀c∈l,P c.2)→zg p l=some x→P x:=by
 intro l
 induction l with
 |nil=>intro _ h;cases h
 |cons c l ih=>
  intro h e;unfold zg at e
  split at e
  ·cases e;exact h c (iK ..)
  ·exact ih (λd hd=>h d (iX _ hd)) e
theorem qYa {P:Int→Prop} {p x:Int}:∀{lv:List LvM},(∀y∈lv,∀c∈y.1,P c.2)→Gr p lv=some x→P x:=by
 intro lv
 induction lv with
 |nil=>intro _ h;cases h
 |cons y r ih=>
  intro h e;unfold Gr at e
  split at e
  ·rename_i v hv;cases e;exact Mo (h y (iK ..)) hv
  ·exact ih (λz hz=>h z (iX _ hz)) e
theorem WdV.read {M:VM} {p:Int} (W:WdV M):0≤(qi M p).1.1∧(qi M p).1.1<18446744073709551616:=by
 unfold qi
 split
 ·split
  ·rename_i x hx;exact qYa (P:=λx=>0≤x∧x<18446744073709551616) W.l hx
  ·split
   ·rename_i x hx;exact Mo (P:=λx=>0≤x∧x<18446744073709551616) W.k hx
   ·show(0:Int)≤0∧(0:Int)<18446744073709551616;omega
 ·show(0:Int)≤0∧(0:Int)<18446744073709551616;omega
theorem WdV.read2 {M:VM} {p:Int} (W:WdV M):WdV (qi M p).2:=by
 unfold qi
 repeat' split
 all_goals exact⟨W.k,W.l⟩
def WdC (cs:List Cl):Prop:=∀c∈cs,0≤c.2∧c.2<18446744073709551616
theorem WdC.put {l:List Cl} {p v:Int} (h:WdC l) (hv:0≤v∧v<18446744073709551616):WdC (vW p v l):=by
 induction l with
 |nil=>intro c hc;simp[vW]at hc;subst hc;exact hv
 |cons a l ih=>
  unfold vW
  split
  ·intro c hc;rcases List.mem_cons.1 hc with rfl |hc
   ·exact hv
   ·exact h c (iX _ hc)
  ·intro c hc;rcases List.mem_cons.1 hc with rfl |hc
   ·exact h _ (iK ..)
   ·exact ih (λc hc=>h c (iX _ hc)) c hc
theorem WdC.puts:∀{cs l:List Cl},WdC l→WdC cs→WdC (vX l cs):=by
 intro cs
 induction cs with
 |nil=>intro l h _;exact h
 |cons c cs ih=>intro l h hc;exact ih (h.put (hc c (iK ..))) λd hd=>hc d (iX _ hd)
theorem qj0 {most:Nat} {was:List LvM} (hw:∀x∈was,WdC x.1):∀{cs:List Cl} {lv:List LvM},WdC cs→(∀x∈lv,WdC x.1)→∀x∈(vt most was lv cs).2,WdC x.1:=by
 intro cs
 induction cs with
 |nil=>intro lv _ h;exact h
 |cons c cs ih=>
  intro lv hc h;rw[gC]
  split
  ·refine ih (λd hd=>hc d (iX _ hd)) ?_;cases lv with
   |nil=>exact h
   |cons y r=>
    unfold gw;dsimp only
    split
    ·exact h
    ·split
     ·exact h
     ·intro x hx;rcases List.mem_cons.1 hx with rfl |hx
      ·exact(show WdC y.1 from h y (iK ..)).put (hc c (iK ..))
      ·exact h x (iX _ hx)
  ·exact hw
theorem WdV.take {M:VM} {cs:List Cl} (W:WdV M) (hc:WdC cs):WdV (zw M cs).2:=by
 unfold zw
 split
 ·exact⟨W.k,qj0 W.l hc W.l⟩
 ·exact W
def yw (M:VM) (c b:Int):(Int×Int)×VM :=
 if 2147483648≤b then((0,2),M)else
 if(qi M b).1.2=0 then
  (if(zw (qi M b).2 [(c,(qi M b).1.1),(b-1,c+8)]).1=0 then((b,0),(zw (qi M b).2 [(c,(qi M b).1.1),(b-1,c+8)]).2)
   else((0,(zw (qi M b).2 [(c,(qi M b).1.1),(b-1,c+8)]).1),(zw (qi M b).2 [(c,(qi M b).1.1),(b-1,c+8)]).2))
 else((0,(qi M b).1.2),(qi M b).2)
def yx (M:VM) (c:Int):(Int×Int)×VM :=
 if(qi M 5).1.2=0 then
  (if(qi M 5).1.1<14∨2147483648≤(qi M 5).1.1∨(M.sz:Int)<(qi M 5).1.1+1+gZ c then((0,4),(qi M 5).2)
   else if(zw (qi M 5).2 [(5,(qi M 5).1.1+1+gZ c),((qi M 5).1.1,c+8)]).1=0 then(((qi M 5).1.1+1,0),(zw (qi M 5).2 [(5,(qi M 5).1.1+1+gZ c),((qi M 5).1.1,c+8)]).2)
   else((0,(zw (qi M 5).2 [(5,(qi M 5).1.1+1+gZ c),((qi M 5).1.1,c+8)]).1),(zw (qi M 5).2 [(5,(qi M 5).1.1+1+gZ c),((qi M 5).1.1,c+8)]).2))
 else((0,(qi M 5).1.2),(qi M 5).2)
def xG (M:VM) (n:Int):(Int×Int)×VM :=
 if xe n=0 then((0,3),M)else
 if(qi M (xe n)).1.2=0 then
  (if(qi M (xe n)).1.1=0 then yx (qi M (xe n)).2 (xe n)else yw (qi M (xe n)).2 (xe n) (qi M (xe n)).1.1)
 else((0,(qi M (xe n)).1.2),(qi M (xe n)).2)
def Ye (w:Int):Int×Bool:=if 1≤w∧w≤4 then(w,false)else if 9≤w∧w≤12 then(w-8,true)else(0,false)
def zq (M:VM) (b:Int):(Int×Bool×Int)×VM :=
 if b≤14∨M.sz≤b then((0,false,2),M)else
 if(qi M (b-1)).1.2=0 then
  (if(Ye (qi M (b-1)).1.1).1=0 then((0,false,2),(qi M (b-1)).2)else(((Ye (qi M (b-1)).1.1).1,(Ye (qi M (b-1)).1.1).2,0),(qi M (b-1)).2))
 else((0,false,(qi M (b-1)).1.2),(qi M (b-1)).2)
def vo (M:VM) (b:Int):Int×VM :=
 if(zq M b).1.2.2=0 then
  (if(zq M b).1.2.1=true then
   (if(zw (zq M b).2 [(b-1,(zq M b).1.1)]).1=0 then(0,freeV (zw (zq M b).2 [(b-1,(zq M b).1.1)]).2 b)else zw (zq M b).2 [(b-1,(zq M b).1.1)])
  else(2,(zq M b).2))
 else((zq M b).1.2.2,(zq M b).2)
def zj (M:VM) (b:Int):Int×VM :=
 if(zq M b).1.2.2=0 then
  (if(zq M b).1.2.1=true then(2,(zq M b).2)else
   if(qi (zq M b).2 (zq M b).1.1).1.2=0 then zw (qi (zq M b).2 (zq M b).1.1).2 [(b,(qi (zq M b).2 (zq M b).1.1).1.1),((zq M b).1.1,b)]
   else((qi (zq M b).2 (zq M b).1.1).1.2,(qi (zq M b).2 (zq M b).1.1).2))
 else((zq M b).1.2.2,(zq M b).2)
theorem qjp {M:VM} {p:Int}:(qi M p).2.sz=M.sz:=by
 unfold qi
 repeat' split
 all_goals rfl
theorem qk1 (w:Int):0≤(Ye w).1∧(Ye w).1≤4:=by
 unfold Ye
 repeat' split
 all_goals dsimp only
 all_goals omega
theorem Oo (M:VM) (b:Int):0≤(zq M b).1.1∧(zq M b).1.1≤4∧((zq M b).1.2.2=0→14<b∧b<M.sz):=by
 unfold zq
 split
 ·exact⟨Int.le_refl 0,by show(0:Int)≤4;omega,nofun⟩
 ·split
  ·split
   ·exact⟨Int.le_refl 0,by show(0:Int)≤4;omega,nofun⟩
   ·have:=qk1 (qi M (b-1)).1.1;exact⟨this.1,this.2,λ_=>by omega⟩
  ·exact⟨Int.le_refl 0,by show(0:Int)≤4;omega,λ_=>by omega⟩
theorem Yk {M:VM} {b:Int} (O:OkV M):OkV (zq M b).2:=by
 unfold zq
 split
 ·exact O
 ·split
  ·split<;>exact yJ O
  ·exact yJ O
theorem qwC {M:VM} {b:Int} (O:WdV M):WdV (zq M b).2:=by
 unfold zq
 split
 ·exact O
 ·split
  ·split<;>exact O.read2
  ·exact O.read2
theorem qzu {M:VM} {b:Int} (O:OkV M) (hf:∀x∈M.lv,x.2.length+1<100000):OkV (freeV M b):=by
 refine⟨O.lo,O.hi,qjr O.lvs,O.ins,O.un,?_⟩;show∀x∈XF M.lv b,x.2.length<100000;cases hl:M.lv with
 |nil=>intro x hx;cases hx
 |cons y r=>
  rw[hl]at hf;intro x hx;rcases List.mem_cons.1 hx with rfl |hx
  ·have:=hf y (iK ..);simpa using this
  ·have:=hf x (iX _ hx);omega
theorem KV {n:Nat} (hn:1≤n) {x:Int}:t_w n 314 [.int .i64 x] h λv h'=>v=.int .i64 (gZ x)∧h'=h:=by
 refine t_e1 rfl omQ λk hk=>?_;unfold S314;try simp only[iZ]
 repeat' (first |refine qZ ?_ |refine qJ ?_ |(refine qa ?_;try dsimp only) |(refine qs ?_;try dsimp only) |(refine qT ?_;try dsimp only) |(refine qe ?_;try dsimp only) |(refine zK ?_;try dsimp only) |refine qD ?_ |refine qE ?_ |(with_reducible refine qV ?_;try dsimp only) |refine qk ?_ |refine jk ?_ |refine jA ?_ |refine qc omQ ?_ |refine zJ omQ ?_ |refine xr omQ ?_ |refine yy omQ ?_ |refine ju ?_ |refine zD ?_ |refine zL (λhc=>?_) (λhc=>?_) |refine kV (λhc=>?_) (λhc=>?_) |refine kG (λhc=>?_) (λhc=>?_) |refine yC (λhc=>?_) (λhc=>?_) |refine gK (λhc=>?_) (λhc=>?_) |refine yS (λhc=>?_) (λhc=>?_) |refine wG (λhc=>?_) (λhc=>?_))
 ·refine qj ⟨?_,rfl⟩;unfold gZ;congr 1;repeat' split<;>omega
 ·refine qj ⟨?_,rfl⟩;unfold gZ;congr 1;repeat' split<;>omega
 ·refine jQI omQ<|qj ⟨?_,rfl⟩;rcases(show x=1∨x=2∨x=3∨x=4 by omega)with rfl |rfl |rfl |rfl<;>rfl
theorem qWH {n:Nat} (hn:2≤n) {x:Int}:t_w n 270 [.int .i64 x] h λv h'=>v=.int .i64 (xe x)∧h'=h:=by
 refine t_e1 rfl omQ λk hk=>?_;unfold S270;try simp only[iZ]
 repeat' (first |refine qZ ?_ |refine qJ ?_ |(refine qa ?_;try dsimp only) |(refine qs ?_;try dsimp only) |(refine qT ?_;try dsimp only) |(refine qe ?_;try dsimp only) |(refine zK ?_;try dsimp only) |refine qD ?_ |refine qE ?_ |(with_reducible refine qV ?_;try dsimp only) |with_reducible refine qk ?_ |with_reducible refine jk ?_ |with_reducible refine jA ?_ |with_reducible refine qc omQ ?_ |with_reducible refine zJ omQ ?_ |with_reducible refine xr omQ ?_ |with_reducible refine yy omQ ?_ |with_reducible refine ju ?_ |with_reducible refine zD ?_ |with_reducible refine zL (λhc=>?_) (λhc=>?_) |with_reducible refine kV (λhc=>?_) (λhc=>?_) |with_reducible refine kG (λhc=>?_) (λhc=>?_) |with_reducible refine yC (λhc=>?_) (λhc=>?_) |with_reducible refine gK (λhc=>?_) (λhc=>?_) |with_reducible refine yS (λhc=>?_) (λhc=>?_) |with_reducible refine wG (λhc=>?_) (λhc=>?_))
 ·refine qj ⟨?_,rfl⟩;unfold xe;congr 1;repeat' split<;>omega
 ·refine jM (λm s g=>∃i:Int,s=(.int .i64 i,.int .i64 x,())∧1≤i∧i≤5∧(m:Int)=5-i∧g=h∧(1<i→2<x)∧(2<i→4<x)∧(3<i→8<x)∧(4<i→16<x)) ?_ (m:=4) od ⟨1,rfl,by omega,by omega,by omega,rfl,by omega,by omega,by omega,by omega⟩;rintro m ih s g hih ⟨i,rfl,h1,h2,h3,rfl,h4,h5,h6,h7⟩;dsimp only
  repeat' (first |with_reducible refine qZ ?_ |with_reducible refine qJ ?_ |(with_reducible refine qa ?_;try dsimp only) |(with_reducible refine qs ?_;try dsimp only) |(with_reducible refine qT ?_;try dsimp only) |(with_reducible refine qe ?_;try dsimp only) |(with_reducible refine zK ?_;try dsimp only) |with_reducible refine qD ?_ |with_reducible refine qE ?_ |(with_reducible refine qV ?_;try dsimp only) |with_reducible refine qk ?_ |with_reducible refine jk ?_ |with_reducible refine jA ?_ |refine qc omQ ?_ |refine zJ omQ ?_ |refine xr omQ ?_ |refine yy omQ ?_ |refine ju ?_ |refine zD ?_ |refine zL (λhc=>?_) (λhc=>?_) |refine kV (λhc=>?_) (λhc=>?_) |refine kG (λhc=>?_) (λhc=>?_) |refine yC (λhc=>?_) (λhc=>?_) |refine gK (λhc=>?_) (λhc=>?_) |refine yS (λhc=>?_) (λhc=>?_) |refine wG (λhc=>?_) (λhc=>?_))
  ·refine qG (KV omQ) ?_;rintro v g' ⟨rfl,rfl⟩
   repeat' (first |refine qZ ?_ |refine qJ ?_ |(refine qa ?_;try dsimp only) |(refine qs ?_;try dsimp only) |(refine qT ?_;try dsimp only) |(refine qe ?_;try dsimp only) |(with_reducible refine zK ?_;try dsimp only) |with_reducible refine qD ?_ |with_reducible refine qE ?_ |(with_reducible refine qV ?_;try dsimp only) |with_reducible refine qk ?_ |with_reducible refine jk ?_ |with_reducible refine jA ?_ |with_reducible refine qc omQ ?_ |with_reducible refine zJ omQ ?_ |with_reducible refine xr omQ ?_ |with_reducible refine yy omQ ?_ |with_reducible refine ju ?_ |with_reducible refine zD ?_ |with_reducible refine zL (λhc=>?_) (λhc=>?_) |with_reducible refine kV (λhc=>?_) (λhc=>?_) |with_reducible refine kG (λhc=>?_) (λhc=>?_) |with_reducible refine yC (λhc=>?_) (λhc=>?_) |with_reducible refine gK (λhc=>?_) (λhc=>?_) |with_reducible refine yS (λhc=>?_) (λhc=>?_) |with_reducible refine wG (λhc=>?_) (λhc=>?_))
   ·refine qj ⟨?_,rfl⟩;unfold gZ at*;unfold xe;congr 1;repeat' split<;>omega
   ·refine hih (m-1) _ _ omQ ⟨i+1,rfl,by omega,by omega,by omega,rfl,?_,?_,?_,?_⟩<;>(unfold gZ at*;repeat' split at* <;>omega)
  ·refine qj ⟨?_,rfl⟩;unfold xe;congr 1;repeat' split<;>omega
theorem Gc {n:Nat} (hn:1≤n) {c:Int} (hc:0≤c∧c≤4):t_w n 95 [.int .i64 c] h λv h'=>v=.int .i64 c∧h'=h:=by
 refine t_e1 rfl omQ λk hk=>?_;unfold S95;try simp only[iZ]
 refine qc omQ<|qj ⟨by congr 1;omega,rfl⟩
theorem qZ4 {n:Nat} (hn:1≤n) {w:Int}:t_w n 152 [.int .u64 w] h λv h'=>v=.tup [.int .i64 (Ye w).1,.bool (Ye w).2]∧h'=h:=by
 refine t_e1 rfl omQ λk hk=>?_;unfold S152;try simp only[iZ]
 unfold Ye;by_cases h1:1≤w∧w≤4
 ·rw[iJ h1];refine zc omQ<|qV<|qa<|Ji omQ<|qD (qZ (xU omQ ?_))
  exact qj ⟨rfl,rfl⟩
 ·rw[iQ h1];by_cases h2:9≤w∧w≤12
  ·rw[iJ h2];refine zc omQ<|qV<|qa<|YV omQ<|qD (qJ (zc omQ ?_));refine qV<|qa<|Ji omQ<|qD (qZ (yy omQ ?_));refine xU omQ ?_
   exact qj ⟨rfl,rfl⟩
  ·rw[iQ h2]
   repeat' (first |refine qZ ?_ |refine qJ ?_ |(refine qa ?_;try dsimp only) |(refine qs ?_;try dsimp only) |(refine qT ?_;try dsimp only) |(refine qe ?_;try dsimp only) |(refine zK ?_;try dsimp only) |refine qD ?_ |refine qE ?_ |(with_reducible refine qV ?_;try dsimp only) |refine qk ?_ |refine jk ?_ |refine jA ?_ |refine qc omQ ?_ |refine zJ omQ ?_ |refine xr omQ ?_ |refine yy omQ ?_ |refine ju ?_ |refine zD ?_ |refine qg omQ ?_ |refine qK omQ ?_ |refine jX omQ ?_ |refine q9 omQ ?_ |refine jT omQ ?_ |refine jD omQ ?_ |refine Ji omQ ?_ |refine YV omQ ?_ |refine yp omQ ?_ |refine yT omQ ?_ |refine zc omQ ?_ |refine zF omQ ?_ |refine zL (λhc=>?_) (λhc=>?_) |refine kV (λhc=>?_) (λhc=>?_) |refine kG (λhc=>?_) (λhc=>?_) |refine yC (λhc=>?_) (λhc=>?_) |refine gK (λhc=>?_) (λhc=>?_) |refine yS (λhc=>?_) (λhc=>?_) |refine wG (λhc=>?_) (λhc=>?_))
   all_goals exact qj ⟨rfl,rfl⟩
theorem Ow {n:Nat} (hn:10≤n) {v:Nat} {M:VM} {b:Int} (H:HS g h (ViewC v M::R)) (O:OkV M) :
  t_w n 93 [.ptr v 0,.int .i64 b] h λr h'=>r=.tup [.int .i64 (zq M b).1.1,.bool (zq M b).1.2.1,.int .i64 (zq M b).1.2.2]∧HS g h' (ViewC v (zq M b).2::R):=by
 refine t_e2 rfl omQ λk hk=>?_;unfold S93;try simp only[iZ]
 unfold zq;by_cases h1:b≤14
 ·rw[iJ (.inl h1)];refine Ji omQ<|qV<|qs<|qD (qZ ?_)
  exact qj ⟨rfl,H⟩
 ·refine YV omQ<|qV<|qe ?_;(try dsimp only)
  refine qG (G8 omQ H) ?_;rintro _ _ ⟨rfl,rfl⟩;by_cases h2:(M.sz:Int)≤b
  ·rw[iJ (.inr h2)];refine zc omQ<|qE (qZ ?_);exact qj ⟨rfl,H⟩
  ·rw[iQ omQ];refine zF omQ<|qE (qJ ?_);have:=O.hi;refine zJ omQ (qG (JD omQ H O) ?_);rintro _ h3 ⟨rfl,H3⟩;simp only[show((1:Nat):Int)=1 from rfl]at H3 ⊢;refine qC rfl<|qC rfl ?_;by_cases h4:(qi M (b-1)).1.2=0
   ·rw[iJ h4];refine q9 omQ<|qJ (qG (qZ4 omQ) ?_);rintro _ _ ⟨rfl,rfl⟩;refine qC rfl<|qC rfl ?_;by_cases h5:(Ye (qi M (b-1)).1.1).1=0
    ·rw[iJ h5];refine qg omQ<|qZ<|qj ⟨rfl,H3⟩
    ·rw[iQ h5];refine qK omQ<|qJ<|qj ⟨rfl,H3⟩
   ·rw[iQ h4];refine jX omQ<|qZ<|qj ⟨rfl,H3⟩
theorem qqF {n:Nat} (hn:11≤n) {v:Nat} {M:VM} {b:Int} (H:HS g h (ViewC v M::R)) (O:OkV M) :
  t_w n 203 [.ptr v 0,.int .i64 b] h λr h'=>r=.int .i64 (vo M b).1∧HS g h' (ViewC v (vo M b).2::R):=by
 refine t_e2 rfl omQ λk hk=>?_;unfold S203;try simp only[iZ]
 refine qG (Ow omQ H O) ?_;rintro _ h1 ⟨rfl,H1⟩;have hb:=Oo M b;have hO:=Yk (b:=b) O;have:=O.hi;unfold vo;refine qC rfl<|qC rfl<|qC rfl<|qV ?_;(try dsimp only)
 by_cases h2:(zq M b).1.2.2=0
 ·rw[iJ h2];refine qg omQ<|qV<|qa ?_;(try dsimp only)
  cases h3:(zq M b).1.2.1
  ·rw[iQ osQ];refine jA (qD (qZ (qV ?_)));refine qK omQ<|qJ (qV ?_);refine qK omQ<|qJ (qk ?_)
   exact qj ⟨rfl,H1⟩
  ·rw[iJ rfl];refine jk (qD (qJ (qV ?_)));refine qg omQ<|qZ (zJ omQ ?_);refine QV omQ<|qL rfl ?_
   simp;refine(qh H1 rfl rfl rfl rfl λv3 h3 H3=>?_);refine qG (KZ (cs:=[(b-1,(zq M b).1.1)]) omQ (H3.sel e_1) hO (.own .here) osQ) ?_;rintro _ h4 ⟨rfl,H4⟩;by_cases h5:(zw (zq M b).2 [(b-1,(zq M b).1.1)]).1=0
   ·rw[iJ h5];refine qV<|qg omQ<|qZ ?_
    refine qG (qjl omQ H4 (qQA hO)) ?_;intro _ h6 H6;refine qk<|qj ⟨by rw[h5],H6.pk [0] 1⟩
   ·rw[iQ h5];refine qV<|qK omQ<|qJ (qk ?_)
    exact qj ⟨rfl,H4.pk [0] 1⟩
 ·rw[iQ h2];refine qK omQ<|qV<|qT<|qE (qJ (qV ?_));refine qK omQ<|qJ (qV ?_);refine qK omQ<|qJ (qk ?_)
  exact qj ⟨rfl,H1⟩
theorem Zt {n:Nat} (hn:11≤n) {v:Nat} {M:VM} {b:Int} (H:HS g h (ViewC v M::R)) (O:OkV M) :
  t_w n 49 [.ptr v 0,.int .i64 b] h λr h'=>r=.int .i64 (zj M b).1∧HS g h' (ViewC v (zj M b).2::R):=by
 refine t_e2 rfl omQ λk hk=>?_;unfold S49;try simp only[iZ]
 refine qG (Ow omQ H O) ?_;rintro _ h1 ⟨rfl,H1⟩;have hb:=Oo M b;have hO:=Yk (b:=b) O;have:=O.hi;unfold zj;refine qC rfl<|qC rfl<|qC rfl<|qV ?_;(try dsimp only)
 by_cases h2:(zq M b).1.2.2=0
 ·rw[iJ h2];refine qg omQ<|qV<|qa<|qD ?_
  cases h3:(zq M b).1.2.1
  ·rw[iQ osQ];refine qJ (q9 omQ ?_);refine qJ (qG (Gc omQ omQ) ?_);rintro _ _ ⟨rfl,rfl⟩;refine qG (JD omQ H1 hO) ?_;rintro _ h4 ⟨rfl,H4⟩;refine qC rfl<|qC rfl ?_;by_cases h5:(qi (zq M b).2 (zq M b).1.1).1.2=0
   ·rw[iJ h5];refine q9 omQ<|qJ (qL rfl ?_);refine qG (Gc omQ omQ) ?_;rintro _ _ ⟨rfl,rfl⟩;refine QV omQ<|qL rfl (qh H4 rfl rfl rfl rfl λv5 h5 H5=>?_);refine qG (KZ (cs:=[(b,(qi (zq M b).2 (zq M b).1.1).1.1),((zq M b).1.1,b)]) omQ (H5.sel e_1) (yJ hO) (.own .here) osQ) ?_;rintro _ h6 ⟨rfl,H6⟩;refine qk<|qj ⟨rfl,H6.pk [0] 1⟩
   ·rw[iQ h5];refine jX omQ<|qZ (qk ?_);exact qj ⟨rfl,H4⟩
  ·rw[iJ rfl];refine qZ (jX omQ ?_);refine qZ (qk ?_);exact qj ⟨rfl,H1⟩
 ·rw[iQ h2];refine qK omQ<|qV<|qT<|qE (qJ (jX omQ ?_));refine qZ (qk ?_)
  exact qj ⟨rfl,H1⟩
theorem qGP {n:Nat} (hn:10≤n) {v:Nat} {M:VM} {c b:Int} (H:HS g h (ViewC v M::R)) (O:OkV M) (hc:1≤c∧c≤4) (hb:0≤b) :
  t_w n 271 [.ptr v 0,.int .i64 c,.int .u64 b] h λr h'=>r=.tup [.int .i64 (yw M c b).1.1,.int .i64 (yw M c b).1.2]∧HS g h' (ViewC v (yw M c b).2::R):=by
 refine t_e3 rfl omQ λk hk=>?_;unfold S271;try simp only[iZ]
 unfold yw;by_cases h1:2147483648≤b
 ·rw[iJ h1];refine zc omQ<|qZ<|qj ⟨rfl,H⟩
 ·rw[iQ h1];refine zF omQ<|qJ (xU omQ ?_);refine qG (JD omQ H O) ?_;rintro _ h3 ⟨rfl,H3⟩;refine qC rfl<|qC rfl<|qV ?_;(try dsimp only)
  by_cases h4:(qi M b).1.2=0
  ·rw[iJ h4];refine qg omQ<|qZ (qG (Gc omQ omQ) ?_);rintro _ _ ⟨rfl,rfl⟩;refine qL rfl (zJ omQ (qc omQ (QV omQ (qL rfl ?_))));refine qh H3 rfl rfl rfl rfl λv5 h5 H5=>?_;refine qG (KZ (cs:=[(c,(qi M b).1.1),(b-1,c+8)]) omQ (H5.sel e_1) (yJ O) (.own .here) osQ) ?_;rintro _ h6 ⟨rfl,H6⟩;by_cases h7:(zw (qi M b).2 [(c,(qi M b).1.1),(b-1,c+8)]).1=0
   ·rw[iJ h7];refine q9 omQ<|qJ (qk ?_);exact qj ⟨rfl,H6.pk [0] 1⟩
   ·rw[iQ h7];refine jX omQ<|qZ (qk ?_);exact qj ⟨rfl,H6.pk [0] 1⟩
  ·rw[iQ h4];refine qK omQ<|qJ (jX omQ ?_);refine qZ (qk ?_);exact qj ⟨rfl,H3⟩
theorem qGT {n:Nat} (hn:10≤n) {v:Nat} {M:VM} {c:Int} (H:HS g h (ViewC v M::R)) (O:OkV M) (W:WdV M) (hc:1≤c∧c≤4) :
  t_w n 272 [.ptr v 0,.int .i64 c] h λr h'=>r=.tup [.int .i64 (yx M c).1.1,.int .i64 (yx M c).1.2]∧HS g h' (ViewC v (yx M c).2::R):=by
 refine t_e2 rfl omQ λk hk=>?_;unfold S272;try simp only[iZ]
 unfold yx;refine qG (JD omQ H O) ?_;rintro _ h3 ⟨rfl,H3⟩;simp only[show((5:Nat):Int)=5 from rfl]at H3 ⊢;have hs:=OI c;refine qC rfl<|qC rfl ?_;by_cases h4:(qi M 5).1.2=0
 ·rw[iJ h4];refine q9 omQ<|qJ ?_;have hsz:(qi M 5).2.sz=M.sz:=qjp;by_cases h5:(qi M 5).1.1<14∨2147483648≤(qi M 5).1.1∨(M.sz:Int)<(qi M 5).1.1+1+gZ c
  ·rw[iJ h5];by_cases h6:(qi M 5).1.1<14
   ·refine jT omQ<|qV<|qs<|qD (qV ?_);refine qs<|qD (qZ ?_)
    exact qj ⟨rfl,H3⟩
   ·by_cases h7:2147483648≤(qi M 5).1.1
    ·refine jD omQ<|qV<|qe<|zc omQ<|qE (qV ?_);refine qs<|qD (qZ ?_)
     exact qj ⟨rfl,H3⟩
    ·refine jD omQ<|qV<|qe<|zF omQ<|qE (qV ?_);refine qe<|xU omQ<|qc omQ ?_
     refine qG (KV omQ) ?_;rintro _ _ ⟨rfl,rfl⟩;refine qc omQ<|qG (G8 omQ H3) ?_;rintro _ _ ⟨rfl,rfl⟩;rw[hsz];refine yp omQ<|qE (qZ ?_);exact qj ⟨rfl,H3⟩
  ·rw[iQ h5];refine jD omQ<|qV<|qe<|zF omQ<|qE (qV ?_);refine qe<|xU omQ<|qc omQ ?_
   refine qG (KV omQ) ?_;rintro _ _ ⟨rfl,rfl⟩;refine qc omQ<|qG (G8 omQ H3) ?_;rintro _ _ ⟨rfl,rfl⟩;rw[hsz];refine yT omQ<|qE (qJ (xU omQ ?_));refine qc omQ<|qG (KV omQ) ?_;rintro _ _ ⟨rfl,rfl⟩;refine qc omQ (QV omQ (qL rfl (qc omQ (QV omQ (qL rfl ?_)))));refine qh H3 rfl rfl rfl rfl λv5 h5 H5=>?_;refine qG (KZ (cs:=[(5,(qi M 5).1.1+1+gZ c),((qi M 5).1.1,c+8)]) omQ (H5.sel e_1) (yJ O) (.own .here) osQ) ?_;rintro _ h6 ⟨rfl,H6⟩;by_cases h7:(zw (qi M 5).2 [(5,(qi M 5).1.1+1+gZ c),((qi M 5).1.1,c+8)]).1=0
   ·rw[iJ h7];refine q9 omQ<|qJ (qc omQ ?_);exact qj ⟨rfl,H6.pk [0] 1⟩
   ·rw[iQ h7];refine jX omQ<|qZ<|qj ⟨rfl,H6.pk [0] 1⟩
 ·rw[iQ h4];refine jX omQ<|qZ<|qj ⟨rfl,H3⟩
theorem qV5 {n:Nat} (hn:11≤n) {v:Nat} {M:VM} {x:Int} (H:HS g h (ViewC v M::R)) (O:OkV M) (W:WdV M) :
  t_w n 202 [.ptr v 0,.int .i64 x] h λr h'=>r=.tup [.int .i64 (xG M x).1.1,.int .i64 (xG M x).1.2]∧HS g h' (ViewC v (xG M x).2::R):=by
 refine t_e2 rfl omQ λk hk=>?_;unfold S202;try simp only[iZ]
 refine qG (qWH omQ) ?_;rintro _ _ ⟨rfl,rfl⟩;have hc:=qJS x;unfold xG;by_cases h1:xe x=0
 ·rw[iJ h1];refine qg omQ<|qZ<|qj ⟨rfl,H⟩
 ·rw[iQ h1];refine qK omQ<|qJ (qG (Gc omQ hc) ?_);rintro _ _ ⟨rfl,rfl⟩;refine qG (JD omQ H O) ?_;rintro _ h3 ⟨rfl,H3⟩;have hw:=W.read (p:=xe x);refine qC rfl<|qC rfl ?_;by_cases h4:(qi M (xe x)).1.2=0
  ·rw[iJ h4];by_cases h5:(qi M (xe x)).1.1=0
   ·rw[iJ h5];refine q9 omQ<|qJ (q9 omQ ?_);refine qJ (qG (qGT omQ H3 (yJ O) W.read2 omQ) ?_);rintro _ h6 ⟨rfl,H6⟩;refine qC rfl<|qC rfl<|qj ⟨rfl,H6⟩
   ·rw[iQ h5];refine q9 omQ<|qJ (jX omQ ?_);refine qZ (qG (qGP omQ H3 (yJ O) omQ hw.1) ?_);rintro _ h6 ⟨rfl,H6⟩;refine qC rfl<|qC rfl<|qj ⟨rfl,H6⟩
  ·rw[iQ h4];refine jX omQ<|qZ<|qj ⟨rfl,H3⟩
def VK (n:Int):List Int:=(List.replicate (szZ n) (0:Int)).set 5 14
theorem qGf {n:Nat} (hn:1≤n) {x:Int} (H:HS g h R):t_w n 29 [.int .i64 x] h λv h'=>∃e,HS g h' (qy e 1 (szZ x) v ((VK x).map (.int .u64))::R):=by
 refine t_e1 rfl omQ λk hk=>?_;unfold S29;try simp only[iZ]
 have hb:=MV x;refine ju (zD ?_);rw[show max ((32:Nat):Int) (min x ((256:Nat):Int))=((szZ x:Nat):Int) by unfold szZ;omega];refine Xe H omQ λv h2 H2=>?_;refine Yo H2 omQ ⟨rfl,rfl⟩ λh3 H3=>?_;unfold VK;rw[List.map_set,List.map_replicate];exact qj ⟨_,H3⟩
end
section
variable {g h:AH} {L R:List SP}
end
section
def zZ (x lo hi:Int):Int:=lo+(if x.tmod (hi-lo+1)<0 then x.tmod (hi-lo+1)+(hi-lo+1)else x.tmod (hi-lo+1))
theorem XK (x:Int) {m:Int} (hm:0<m):-m<x.tmod m∧x.tmod m<m:=by refine⟨?_,Int.tmod_lt_of_pos x hm⟩;have:=Int.tmod_lt_of_pos (-x) hm;rw[Int.neg_tmod]at this;omega
theorem zS (x:Int) {lo hi:Int} (h:lo≤hi):lo≤zZ x lo hi∧zZ x lo hi≤hi:=by
 have:=XK x (show 0<hi-lo+1 by omega);unfold zZ
 split<;>omega
theorem x8 {n:Nat} (hn:1≤n) {x lo hi:Int} {h:AH} (h1:lo≤hi) (h2:-1000000000≤lo) (h3:hi≤1000000000) :
  t_w n 25 [.int .i64 x,.int .i64 lo,.int .i64 hi] h λv h'=>v=.int .i64 (zZ x lo hi)∧h'=h:=by
 refine t_e3 rfl omQ λk hk=>?_;unfold S25;try simp only[iZ]
 simp;have hb:=XK x (show 0<hi-lo+1 by omega);unfold zZ
 repeat' (first |(first |refine qZ ?_ |refine qJ ?_ |(refine qa ?_;try dsimp only) |(refine qs ?_;try dsimp only) |(refine qT ?_;try dsimp only) |(refine qe ?_;try dsimp only) |(refine zK ?_;try dsimp only) |refine qD ?_ |refine qE ?_ |(with_reducible refine qV ?_;try dsimp only) |with_reducible refine qk ?_ |refine jk ?_ |refine jA ?_ |refine qc omQ ?_ |refine zJ omQ ?_ |refine xr omQ ?_ |refine yy omQ ?_ |refine ju ?_ |refine zD ?_) |refine JT omQ ?_ |(first |refine zL (λhc=>?_) (λhc=>?_) |refine kV (λhc=>?_) (λhc=>?_) |refine kG (λhc=>?_) (λhc=>?_) |refine yC (λhc=>?_) (λhc=>?_) |refine gK (λhc=>?_) (λhc=>?_) |refine yS (λhc=>?_) (λhc=>?_) |refine wG (λhc=>?_) (λhc=>?_)))
 all_goals refine qj ⟨?_,rfl⟩
 all_goals congr 1
 all_goals (first |rw[iJ omQ] |rw[iQ omQ])
 all_goals omega
end
section
theorem qY6 {D1 D2:Nat→Prop} {n p q:Nat} (hn:1≤n) {a b:AV} {xs ys:List Int} {h:AH} (S1:Sl D1 h 1 p a (xs.map (.int .u64))) (S2:Sl D2 h 1 q b (ys.map (.int .u64))) (hp:p<1000000000) :
  t_w n 14 [a,b] h λv h'=>v=.bool (decide (xs=ys))∧h'=h:=by
 have hxl:xs.length=p:=by simpa using S1.len
 have hyl:ys.length=q:=by simpa using S2.len
 refine t_e2 rfl omQ λk hk=>?_;unfold S14;try simp only[iZ]
 refine zu S1 (zu S2 (yS (λhne=>?_) λheq=>?_))
 ·refine qZ (qj ⟨?_,rfl⟩);rw[iV];rintro rfl;exact hne omQ
 ·refine qJ (jM (λm s g=>∃i:Nat,s=(.int .i64 (i:Int),b,a,())∧i≤p∧m=p-i∧g=h∧xs.take i=ys.take i) ?_ omQ ⟨0,rfl,by omega,by omega,rfl,rfl⟩);rintro m ih s g hih ⟨i,rfl,h1,rfl,rfl,h2⟩;refine zu S1 (zL (λhlt=>qZ ?_) λhge=>qJ (qk (qj ⟨?_,rfl⟩)))
  ·have hi:i<p:=by omega
   refine jO S1 (by rw[List.getElem?_map,iW omQ];rfl)<|jO S2 (by rw[List.getElem?_map,iW omQ];rfl)<|yS (λhne=>qZ (qk (qj ⟨?_,rfl⟩))) λhe=>qJ (qc omQ ?_)
   ·rw[iV];rintro rfl;exact hne rfl
   ·refine hih (p-(i+1)) _ _ omQ ⟨i+1,rfl,by omega,rfl,rfl,?_⟩;rw[List.take_succ_eq_append_getElem omQ,List.take_succ_eq_append_getElem omQ,h2,he]
  ·rw[iG];rw[List.take_of_length_le omQ,List.take_of_length_le omQ]at h2;exact h2
end
section
theorem qVf {l:List ES} {a b:List AV} {K:AV→Go.Ae.R} {Q:AV→AH→Prop} {neg:Bool} {p:Prop} [Decidable p] (e:xO l a b=some (decide p)) (h1:p→wp (K (.bool (!neg))) Q) (h2:¬p→wp (K (.bool neg)) Q):wp (G4 l neg (.agg a) (.agg b) K) Q:=by
 unfold G4;simp only[e,ob];by_cases h:p
 ·have:=h1 h;simpa[h]using this
 ·have:=h2 h;simpa[h]using this
end
section
variable {g h:AH} {L R:List SP}
def AskP (M M':VM):Prop:=M'.sz=M.sz∧M'.K=M.K∧M'.most=M.most∧(M'.need=M.need∨M'.lv=M.lv∧1≤M'.need∧M'.need<M.sz∧zg M'.need M.K=none)
theorem AskP.refl (M:VM):AskP M M:=⟨rfl,rfl,rfl,.inl rfl⟩
theorem Ki {M:VM} {p:Int} (h:(qi M p).1.2=0):(qi M p).2=M:=by
 unfold qi at h ⊢
 split
 ·rename_i h1;rw[iJ h1]at h
  split
  ·rfl
  ·rename_i h2;rw[h2]at h;dsimp only at h ⊢
   split
   ·rfl
   ·rename_i h3;rw[h3]at h;cases h
 ·rfl
theorem Us (M:VM) (p:Int):AskP M (qi M p).2:=by
 unfold qi
 split
 ·rename_i h1
  split
  ·exact .refl M
  ·split
   ·exact .refl M
   ·rename_i h3;exact⟨rfl,rfl,rfl,.inr ⟨rfl,h1.1,h1.2,h3⟩⟩
 ·exact .refl M
theorem qg8 (M:VM) (b:Int):AskP M (zq M b).2∧((zq M b).1.2.2=0→(zq M b).2=M):=by
 unfold zq
 split
 ·exact⟨.refl M,λ_=>rfl⟩
 ·split
  ·rename_i h1
   split
   ·exact⟨Us M _,λ_=>Ki h1⟩
   ·exact⟨Us M _,λ_=>Ki h1⟩
  ·rename_i h1;exact⟨Us M _,λh=>absurd h h1⟩
theorem frS_put {most:Nat} {lv:List LvM} {p v:Int}:frS (gw most lv p v).2=frS lv:=by
 cases lv with
 |nil=>rfl
 |cons x r=>obtain⟨c,hc⟩:=KS;rw[hc,QF,QF]
theorem qYt {most:Nat} {was:List LvM}:∀{cs:List Cl} {lv:List LvM},frS lv=frS was→frS (vt most was lv cs).2=frS was:=by
 intro cs
 induction cs with
 |nil=>intro lv h;exact h
 |cons c cs ih=>
  intro lv h;rw[gC]
  split
  ·exact ih (frS_put.trans h)
  ·rfl
theorem wx {M:VM} {cs:List Cl}:frS (zw M cs).2.lv=frS M.lv:=by
 unfold zw
 split
 ·exact qYt rfl
 ·rfl
theorem yZ {M:VM} {p:Int}:frS (qi M p).2.lv=frS M.lv:=by
 unfold qi
 repeat' split
 all_goals rfl
theorem QJ {M:VM} {b:Int}:frS (zq M b).2.lv=frS M.lv:=by
 unfold zq
 repeat' split
 all_goals first |rfl |exact yZ
theorem qWR {lv:List LvM} {b:Int}:frS (XF lv b)≤frS lv+1:=by
 cases lv with
 |nil=>simp[XF]
 |cons x r=>show frS ((x.1,x.2++[b])::r)≤_;rw[QF,QF,List.length_append];simp;omega
theorem qyN:∀{lv:List LvM} {x:LvM},x∈lv→x.2.length≤frS lv:=by
 intro l
 induction l with
 |nil=>intro x hx;cases hx
 |cons y r ih=>
  intro x hx;rw[QF];rcases List.mem_cons.1 hx with rfl |hx
  ·omega
  ·have:=ih hx;omega
structure jI (M:VM):Prop where
  ok:OkV M
  wd:WdV M
theorem jI.read {M:VM} {p:Int} (G:jI M):jI (qi M p).2:=⟨yJ G.ok,G.wd.read2⟩
theorem jI.take {M:VM} {cs:List Cl} (G:jI M) (h:WdC cs):jI (zw M cs).2:=⟨qQA G.ok,G.wd.take h⟩
theorem jI.ask {M:VM} {b:Int} (G:jI M):jI (zq M b).2:=⟨Yk G.ok,qwC G.wd⟩
theorem WdC.two {a b:Cl} (ha:0≤a.2∧a.2<18446744073709551616) (hb:0≤b.2∧b.2<18446744073709551616):WdC [a,b]:=by
 intro c hc;rcases List.mem_cons.1 hc with rfl |hc
 ·exact ha
 ·rw[List.mem_singleton]at hc;subst hc;exact hb
theorem WdC.one1 {a:Cl} (ha:0≤a.2∧a.2<18446744073709551616):WdC [a]:=by intro c hc;rw[List.mem_singleton]at hc;subst hc;exact ha
theorem jI.freeV {M:VM} {b:Int} (G:jI M) (hf:frS M.lv<90000):jI (freeV M b):=by
 refine⟨qzu G.ok λx hx=>by have:=qyN hx;omega,G.wd.k,?_⟩;show∀x∈XF M.lv b,∀c∈x.1,0≤c.2∧c.2<18446744073709551616;have:=G.wd.l;cases hl:M.lv with
 |nil=>intro x hx;cases hx
 |cons y r=>
  rw[hl]at this;intro x hx;rcases List.mem_cons.1 hx with rfl |hx
  ·exact this y (iK ..)
  ·exact this x (iX _ hx)
theorem jI.free {M:VM} {b:Int} (G:jI M) (hf:frS M.lv<90000):jI (vo M b).2∧frS (vo M b).2.lv≤frS M.lv+1:=by
 have hb:=Oo M b;have hc:WdC [(b-1,(zq M b).1.1)]:=.one1 ⟨hb.1,by omega⟩;unfold vo
 repeat' split
 ·refine⟨(G.ask.take hc).freeV (by rw[wx,QJ];exact hf),?_⟩;have:=qWR (lv:=(zw (zq M b).2 [(b-1,(zq M b).1.1)]).2.lv) (b:=b);rw[wx,QJ]at this;exact this
 ·exact⟨G.ask.take hc,by rw[wx,QJ];omega⟩
 ·exact⟨G.ask,by rw[QJ];omega⟩
 ·exact⟨G.ask,by rw[QJ];omega⟩
theorem jI.give {M:VM} {b:Int} (G:jI M):jI (zj M b).2∧frS (zj M b).2.lv=frS M.lv:=by
 have hb:=Oo M b;have hO:=G.ok.hi;unfold zj
 split
 ·rename_i h1;have hbb:=hb.2.2 h1
  split
  ·exact⟨G.ask,QJ⟩
  ·split
   ·refine⟨(G.ask.read).take (.two G.ask.wd.read ⟨by omega,by omega⟩),by rw[wx,yZ,QJ]⟩
   ·exact⟨G.ask.read,by rw[yZ,QJ]⟩
 ·exact⟨G.ask,QJ⟩
theorem jI.again {M:VM} {c b:Int} (G:jI M) (hc:0≤c∧c≤4):jI (yw M c b).2∧frS (yw M c b).2.lv=frS M.lv:=by
 have ht:WdC [(c,(qi M b).1.1),(b-1,c+8)]:=.two G.wd.read ⟨by omega,by omega⟩;unfold yw
 repeat' split
 ·exact⟨G,rfl⟩
 ·exact⟨G.read.take ht,by rw[wx,yZ]⟩
 ·exact⟨G.read.take ht,by rw[wx,yZ]⟩
 ·exact⟨G.read,yZ⟩
theorem jI.grown {M:VM} {c:Int} (G:jI M) (hc:0≤c∧c≤4):jI (yx M c).2∧frS (yx M c).2.lv=frS M.lv:=by
 have hs:=OI c;unfold yx
 split
 ·split
  ·exact⟨G.read,yZ⟩
  ·rename_i h1;have ht:WdC [(5,(qi M 5).1.1+1+gZ c),((qi M 5).1.1,c+8)]:=.two ⟨by omega,by omega⟩ ⟨by omega,by omega⟩
   split
   ·exact⟨G.read.take ht,by rw[wx,yZ]⟩
   ·exact⟨G.read.take ht,by rw[wx,yZ]⟩
 ·exact⟨G.read,yZ⟩
theorem jI.alloc {M:VM} {x:Int} (G:jI M):jI (xG M x).2∧frS (xG M x).2.lv=frS M.lv:=by
 have hc:=qJS x;unfold xG
 repeat' split
 ·exact⟨G,rfl⟩
 ·exact⟨(G.read.grown hc).1,by rw[(G.read.grown hc).2,yZ]⟩
 ·exact⟨(G.read.again hc).1,by rw[(G.read.again hc).2,yZ]⟩
 ·exact⟨G.read,yZ⟩
theorem jI.openG {M:VM} (G:jI M):jI (vj M).2∧frS (vj M).2.lv=frS M.lv:=by
 have e:(QI M.lv).2=M.lv∨(QI M.lv).2=([],[])::M.lv:=by unfold QI;split<;>simp
 refine⟨⟨⟨G.ok.lo,G.ok.hi,qx5 G.ok.lvs,G.ok.ins,G.ok.un,?_⟩,G.wd.k,?_⟩,?_⟩
 ·show∀x∈(QI M.lv).2,_;rcases e with e |e
  ·rw[e];exact G.ok.fr
  ·rw[e];intro x hx;rcases List.mem_cons.1 hx with rfl |hx
   ·simp
   ·exact G.ok.fr x hx
 ·show∀x∈(QI M.lv).2,_;rcases e with e |e
  ·rw[e];exact G.wd.l
  ·rw[e];intro x hx;rcases List.mem_cons.1 hx with rfl |hx
   ·intro c hc;cases hc
   ·exact G.wd.l x hx
 ·show frS (QI M.lv).2=_;rcases e with e |e
  ·rw[e]
  ·rw[e,QF];simp
theorem jI.dropG {M:VM} (G:jI M):jI (xi M).2∧frS (xi M).2.lv≤frS M.lv:=by
 have e:(QH M.lv).2=M.lv∨(QH M.lv).2=M.lv.tail:=by unfold QH;split<;>simp
 have hs:∀x∈(QH M.lv).2,x∈M.lv:=by
  rcases e with e |e
  ·rw[e];exact λx hx=>hx
  ·rw[e];exact λx hx=>List.mem_of_mem_tail hx
 refine⟨⟨⟨G.ok.lo,G.ok.hi,qzs G.ok.lvs,G.ok.ins,G.ok.un,λx hx=>G.ok.fr x (hs x hx)⟩,G.wd.k,λx hx=>G.wd.l x (hs x hx)⟩,?_⟩;show frS (QH M.lv).2≤_;rcases e with e |e
 ·rw[e];exact Nat.le_refl _
 ·rw[e];cases M.lv with
  |nil=>exact Nat.le_refl _
  |cons x r=>rw[QF];show frS r≤_;omega
theorem jI.keepG {M:VM} (G:jI M) (hf:frS M.lv<90000):jI (vS M).2∧frS (vS M).2.lv=frS M.lv:=by
 have hd:=qxp G.ok.lvs;have hfr:=λx (hx:x∈(Jv M.lv).2)=>qyN hx;obtain⟨sz,K,most,lv,need⟩:=M;rcases lv with _ |⟨x,_ |⟨y,r⟩⟩
 ·exact⟨G,rfl⟩
 ·exact⟨G,rfl⟩
 ·have e:=qqa (x:=x) (y:=y) (r:=r);refine⟨⟨⟨G.ok.lo,G.ok.hi,hd,G.ok.ins,G.ok.un,λz hz=>?_⟩,G.wd.k,λz hz=>?_⟩,e⟩
  ·have:=hfr z hz;rw[e]at this;have hf:frS (x::y::r)<90000:=hf;omega
  ·have hl:=G.wd.l;have hx:WdC x.1:=hl x osQ;have hy:WdC y.1:=hl y osQ;rcases List.mem_cons.1 hz with rfl |hz
   ·exact hy.puts hx
   ·exact hl z (by simp[hz])
end
section
variable {g h:AH} {L R:List SP}
abbrev ItT:Type:=Int×Int
def itS (x:ItT):List UInt8:=if x.1=1 then Lib.decDigits x.2.toNat else if x.1=2 then(if x.2=1 then[121,101,115]else[110,111])else[110,111,110,101]
def Qm (x:ItT):AV:=if x.1=1 then .iface 22 (.int .u64 x.2)else if x.1=2 then .iface 4 (.bool (decide (x.2=1)))else .iface 345 (.agg [])
def qxF (x:ItT):Prop:=0≤x.2∧x.2<18446744073709551616
def qZD (l:List ItT):List UInt8:=Lib.join (l.map itS) [32]
theorem YB (x:ItT):One (Qm x):=by unfold Qm;(repeat' split)<;>exact⟨rfl,rfl⟩
theorem V2 (l:List ItT):qp (l.map Qm)=true:=by unfold qp;rw[List.all_eq_true];intro v hv;obtain⟨x,_,rfl⟩:=List.mem_map.1 hv;exact(YB x).2
theorem NA {s:List UInt8} {k1 k2:IntKind} {lo hi:Nat} {K:AV→Go.Ae.R} {Q:AV→AH→Prop} (h1:lo≤hi) (h2:hi≤s.length) (w:wp (K (.str ((s.drop lo).take (hi-lo)))) Q):wp (gX (.str s) (some (.int k1 (lo:Int))) (some (.int k2 (hi:Int))) K) Q:=by unfold gX;simp only[xD h2,xD h1,ob,kI];rw[gn (by rw[List.length_drop];omega)];exact w
theorem qka {n:Nat} (hn:1≤n) {i:Nat} (hi:i<100):t_w n 279 [.int .i64 (i:Int)] h λr h'=>r=.str (Lib.decDigits i)∧h'=h:=by
 (refine qB rfl omQ λk hk=>?_;show wp (S279 (callT tab qx k) _ _) _;unfold S279;try simp only[iI,uU,iZ])
 by_cases h1:i<10
 ·refine jT omQ (qZ ?_);refine qc omQ ?_;rw[show(i:Int)+((1:Nat):Int)=((i+1:Nat):Int) by omega];refine NA omQ (by show i+1≤36;omega) (qj ⟨?_,rfl⟩);rw[← Lib.digits36_piece h1]
  congr 2
 ·refine jD omQ (qJ ?_);refine UN omQ (UN omQ (qc omQ ?_));rw[show(i:Int)*((2:Nat):Int)+((2:Nat):Int)=((i*2+2:Nat):Int) by omega,show(i:Int)*((2:Nat):Int)=((i*2:Nat):Int) by omega];refine NA omQ (by show i*2+2≤200;omega) (qj ⟨?_,rfl⟩);rw[← Lib.smalls_piece h1 hi]
  congr 2
theorem nd_ok {n:Nat} (hn:1≤n) {u:Nat} (h1:1≤u) (h2:u<18446744073709551616):t_w n 280 [.int .u64 (u:Int)] h λr h'=>r=.int .i64 (Lib.nDigits u:Int)∧h'=h:=by refine qB rfl omQ λk hk=>?_;show wp (xNd _ [.int .u64 (.ofNat u)] h) _;unfold xNd;dsimp only;rw[iY h1,iY (show u+1≤18446744073709551616 by omega)];exact⟨_,_,rfl,rfl,rfl⟩
theorem qz0:∀(bs:List UInt8),qYm (bs.map λc=>.int .u8 (.ofNat c.toNat))=some bs:=by
 intro bs
 induction bs with
 |nil=>rfl
 |cons b bs ih=>rw[List.map_cons];unfold qYm;rw[ih,iY (show b.toNat+1≤256 from b.toNat_lt)];simp
theorem fb_ok {n:Nat} (hn:1≤n) {b u nd:Nat} {bs:List UInt8} {ys:List AV} (H:HS g h (qw b ((bs.map λc=>.int .u8 (.ofNat c.toNat))++ys)::R)) (hb:bs.length=nd) (h1:u<10 ^ nd) (h2:u<18446744073709551616) (h3:nd≤100) (hys:qp ys=true) :
  t_w n 281 [.slice b 0 nd 24 false,.int .u64 (u:Int)] h λr h'=>HS g h' (qw b (dgs nd u++ys)::R):=by
 refine qB rfl omQ λk hk=>?_;show wp (xFb _ [.slice b 0 nd 24 false,.int .u64 (.ofNat u)] h) _;obtain⟨D,⟨hD,e,A⟩,hb2,kk⟩:=H.act;obtain⟨c,c1,c2,c3⟩:=A.blk;unfold xFb;simp only[c1,c2];rw[List.take_append_of_le_length (by simp;omega),List.take_of_length_le (by simp;omega),qz0];simp only[];rw[show Nat.beq bs.length nd=true from by rw[hb];exact Nat.beq_refl _,iY (show u+1≤10 ^ nd by omega),iY (show u+1≤18446744073709551616 by omega),iY h3];simp;rw[List.drop_append_of_le_length (by simp;omega),List.drop_of_length_le (by simp;omega),List.nil_append];refine⟨_,_,rfl,kk _ (qw b (dgs nd u++ys)) D ⟨by simp,λa ha hn=>AH.get_put_ne h _ λe=>hn ((hD a).2 e.symm)⟩ ⟨hD,e,by simpa using A.lt,CT.ofList _,AH.get_put_same ..,CT.ofList_ok _,CT.full_ofList _⟩ λa ha=>⟨.inl ha,by simpa using(hb2 a ha).2⟩⟩
theorem qKd:∀(xs:List (List UInt8)),Kr (xs.map .str)=some xs:=by
 intro xs
 induction xs with
 |nil=>rfl
 |cons x xs ih=>rw[List.map_cons];unfold Kr;rw[ih];rfl
theorem qwa {n:Nat} (hn:1≤n) {b m:Nat} {e:TypeId} {xs:List (List UInt8)} {sep:List UInt8} (H:HS g h (Cell b (xs.map .str) e false::R)) (hm:xs.length=m) (h1:m≤1000000) (h2:(Lib.join xs sep).length≤1000000) :
  t_w n 90 [.slice b 0 m m false,.str sep] h λr h'=>r=.str (Lib.join xs sep)∧h'=h:=by
 refine qB rfl omQ λk hk=>?_;show wp (qQ7 _ [.slice b 0 m m false,.str sep] h) _;obtain⟨D,hD,A⟩:=H.p .here;obtain⟨c,c1,c2,c3⟩:=A.blk;unfold qQ7;simp only[c1,c2,List.drop_zero];rw[List.take_of_length_le (by simp;omega),qKd];simp only[];rw[show Nat.beq xs.length m=true from by rw[hm];exact Nat.beq_refl _,iY (Nat.le_refl m),iY h1,iY h2];exact⟨_,_,rfl,rfl,rfl⟩
theorem qW9 (nd u:Nat):Qn (dgs nd u)=some ((List.range nd).map λt=>Lib.dg u (nd-1-t)):=by
 unfold dgs;have key:∀l:List Nat,Qn (l.map λt=>AV.int .u8 (.ofNat (Lib.dg u (nd-1-t)).toNat))=some (l.map λt=>Lib.dg u (nd-1-t)):=by
  intro l
  induction l with
  |nil=>rfl
  |cons a l ih=>rw[List.map_cons];unfold Qn;rw[ih];simp
 exact key _
theorem qGO {n:Nat} (hn:2≤n) {u:Nat} (h2:u<18446744073709551616) (H:HS g h R):t_w n 210 [.int .u64 (u:Int),.int .i64 10] h λr h'=>r=.str (Lib.decDigits u)∧HS g h' R:=by
 refine t_e2 rfl omQ λk hk=>?_;unfold S210;try simp only[iZ]
 refine qg rfl (qZ ?_);by_cases h1:u<100
 ·refine jT omQ (qZ ?_);refine xU omQ<|qG (qka omQ h1) ?_;rintro _ _ ⟨rfl,rfl⟩;exact qj ⟨rfl,H⟩
 ·refine jD omQ (qJ ?_);refine qP H rfl λb h3 H3=>?_;have hnd:=Lib.nDigits_le20 u h2;have hlt:=Lib.lt_pow_nDigits u;have hdec:=Lib.decDigits_eq u;refine qG (nd_ok omQ omQ h2) ?_;generalize Lib.nDigits u=nd at*;have H4:HS g h3 (qw b (((List.replicate nd (0:UInt8)).map λc=>.int .u8 (.ofNat c.toNat))++List.replicate (24-nd) (.int .u8 (.ofNat 0)))::R):=by
   have e:(List.replicate nd (0:UInt8)).map (λc=>AV.int .u8 (.ofNat c.toNat))++List.replicate (24-nd) (AV.int .u8 (.ofNat 0))=List.replicate 24 (AV.int .u8 (.ofNat 0)):=by rw[List.map_replicate];show List.replicate nd (AV.int .u8 (.ofNat 0))++_=_;rw[List.replicate_append_replicate,show nd+(24-nd)=24 by omega]
   rw[e];exact H3
  rintro _ _ ⟨rfl,rfl⟩;have hcut:∀(K:AV→Go.Ae.R) (Q:AV→AH→Prop),wp (K (.slice b 0 nd 24 false)) Q→wp (gk 24 1 (.ptr b 0) none (some (.int .i64 (nd:Int))) K) Q:=by intro K Q w;unfold gk;simp only[xD (show nd≤24 by omega),ob,show yb none nd 0=some 0 from rfl];exact w
  refine hcut _ _<|qG (fb_ok omQ H4 osQ hlt h2 omQ (by unfold qp;rw[List.all_eq_true];intro y hy;rw[List.eq_of_mem_replicate hy];rfl)) ?_;intro _ h5 H5;refine hcut _ _ ?_;obtain⟨e,A⟩:=H5.obj .here;unfold Vv;dsimp only;rw[Vh A (by simp[JM]),List.drop_zero,List.take_append_of_le_length (by rw[JM];exact Nat.le_refl _),List.take_of_length_le (by rw[JM];exact Nat.le_refl _)];simp only[ob,qW9];exact qj ⟨by rw[hdec],H5.drop⟩
theorem qKH {n:Nat} (hn:3≤n) {u:Int} (h0:0≤u) (h2:u<18446744073709551616) (H:HS g h R):t_w n 144 [.int .u64 u,.int .i64 10] h λr h'=>r=.str (Lib.decDigits u.toNat)∧HS g h' R:=by
 refine t_e2 rfl omQ λk hk=>?_;unfold S144;try simp only[iZ]
 obtain⟨m,rfl⟩:∃m:Nat,u=m:=⟨u.toNat,by omega⟩;refine qG (qGO omQ omQ H) ?_;rintro _ h3 ⟨rfl,H3⟩;exact qj ⟨rfl,H3⟩
theorem qKm {t:TypeId} {z x:AV} {K:AV→Go.Ae.R} {Q:AV→AH→Prop} (w:wp (K (.tup [x,.bool true])) Q):wp (x9 t z (.iface t x) K) Q:=by show wp (bif Nat.beq t t then _ else _) Q;rw[Nat.beq_refl];exact w
theorem Zx {t u:TypeId} {z x:AV} {K:AV→Go.Ae.R} {Q:AV→AH→Prop} (h:Nat.beq u t=false) (w:wp (K (.tup [z,.bool false])) Q):wp (x9 t z (.iface u x) K) Q:=by show wp (bif Nat.beq u t then _ else _) Q;rw[h];exact w
theorem qgB {n:Nat} (hn:4≤n) {x:ItT} (hx:qxF x) (H:HS g h R):t_w n 89 [Qm x] h λr h'=>r=.str (itS x)∧HS g h' R:=by
 (refine qB rfl omQ λk hk=>?_;show wp (S89 (callT tab qx k) _ _) _;unfold S89;try simp only[iI,uU,iZ])
 unfold Qm itS;by_cases h1:x.1=1
 ·rw[iJ h1,iJ h1];refine qKm (qC rfl (qC rfl (qZ ?_)));refine qG (qKH omQ hx.1 hx.2 H) ?_;rintro _ h3 ⟨rfl,H3⟩;exact qj ⟨rfl,H3⟩
 ·rw[iQ h1,iQ h1];by_cases h2:x.1=2
  ·rw[iJ h2,iJ h2];refine Zx rfl<|qC rfl (qC rfl (qJ ?_));refine qKm (qC rfl (qC rfl (qZ ?_)));by_cases h3:x.2=1
   ·rw[iG h3,iJ h3];exact qZ (qj ⟨rfl,H⟩)
   ·rw[iV h3,iQ h3];exact qJ (qj ⟨rfl,H⟩)
  ·rw[iQ h2,iQ h2];refine Zx rfl<|qC rfl (qC rfl (qJ ?_));refine Zx rfl<|qC rfl (qC rfl (qJ (qj ⟨rfl,H⟩)))
theorem qvC (x:ItT) (hx:qxF x):(itS x).length≤20:=by
 unfold itS;have h2:=hx.2
 split
 ·rw[Lib.decDigits_length];exact Lib.nDigits_le20 _ omQ
 ·split
  ·split<;>decide
  ·decide
theorem qzD {m:Nat}:∀(xs:List (List UInt8)),(∀x∈xs,x.length≤m)→(Lib.join xs [32]).length≤xs.length*(m+1):=by
 intro xs hx;cases xs with
 |nil=>simp[Lib.join_nil]
 |cons x r=>
  rw[Lib.join_cons,List.length_append];have h1:=hx x (iK ..);have h2:∀r:List (List UInt8),(∀x∈r,x.length≤m)→(Lib.joinTail [32] r).length≤r.length*(m+1):=by
   intro r
   induction r with
   |nil=>intro _;simp[Lib.joinTail]
   |cons y r ih=>intro h;have a:=h y (iK ..);have b:=ih λz hz=>h z (iX _ hz);unfold Lib.joinTail at*;simp only[List.map_cons,List.flatten_cons,List.length_append,List.length_cons,List.length_nil,Nat.add_mul];omega
  have h3:=h2 r λz hz=>hx z (iX _ hz);rw[List.length_cons,Nat.add_mul];omega
theorem qki {l:List ItT} (hl:l.length≤1000) (hi:∀x∈l,qxF x):(qZD l).length≤1000000:=by unfold qZD;have:=qzD (l.map itS) (λy hy=>by obtain⟨x,hx,rfl⟩:=List.mem_map.1 hy;exact qvC x (hi x hx));rw[List.length_map]at this;omega
theorem qq2 {e:TypeId} {z:AV} {n:Nat} {k1 k2:IntKind} {K2:AV→AH→Go.Ae.R} {Q:AV→AH→Prop} (H:HS g h L) (h2:n≤1073741824)
  (w:∀b h',HS g h' (Cell b (List.replicate n z) e false::L)→wp (K2 (.slice b 0 n n false) h') Q):wp (Qv h e [z] (.int k1 (n:Int)) (.int k2 (n:Int)) K2) Q:=by
 refine ZA (Nat.le_refl n) h2 λb h' hb A F=>w b h' (H.add (D':=λa=>a=b) F.none ⟨λa=>Iff.rfl,by rw[VW]at A;exact A⟩ ?_);rintro a rfl;exact⟨hb,A.lt⟩
def SlaC (o:Nat) (l:List ItT):SP:=.ex λsv=>.all [qw o [sv],qy 20 1 l.length sv (l.map Qm)]
theorem SlaC.E {o:Nat} {l:List ItT} (H:HS g h (SlaC o l::R)):∃sv,HS g h (qw o [sv]::qy 20 1 l.length sv (l.map Qm)::R):=by obtain⟨sv,H⟩:=H.exE;exact⟨sv,H.allE⟩
theorem SlaC.I {o:Nat} {l:List ItT} {sv:AV} (H:HS g h (qw o [sv]::qy 20 1 l.length sv (l.map Qm)::R)):HS g h (SlaC o l::R):=HS.exI sv H.allI
theorem qVS {n:Nat} (hn:5≤n) {o:Nat} {l:List ItT} (H:HS g h (SlaC o l::R)) (hl:l.length≤1000) (hi:∀x∈l,qxF x) :
  t_w n 45 [.ptr o 0] h λr h'=>r=.str (qZD l)∧HS g h' (SlaC o l::R):=by
 (refine qB rfl omQ λk hk=>?_;show wp (S45 (callT tab qx k) _ _) _;unfold S45;try simp only[iI,uU,iZ])
 obtain⟨sv,H⟩:=SlaC.E H;refine qW (qQ (qX ‹_› .here rfl ?_));refine qm ‹_› e_1<|qq2 H omQ λb h2 H2=>?_;refine qW (qQ (qX ‹_› e_1 rfl ?_));refine qm ‹_› e_2<|jM (λm s h'=>∃i:Nat,s=(.int .i64 (i:Int),.int .i64 (l.length:Int),sv,.slice b 0 l.length l.length false,())∧i≤l.length∧m=l.length-i∧
  HS g h' (Cell b (((l.take i).map λx=>.str (itS x))++List.replicate (l.length-i) (.str [])) 9 false::qw o [sv]::qy 20 1 l.length sv (l.map Qm)::R))
  ?_ (m:=l.length) (by show _<1000000000;omega) ⟨0,rfl,by omega,by omega,H2⟩
 rintro m ih s h3 hih ⟨i,rfl,h1,rfl,H⟩;by_cases hlt:i<l.length
 ·refine jT omQ (qZ ?_);refine jO (H.sl e_2) (by rw[List.getElem?_map,iW hlt];rfl)<|qG (qgB omQ (hi _ (List.getElem_mem hlt)) H) ?_;rintro _ h4 ⟨rfl,H4⟩;refine YH hlt<|qzA H4 rfl (by simp;omega) rfl λh5 H5=>?_;refine qc omQ (hih (l.length-(i+1)) _ _ omQ ⟨i+1,rfl,by omega,rfl,?_⟩);have e:kA (((l.take i).map λx=>AV.str (itS x))++List.replicate (l.length-i) (.str [])) (0+i*1) (AV.str (itS l[i])).cells=((l.take (i+1)).map λx=>AV.str (itS x))++List.replicate (l.length-(i+1)) (.str []):=by
   rw[Nat.zero_add,Nat.mul_one];show kA _ i [AV.str (itS l[i])]=_;rw[Xc (by simp;omega),List.take_add_one,iW hlt,List.map_append,show l.length-i=(l.length-(i+1))+1 by omega,List.replicate_succ,List.set_append_right _ _ (by simp;omega)];have hz:i-((l.take i).map λx=>AV.str (itS x)).length=0:=by simp;omega
   rw[hz,List.set_cons_zero,List.append_assoc];rfl
  rw[e]at H5;exact H5
 ·obtain rfl:i=l.length:=by omega
  refine jD omQ (qJ ?_);rw[Nat.sub_self,List.take_length,List.replicate_zero,List.append_nil]at H;have H2:HS g h3 (Cell b ((l.map itS).map .str) 9 false::qw o [sv]::qy 20 1 l.length sv (l.map Qm)::R):=by rw[List.map_map];exact H
  refine qG (qwa omQ H2 osQ omQ (qki hl hi)) ?_;rintro _ _ ⟨rfl,rfl⟩;exact qk (qj ⟨rfl,SlaC.I H.drop⟩)
end
section
structure PtM where
  op:Int
  pc:Int
  regs:List Int
  told:Nat
structure IM where
  regs:List Int
  out:List ItT
  pc:Int
  opn:List PtM
structure SM where
  e:Int
  nx:Int
  blk:Bool
  s:IM
  v:VM
def setR (s:IM) (i v:Int):IM:={ s with regs:=s.regs.set i.toNat v }
def yl (b off:Int):Int×Int:=if 2147483648≤b∨2147483648≤b+off∨b+off<6 then(0,2)else(b+off,0)
def Ym (p:Prop) [Decidable p]:Int:=if p then 1 else 0
def jh (s:IM) (V:VM) (x:qR):Int×IM×VM :=
 if x.1=8 then
  (if(yl (qM s.regs x.2.2.1) x.2.2.2.1).2=0 then
   (if(qi V (yl (qM s.regs x.2.2.1) x.2.2.2.1).1).1.2=0 then(0,setR s x.2.1 (qi V (yl (qM s.regs x.2.2.1) x.2.2.2.1).1).1.1,(qi V (yl (qM s.regs x.2.2.1) x.2.2.2.1).1).2)
    else((qi V (yl (qM s.regs x.2.2.1) x.2.2.2.1).1).1.2,s,(qi V (yl (qM s.regs x.2.2.1) x.2.2.2.1).1).2))
  else(2,s,V))
 else if x.1=9 then
  (if(yl (qM s.regs x.2.1) x.2.2.2.1).2=0 then((zw V [((yl (qM s.regs x.2.1) x.2.2.2.1).1,qM s.regs x.2.2.1)]).1,s,(zw V [((yl (qM s.regs x.2.1) x.2.2.2.1).1,qM s.regs x.2.2.1)]).2)
  else(2,s,V))
 else if x.1=10 then
  (if 2147483648≤qM s.regs x.2.2.1 then(3,s,V)
  else if(xG V (qM s.regs x.2.2.1)).1.2=0 then(0,setR s x.2.1 (xG V (qM s.regs x.2.2.1)).1.1,(xG V (qM s.regs x.2.2.1)).2)
  else((xG V (qM s.regs x.2.2.1)).1.2,s,(xG V (qM s.regs x.2.2.1)).2))
 else
  (if 2147483648≤qM s.regs x.2.1 then(2,s,V)else((vo V (qM s.regs x.2.1)).1,s,(vo V (qM s.regs x.2.1)).2))
def zM (op at_ nx:Int) (s:IM) (V:VM):SM :=
 if(vj V).1=0 then⟨0,nx,false,{ s with opn:=⟨op,at_,s.regs,s.out.length⟩::s.opn },(vj V).2⟩else⟨(vj V).1,nx,false,s,(vj V).2⟩
def Qo (s:IM) (p:PtM):IM:={ s with regs:=p.regs,out:=s.out.take p.told }
def vG (mt:List Int):List PtM→IM→VM→SM
 |[],s,V=>⟨0,s.pc,true,{ s with opn:=[] },V⟩
 |p::o,s,V=>
  if(xi V).1=0 then
   (if p.op=17 then zM 18 (qM mt p.pc) (qM mt p.pc+1) { Qo s p with opn:=o } (xi V).2
   else vG mt o s (xi V).2)
  else⟨(xi V).1,s.pc+1,false,{ s with opn:=o },(xi V).2⟩
def VS (o:List PtM):PtM:=(o.head?).getD ⟨0,0,[0,0,0,0,0,0,0,0],0⟩
def wB (mt:List Int) (s:IM) (V:VM) (op:Int):SM :=
 if op=14∨op=17 then zM op s.pc (s.pc+1) s V
 else if op=15∨op=19 then⟨(vS V).1,s.pc+1,false,{ s with opn:=s.opn.tail },(vS V).2⟩
 else if op=18 then⟨(vS V).1,qM mt s.pc+1,false,{ s with opn:=s.opn.tail },(vS V).2⟩
 else if op=16 then⟨(xi V).1,qM mt s.pc+1,false,{ Qo s (VS s.opn)with opn:=s.opn.tail },(xi V).2⟩
 else vG mt s.opn s V
def doM (mt:List Int) (s:IM) (V:VM) (x:qR):SM :=
 if x.1=1 then⟨0,s.pc+1,false,setR s x.2.1 x.2.2.2.2,V⟩
 else if x.1=2 then⟨0,s.pc+1,false,setR s x.2.1 (qM s.regs x.2.2.1),V⟩
 else if x.1=3 then⟨0,s.pc+1,false,setR s x.2.1 (zN .u64 (qM s.regs x.2.2.1+qM s.regs x.2.2.2.1)),V⟩
 else if x.1=4 then⟨0,s.pc+1,false,setR s x.2.1 (zN .u64 (qM s.regs x.2.2.1-qM s.regs x.2.2.2.1)),V⟩
 else if x.1=5 then⟨0,s.pc+1,false,setR s x.2.1 (zN .u64 (qM s.regs x.2.2.1*qM s.regs x.2.2.2.1)),V⟩
 else if x.1=6 then⟨0,s.pc+1,false,setR s x.2.1 (Ym (qM s.regs x.2.2.1<qM s.regs x.2.2.2.1)),V⟩
 else if x.1=7 then⟨0,s.pc+1,false,setR s x.2.1 (Ym (qM s.regs x.2.2.1=qM s.regs x.2.2.2.1)),V⟩
 else if x.1=12 then⟨0,x.2.2.2.1,false,s,V⟩
 else if x.1=13 then⟨0,if qM s.regs x.2.1=0 then x.2.2.2.1 else s.pc+1,false,s,V⟩
 else if x.1=21 then(if 16≤s.out.length then⟨5,s.pc+1,false,s,V⟩else⟨0,s.pc+1,false,{ s with out:=s.out++[(1,qM s.regs x.2.1)] },V⟩)
 else if x.1=22 then⟨13,s.pc+1,false,s,V⟩
 else if x.1=8∨x.1=9∨x.1=10∨x.1=11 then⟨(jh s V x).1,s.pc+1,false,(jh s V x).2.1,(jh s V x).2.2⟩
 else wB mt s V x.1
structure RM where
  kind:Int
  err:Int
  left:Nat
  s:IM
  v:VM
def jL (l:List qR) (mt:List Int):Nat→IM→VM→RM
 | 0,s,V=>if s.pc=l.length then⟨2,0,0,s,V⟩else⟨4,6,0,s,V⟩
 |n+1,s,V=>
  if s.pc=l.length then⟨2,0,n+1,s,V⟩
  else if(doM mt s V (qS l s.pc)).e=0 then
   (if(doM mt s V (qS l s.pc)).blk=true then⟨3,0,n,{ (doM mt s V (qS l s.pc)).s with pc:=(doM mt s V (qS l s.pc)).nx },(doM mt s V (qS l s.pc)).v⟩
   else jL l mt n { (doM mt s V (qS l s.pc)).s with pc:=(doM mt s V (qS l s.pc)).nx } (doM mt s V (qS l s.pc)).v)
  else if(doM mt s V (qS l s.pc)).e=11 then⟨1,0,n+1,(doM mt s V (qS l s.pc)).s,(doM mt s V (qS l s.pc)).v⟩
  else⟨4,(doM mt s V (qS l s.pc)).e,n+1,(doM mt s V (qS l s.pc)).s,(doM mt s V (qS l s.pc)).v⟩
theorem gc {l:List qR} {mt:List Int} {s:IM} {V:VM}:jL l mt 0 s V=if s.pc=l.length then⟨2,0,0,s,V⟩else⟨4,6,0,s,V⟩:=rfl
theorem ww {l:List qR} {mt:List Int} {n:Nat} {s:IM} {V:VM}:jL l mt (n+1) s V=if s.pc=l.length then⟨2,0,n+1,s,V⟩
  else if(doM mt s V (qS l s.pc)).e=0 then
   (if(doM mt s V (qS l s.pc)).blk=true then⟨3,0,n,{ (doM mt s V (qS l s.pc)).s with pc:=(doM mt s V (qS l s.pc)).nx },(doM mt s V (qS l s.pc)).v⟩
   else jL l mt n { (doM mt s V (qS l s.pc)).s with pc:=(doM mt s V (qS l s.pc)).nx } (doM mt s V (qS l s.pc)).v)
  else if(doM mt s V (qS l s.pc)).e=11 then⟨1,0,n+1,(doM mt s V (qS l s.pc)).s,(doM mt s V (qS l s.pc)).v⟩
  else⟨4,(doM mt s V (qS l s.pc)).e,n+1,(doM mt s V (qS l s.pc)).s,(doM mt s V (qS l s.pc)).v⟩:=rfl
theorem MX {l:List qR} {mt:List Int} {s:IM} {V:VM} (h0:s.pc=l.length):∀n,jL l mt n s V=⟨2,0,n,s,V⟩:=by
 intro n;cases n with
 |zero=>rw[gc,iJ h0]
 |succ n=>rw[ww,iJ h0]
def qI (l:List qR):Nat→List Int
 | 0=>[]
 |i+1=>jz (qI l i) i (qS l i).1
theorem yQ {l:List qR} {i:Nat} (h:i<l.length):qS l (i:Int)=l[i]:=by unfold qS;rw[Int.toNat_natCast,iW h];rfl
theorem jH {l:List qR} {i:Nat}:qI l (i+1)=jz (qI l i) i (qS l i).1:=rfl
theorem qzL {l:List qR}:∀(d i:Nat) {st':List Int},i+d=l.length→goM l (l.drop i) i (qI l i)=.inr st'→(∀j,i≤j→j<l.length→zo l (qI l j) (qS l j)=0)∧qI l l.length=st':=by
 intro d
 induction d with
 |zero=>
  intro i st' hi h;obtain rfl:i=l.length:=by omega
  rw[List.drop_length]at h;cases h;exact⟨λj h1 h2=>by omega,rfl⟩
 |succ d ih=>
  intro i st' hi h;have hlt:i<l.length:=by omega
  rw[G6 hlt]at h
  split at h
  ·rename_i hw;obtain⟨a,b⟩:=ih (i+1) (st':=st') omQ (by rw[jH,yQ hlt];exact h);refine⟨λj h1 h2=>?_,b⟩;by_cases hj:j=i
   ·subst hj;rw[yQ hlt];exact hw
   ·exact a j omQ h2
  ·cases h
theorem M6 {l:List qR}:∀(d i:Nat),i+d=l.length→∀k,i+k<l.length→(vU (l.drop i) i (qI l i))[k]? =some (jJ (qI l (i+k))):=by
 intro d
 induction d with
 |zero=>intro i hi k hk;omega
 |succ d ih=>
  intro i hi k hk;have hlt:i<l.length:=by omega
  rw[Nx hlt];cases k with
  |zero=>rfl
  |succ k=>rw[List.getElem?_cons_succ];have:=ih (i+1) omQ k omQ;rw[jH,yQ hlt]at this;rw[show i+(k+1)=i+1+k by omega];exact this
structure Fit (l:List qR):Prop where
  pos:0<l.length
  le:l.length≤40
  ok:∀j,j<l.length→zo l (qI l j) (qS l j)=0
  nil:qI l l.length=[]
  reg:∀j,j<l.length→(vU l 0 [])[j]? =some (jJ (qI l j))
  jump:∀j,j<l.length→¬XA l (vU l 0 []) j (qS l j)
theorem qGH {l:List qR} {a:List Int}:∀(d i:Nat),i+d=l.length→(XE l a (l.drop i) i).2=0→∀j,i≤j→j<l.length→¬XA l a j (qS l j):=by
 intro d
 induction d with
 |zero=>intro i hi _ j h1 h2;omega
 |succ d ih=>
  intro i hi h j h1 h2;have hlt:i<l.length:=by omega
  rw[Y2 hlt]at h
  split at h
  ·cases h
  ·rename_i hn;by_cases hj:j=i
   ·subst hj;rw[yQ hlt];exact hn
   ·exact ih (i+1) omQ h j omQ h2
theorem gu {l:List qR} (h:(zb l).2=0):Fit l:=by
 have hg:=Ve h;obtain⟨a,b⟩:=qzL l.length 0 (st':=[]) omQ hg;unfold zb at h
 split at h
 ·cases h
 ·rename_i h0;rw[hg]at h;dsimp only at h;rw[iJ rfl]at h
  exact⟨by omega,by omega,λj hj=>a j (Nat.zero_le _) hj,b,λj hj=>by
   have:=M6 (l:=l) l.length 0 omQ j omQ;rw[Nat.zero_add]at this
   exact this,λj hj=>qGH l.length 0 omQ h j (Nat.zero_le _) hj⟩
def Rises (i:Nat) (st:List Int):Prop:=StOk i st∧st.Pairwise (· < ·)
theorem Ux {l:List qR}:∀i,Rises i (qI l i):=by
 intro i
 induction i with
 |zero=>exact⟨StOk.nil,List.Pairwise.nil⟩
 |succ i ih=>
  refine⟨ih.1.behind,?_⟩;rw[jH];have hd:(qI l i).dropLast.Pairwise (· < ·):=ih.2.sublist (List.dropLast_sublist _);have hp:∀st:List Int,StOk i st→st.Pairwise (· < ·)→(st++[(i:Int)]).Pairwise (· < ·):=by intro st h1 h2;rw[List.pairwise_append];refine⟨h2,List.pairwise_singleton ..,λa ha b hb=>?_⟩;rw[List.mem_singleton]at hb;subst hb;exact(h1 a ha).2
  unfold jz
  repeat' split
  ·exact hp _ ih.1.dropLast hd
  ·exact hp _ ih.1 ih.2
  ·exact hd
  ·exact ih.2
theorem NT {l:List qR}:∀(i k p:Nat),(qI l i)[k]? =some (p:Int)→qI l (p+1)=(qI l i).take (k+1):=by
 intro i
 induction i with
 |zero=>intro k p h;simp[qI]at h
 |succ i ih=>
  intro k p h;have key:∀st:List Int,(∀k p:Nat,st[k]? =some (p:Int)→qI l (p+1)=st.take (k+1))→qI l (i+1)=st++[(i:Int)]→qI l (p+1)=(qI l (i+1)).take (k+1):=by
   intro st hst he;rw[he]at h ⊢;by_cases hk:k<st.length
   ·rw[List.getElem?_append_left hk]at h;rw[hst k p h,List.take_append_of_le_length omQ]
   ·have hk2:k=st.length:=by
     have:=(List.getElem?_eq_some_iff.1 h).1;simp at this;omega
    subst hk2;rw[List.getElem?_append_right (Nat.le_refl _),Nat.sub_self]at h;simp at h;have:p=i:=by omega
    subst this;rw[he,List.take_of_length_le osQ]
  have hdrop:∀k p:Nat,(qI l i).dropLast[k]? =some (p:Int)→qI l (p+1)=(qI l i).dropLast.take (k+1):=by
   intro k p h;have hk:=(List.getElem?_eq_some_iff.1 h).1;have hk2:k+1≤(qI l i).length-1:=by have:=hk;simp at this;omega
   have h2:(qI l i)[k]? =some (p:Int):=by
    rw[List.getElem?_dropLast]at h
    split at h
    ·exact h
    ·cases h
   rw[ih k p h2,List.dropLast_eq_take,List.take_take,Nat.min_eq_left hk2]
  by_cases hb:xj (qS l i).1=true∨(qS l i).1=18
  ·by_cases he:0<zX (qS l i).1
   ·exact key _ hdrop (by rw[jH];unfold jz;rw[iJ hb,iJ he])
   ·exact key _ ih (by rw[jH];unfold jz;rw[iJ hb,iQ he])
  ·by_cases he:0<zX (qS l i).1
   ·have e:qI l (i+1)=(qI l i).dropLast:=by rw[jH];unfold jz;rw[iQ hb,iJ he]
    rw[e]at h ⊢;exact hdrop k p h
   ·have e:qI l (i+1)=qI l i:=by rw[jH];unfold jz;rw[iQ hb,iQ he]
    rw[e]at h ⊢;exact ih k p h
theorem vD {l:List qR} {i:Nat} (h:qI l i≠[]):∃p:Nat,jJ (qI l i)=p∧p<i∧(qI l i)[(qI l i).length-1]? =some (p:Int)∧qI l (p+1)=qI l i:=by
 have hb:=(Ux (l:=l) i).1.inmost h;obtain⟨p,hp⟩:∃p:Nat,jJ (qI l i)=p:=⟨(jJ (qI l i)).toNat,by omega⟩;have hl:0<(qI l i).length:=List.length_pos_iff.2 h;have hk:(qI l i)[(qI l i).length-1]? =some (p:Int):=by rw[← hp];unfold jJ;rw[← List.getLast?_eq_getElem?,List.getLast?_eq_some_getLast h];rfl
 refine⟨p,hp,by omega,hk,?_⟩;rw[NT i _ p hk,List.take_of_length_le omQ]
theorem qjA {l:List qR} {i j:Nat} (h:jJ (qI l i)=jJ (qI l j)):qI l i=qI l j:=by
 by_cases hi:qI l i=[]
 ·by_cases hj:qI l j=[]
  ·rw[hi,hj]
  ·obtain⟨p,h1,_⟩:=vD hj;rw[hi,Y5,h1]at h;omega
 ·obtain⟨p,h1,_,_,h2⟩:=vD hi;by_cases hj:qI l j=[]
  ·rw[hj,Y5,h1]at h;omega
  ·obtain⟨q,h3,_,_,h4⟩:=vD hj;have:p=q:=by omega
   subst this;rw[← h2,← h4]
def mt1 (l:List qR) (A:List Int):Nat→List Int
 | 0=>List.replicate l.length (-1)
 |i+1=>if 0<zX (qS l i).1 then(mt1 l A i).set (qM A i).toNat i else mt1 l A i
def mt2 (l:List qR) (A:List Int):Nat→List Int
 | 0=>mt1 l A l.length
 |i+1=>if(qS l i).1=16 then(mt2 l A i).set i (qM (mt2 l A i) (qM A i))else mt2 l A i
def qO (l:List qR):List Int:=mt2 l (vU l 0 []) l.length
theorem qyR {l:List qR} {A:List Int} {i:Nat}:mt1 l A (i+1)=if 0<zX (qS l i).1 then(mt1 l A i).set (qM A i).toNat i else mt1 l A i:=rfl
theorem qxs {l:List qR} {A:List Int} {i:Nat}:mt2 l A (i+1)=if(qS l i).1=16 then(mt2 l A i).set i (qM (mt2 l A i) (qM A i))else mt2 l A i:=rfl
theorem ZZ {l:List qR} {A:List Int}:∀i,(mt1 l A i).length=l.length:=by
 intro i
 induction i with
 |zero=>simp[mt1]
 |succ i ih=>rw[qyR];split<;>simp[ih]
theorem Ou {l:List qR} {A:List Int}:∀i,(mt2 l A i).length=l.length:=by
 intro i
 induction i with
 |zero=>exact ZZ _
 |succ i ih=>rw[qxs];split<;>simp[ih]
theorem qWO (l:List qR):(qO l).length=l.length:=Ou _
theorem wT {l:List qR} (F:Fit l) {j:Nat} (h:j<l.length):qM (vU l 0 []) (j:Int)=jJ (qI l j):=by unfold qM;rw[Int.toNat_natCast,F.reg j h];rfl
theorem qkD {l:List qR} {p:Nat}:∀(d i:Nat),p<i→(p:Int)∉qI l i→(p:Int)∉qI l (i+d):=by
 intro d
 induction d with
 |zero=>intro i _ h;exact h
 |succ d ih=>
  intro i hp h;have h2:=ih i hp h;rw[show i+(d+1)=i+d+1 by omega,jH];have hd:(p:Int)∉(qI l (i+d)).dropLast:=λhm=>h2 ((List.dropLast_sublist _).subset hm);unfold jz
  repeat' split
  all_goals first |exact hd |exact h2 |skip
  ·intro hm;rcases List.mem_append.1 hm with hm |hm
   ·exact hd hm
   ·rw[List.mem_singleton]at hm;omega
  ·intro hm;rcases List.mem_append.1 hm with hm |hm
   ·exact h2 hm
   ·rw[List.mem_singleton]at hm;omega
theorem Uy {st:List Int} {p:Int} (h:st.Pairwise (· < ·)) (hn:st≠[]) (hp:jJ st=p):p∉st.dropLast:=by
 have e:st=st.dropLast++[p]:=by have:=List.dropLast_concat_getLast hn;rw[show st.getLast hn=p by rw[← hp];unfold jJ;rw[List.getLast?_eq_some_getLast hn];rfl]at this;exact this.symm
 rw[e,List.pairwise_append]at h;intro hm;have:=h.2.2 p hm p (List.mem_singleton_self _);omega
theorem qzl {l:List qR} {p j:Nat} (he:0<zX (qS l j).1) (hn:qI l j≠[]) (hp:jJ (qI l j)=p):(p:Int)∉qI l (j+1):=by
 have h1:=Uy (Ux (l:=l) j).2 hn hp;have h2:=(Ux (l:=l) j).1.inmost hn;rw[jH];unfold jz;rw[iJ he]
 split
 ·intro hm;rcases List.mem_append.1 hm with hm |hm
  ·exact h1 hm
  ·rw[List.mem_singleton]at hm;omega
 ·exact h1
theorem yF {l:List qR} {st:List Int} {x:qR} (h:zo l st x=0):gQ x=true∧(0<zX x.1→opM l st=zX x.1)∧(x.1=16→opM l st=14)∧(xj x.1=true→st.length<5):=by
 have h0:=xH h;unfold zo at h;rw[iQ (by rw[h0.1];simp)]at h
 split at h
 ·cases h
 ·rename_i h2
  split at h
  ·cases h
  ·rename_i h3;refine⟨h0.1,λhe=>?_,λhe=>?_,h0.2.2⟩
   ·exact Classical.not_not.1 λhh=>h2 ⟨he,hh⟩
   ·exact Classical.not_not.1 λhh=>h3 ⟨he,hh⟩
theorem Mv {l:List qR} {i:Nat} {p:Nat} (hn:qI l i≠[]) (hp:jJ (qI l i)=p):opM l (qI l i)=(qS l p).1:=by unfold opM;rw[iQ hn,hp]
theorem Ub {l:List qR} (F:Fit l) {p:Nat} (hp:p<l.length) (ho:(qS l p).1=14∨(qS l p).1=17∨(qS l p).1=18) :
  ∃e:Nat,p<e∧e<l.length∧zX (qS l e).1=(qS l p).1∧qI l e≠[]∧jJ (qI l e)=p∧
   ∀j,j<l.length→0<zX (qS l j).1→jJ (qI l j)=p→j=e:=by
 have hin:(p:Int)∈qI l (p+1):=by rw[jH];unfold jz;rw[iJ (by unfold xj;rcases ho with h |h |h<;>rw[h]<;>decide)];exact List.mem_append_right _ (List.mem_singleton_self _)
 have key:∀d i,p<i→i+d=l.length→(p:Int)∈qI l i→∃e,i≤e∧e<l.length∧(p:Int)∈qI l e∧(p:Int)∉qI l (e+1):=by
  intro d
  induction d with
  |zero=>
   intro i _ hi hm;obtain rfl:i=l.length:=by omega
   rw[F.nil]at hm;cases hm
  |succ d ih=>
   intro i hpi hi hm;by_cases h:(p:Int)∈qI l (i+1)
   ·obtain⟨e,h1,h2⟩:=ih (i+1) omQ omQ h;exact⟨e,by omega,h2⟩
   ·exact⟨i,Nat.le_refl _,by omega,hm,h⟩
 obtain⟨e,h1,h2,h3,h4⟩:=key (l.length-(p+1)) (p+1) omQ omQ hin;have hne:qI l e≠[]:=λh=>by rw[h]at h3;cases h3
 have hend:0<zX (qS l e).1:=by
  apply Classical.not_not.1;intro hn;apply h4;rw[jH];unfold jz;rw[iQ hn]
  split
  ·exact List.mem_append_left _ h3
  ·exact h3
 have hinm:jJ (qI l e)=p:=by
  apply Classical.not_not.1;intro hn;apply h4;have hd:(p:Int)∈(qI l e).dropLast:=by
   have hd:=List.dropLast_concat_getLast hne;rw[← hd]at h3;rcases List.mem_append.1 h3 with h |h
   ·exact h
   ·rw[List.mem_singleton]at h;exfalso;apply hn;unfold jJ;rw[List.getLast?_eq_some_getLast hne,h];rfl
  rw[jH];unfold jz;rw[iJ hend]
  split
  ·exact List.mem_append_left _ hd
  ·exact hd
 have hw:=(yF (F.ok e h2)).2.1 hend;rw[Mv hne hinm]at hw;refine⟨e,by omega,h2,hw.symm,hne,hinm,λj hj hje hjp=>?_⟩;have hjn:qI l j≠[]:=(xH (F.ok j hj)).2.1 (.inl hje);have hpj:p<j:=by have:=(Ux j).1.inmost hjn;omega
 rcases Nat.lt_trichotomy j e with h |h |h
 ·exfalso;have:=qkD (e-(j+1)) (j+1) omQ (qzl hje hjn hjp);rw[show j+1+(e-(j+1))=e by omega]at this;exact this h3
 ·exact h
 ·exfalso;have h5:=qkD (l:=l) (j-(e+1)) (e+1) omQ h4;rw[show e+1+(j-(e+1))=j by omega]at h5;apply h5;rw[← hjp];unfold jJ;rw[List.getLast?_eq_some_getLast hjn];exact List.getLast_mem hjn
theorem qzp {l:List qR} (F:Fit l) {p e:Nat} (hp:p<l.length) (he:e<l.length) (hee:0<zX (qS l e).1) (hi:jJ (qI l e)=p)
  (hu:∀j,j<l.length→0<zX (qS l j).1→jJ (qI l j)=p→j=e):∀i,e<i→i≤l.length→(mt1 l (vU l 0 []) i)[p]? =some (e:Int):=by
 intro i
 induction i with
 |zero=>intro h;omega
 |succ i ih=>
  intro h1 h2;rw[qyR];by_cases hie:i=e
  ·subst hie;rw[iJ hee,wT F he,hi,Int.toNat_natCast,List.getElem?_set_self (by rw[ZZ];exact hp)]
  ·split
   ·rename_i hx;rw[wT F omQ,List.getElem?_set_ne]
    ·exact ih omQ omQ
    ·intro hh;have hjn:qI l i≠[]:=(xH (F.ok i omQ)).2.1 (.inl hx);have:=(Ux i).1.inmost hjn;exact hie (hu i omQ hx omQ)
   ·exact ih omQ omQ
theorem qkL {l:List qR} (F:Fit l) {p:Nat} (hp:(qS l p).1≠16):∀i,(mt2 l (vU l 0 []) i)[p]? =(mt1 l (vU l 0 []) l.length)[p]?:=by
 intro i
 induction i with
 |zero=>rfl
 |succ i ih=>
  rw[qxs]
  split
  ·rename_i hx;rw[List.getElem?_set_ne,ih];rintro rfl;exact hp hx
  ·exact ih
theorem qq8 {l:List qR} (F:Fit l) {u:Nat} (hu:u<l.length) (ho:(qS l u).1=16):∀i,u<i→(mt2 l (vU l 0 []) i)[u]? =some (qM (mt2 l (vU l 0 []) u) (jJ (qI l u))):=by
 intro i
 induction i with
 |zero=>intro h;omega
 |succ i ih=>
  intro h;rw[qxs];by_cases hi:i=u
  ·subst hi;rw[iJ ho,List.getElem?_set_self (by rw[Ou];exact hu),wT F hu]
  ·split
   ·rw[List.getElem?_set_ne hi];exact ih omQ
   ·exact ih omQ
theorem gM {l:List qR} (F:Fit l) {p:Nat} (hp:p<l.length) (ho:(qS l p).1=14∨(qS l p).1=17∨(qS l p).1=18) :
  ∃e:Nat,qM (qO l) (p:Int)=e∧p<e∧e<l.length∧zX (qS l e).1=(qS l p).1∧qI l e=qI l (p+1):=by
 obtain⟨e,h1,h2,h3,h4,h5,h6⟩:=Ub F hp ho;refine⟨e,?_,h1,h2,h3,?_⟩
 ·unfold qM qO;rw[Int.toNat_natCast,qkL F (by rcases ho with h |h |h<;>rw[h]<;>decide),qzp F hp h2 (by rw[h3];rcases ho with h |h |h<;>rw[h]<;>decide) h5 h6 l.length h2 (Nat.le_refl _)];rfl
 ·obtain⟨q,g1,_,_,g2⟩:=vD h4;have:q=p:=by omega
  subst this;exact g2.symm
theorem QA {l:List qR} (F:Fit l) {u:Nat} (hu:u<l.length) (ho:(qS l u).1=16) :
  ∃e:Nat,qM (qO l) (u:Int)=e∧e<l.length∧(qS l e).1=15∧qI l e=qI l u∧qI l u≠[]:=by
 have hn:qI l u≠[]:=(xH (F.ok u hu)).2.1 (.inr ho);obtain⟨q,g1,g2,_,g3⟩:=vD hn;have hw:=(yF (F.ok u hu)).2.2.1 ho;rw[Mv hn g1]at hw;obtain⟨e,h1,h2,h3,h4,h5,h6⟩:=Ub F omQ (.inl hw);have e0:qM (mt2 l (vU l 0 []) u) (q:Int)=e:=by unfold qM;rw[Int.toNat_natCast,qkL F (by rw[hw];decide),qzp F omQ h2 (by rw[h3,hw];decide) h5 h6 l.length h2 (Nat.le_refl _)];rfl
 refine⟨e,?_,h2,?_,?_,hn⟩
 ·unfold qO;rw[qM,Int.toNat_natCast,qq8 F hu ho l.length hu,g1,e0];rfl
 ·rw[hw]at h3;unfold zX at h3
  repeat' split at h3
  all_goals first |assumption |omega
 ·obtain⟨q2,k1,_,_,k2⟩:=vD h4;have:q2=q:=by omega
  subst this;rw[← k2,g3]
end
section
structure J0 (M M':VM):Prop where
  sz:M'.sz=M.sz
  K:M'.K=M.K
  most:M'.most=M.most
  len:M'.lv.length=M.lv.length
def J5 (M M':VM):Prop:=M'.lv=M.lv∧1≤M'.need∧M'.need<M.sz∧zg M'.need M.K=none
theorem J0.refl (M:VM):J0 M M:=⟨rfl,rfl,rfl,rfl⟩
theorem J0.trans {M N Q:VM} (a:J0 M N) (b:J0 N Q):J0 M Q:=⟨b.sz.trans a.sz,b.K.trans a.K,b.most.trans a.most,b.len.trans a.len⟩
theorem xF (M:VM) (p:Int):J0 M (qi M p).2:=by
 unfold qi
 repeat' split
 all_goals exact⟨rfl,rfl,rfl,rfl⟩
theorem QK {M:VM} {p:Int} (h:(qi M p).1.2=11):J5 M (qi M p).2:=by
 unfold qi at h ⊢
 split
 ·rename_i h1;rw[iJ h1]at h
  split
  ·rename_i h2;rw[h2]at h;cases h
  ·rename_i h2;rw[h2]at h;dsimp only at h ⊢
   split
   ·rename_i h3;rw[h3]at h;cases h
   ·rename_i h3;exact⟨rfl,h1.1,h1.2,h3⟩
 ·rename_i h1;rw[iQ h1]at h;cases h
theorem qwN {most:Nat} {lv:List LvM} {p v:Int}:(gw most lv p v).1=0∨(gw most lv p v).1=2∨(gw most lv p v).1=5:=by
 unfold gw
 repeat' split
 all_goals simp
theorem qYB {most:Nat} {was:List LvM}:∀{cs:List Cl} {lv:List LvM},(vt most was lv cs).1=0∨(vt most was lv cs).1=2∨(vt most was lv cs).1=5:=by
 intro cs
 induction cs with
 |nil=>intro lv;exact .inl rfl
 |cons c cs ih=>
  intro lv;rw[gC]
  split
  ·exact ih
  ·exact qwN
theorem qqb {M:VM} {cs:List Cl}:(zw M cs).1=0∨(zw M cs).1=2∨(zw M cs).1=5:=by
 unfold zw
 split
 ·exact qYB
 ·exact .inr (.inl rfl)
theorem Gu {M:VM} {cs:List Cl} (h:(zw M cs).1=11):False:=by have:=qqb (M:=M) (cs:=cs);omega
theorem gI {M:VM} {cs:List Cl} (O:OkV M):J0 M (zw M cs).2:=by
 unfold zw
 split
 ·exact⟨rfl,rfl,rfl,(qQm O.lvs O.lvs rfl).2⟩
 ·exact .refl M
theorem qQL (M:VM) (b:Int):J0 M (zq M b).2:=by
 unfold zq
 repeat' split
 all_goals first |exact .refl M |exact xF M _
theorem qJh {M:VM} {b:Int} (h:(zq M b).1.2.2=11):J5 M (zq M b).2:=by
 unfold zq at h ⊢
 split
 ·rename_i h1;rw[iJ h1]at h;cases h
 ·rename_i h1;rw[iQ h1]at h
  split
  ·rename_i h2;rw[iJ h2]at h
   split
   ·rename_i h3;rw[iJ h3]at h;cases h
   ·rename_i h3;rw[iQ h3]at h;cases h
  ·rename_i h2;rw[iQ h2]at h;exact QK h
theorem freeL_len {lv:List LvM} {b:Int}:(XF lv b).length=lv.length:=by cases lv<;>rfl
theorem qG1 {M:VM} {b:Int} (O:OkV M):J0 M (vo M b).2:=by
 have ha:=qQL M b;unfold vo
 repeat' split
 ·have ht:=ha.trans (gI (cs:=[(b-1,(zq M b).1.1)]) (Yk (b:=b) O));exact⟨ht.sz,ht.K,ht.most,freeL_len.trans ht.len⟩
 ·exact ha.trans (gI (Yk O))
 ·exact ha
 ·exact ha
theorem qGR {M:VM} {b:Int} (h:(vo M b).1=11):J5 M (vo M b).2:=by
 unfold vo at h ⊢
 split
 ·rename_i h1;rw[iJ h1]at h
  split
  ·rename_i h2;rw[iJ h2]at h
   split
   ·rename_i h3;rw[iJ h3]at h;cases h
   ·rename_i h3;rw[iQ h3]at h;exact(Gu h).elim
  ·rename_i h2;rw[iQ h2]at h;cases h
 ·rename_i h1;rw[iQ h1]at h;exact qJh h
theorem qZ6 {M:VM} {c b:Int} (O:OkV M):J0 M (yw M c b).2:=by
 unfold yw
 repeat' split
 ·exact .refl M
 ·exact(xF M _).trans (gI (yJ O))
 ·exact(xF M _).trans (gI (yJ O))
 ·exact xF M _
theorem qXm {M:VM} {c b:Int} (h:(yw M c b).1.2=11):J5 M (yw M c b).2:=by
 unfold yw at h ⊢
 split
 ·rename_i h1;rw[iJ h1]at h;cases h
 ·rename_i h1;rw[iQ h1]at h
  split
  ·rename_i h2;rw[iJ h2]at h
   split
   ·rename_i h3;rw[iJ h3]at h;cases h
   ·rename_i h3;rw[iQ h3]at h;exact(Gu h).elim
  ·rename_i h2;rw[iQ h2]at h;exact QK h
theorem qZi {M:VM} {c:Int} (O:OkV M):J0 M (yx M c).2:=by
 unfold yx
 repeat' split
 ·exact xF M _
 ·exact(xF M _).trans (gI (yJ O))
 ·exact(xF M _).trans (gI (yJ O))
 ·exact xF M _
theorem qXa {M:VM} {c:Int} (h:(yx M c).1.2=11):J5 M (yx M c).2:=by
 unfold yx at h ⊢
 split
 ·rename_i h1;rw[iJ h1]at h
  split
  ·rename_i h2;rw[iJ h2]at h;cases h
  ·rename_i h2;rw[iQ h2]at h
   split
   ·rename_i h3;rw[iJ h3]at h;cases h
   ·rename_i h3;rw[iQ h3]at h;exact(Gu h).elim
 ·rename_i h1;rw[iQ h1]at h;exact QK h
theorem Vr {M:VM} {x:Int} (O:OkV M):J0 M (xG M x).2:=by
 unfold xG
 repeat' split
 ·exact .refl M
 ·exact(xF M _).trans (qZi (yJ O))
 ·exact(xF M _).trans (qZ6 (yJ O))
 ·exact xF M _
theorem qZ2 {M:VM} {x:Int} (h:(xG M x).1.2=11):J5 M (xG M x).2:=by
 unfold xG at h ⊢
 split
 ·rename_i h1;rw[iJ h1]at h;cases h
 ·rename_i h1;rw[iQ h1]at h
  split
  ·rename_i h2;rw[iJ h2]at h;have e:=Ki h2
   split
   ·rename_i h3;rw[iJ h3,e]at h;rw[e];exact qXa h
   ·rename_i h3;rw[iQ h3,e]at h;rw[e];exact qXm h
  ·rename_i h2;rw[iQ h2]at h;exact QK h
theorem qVR {M:VM} {x:Int} (W:WdV M) (h:(xG M x).1.2=0):0≤(xG M x).1.1∧(xG M x).1.1≤2147483648:=by
 unfold xG at h ⊢
 split
 ·rename_i h1;rw[iJ h1]at h;cases h
 ·rename_i h1;rw[iQ h1]at h
  split
  ·rename_i h2;rw[iJ h2]at h;have hr:=W.read (p:=xe x)
   split
   ·rename_i h3;rw[iJ h3]at h;unfold yx at h ⊢
    split
    ·rename_i h4;rw[iJ h4]at h
     split
     ·rename_i h5;rw[iJ h5]at h;cases h
     ·rename_i h5
      split
      ·dsimp only;omega
      ·show(0:Int)≤0∧(0:Int)≤2147483648;omega
    ·show(0:Int)≤0∧(0:Int)≤2147483648;omega
   ·rename_i h3;rw[iQ h3]at h;unfold yw at h ⊢
    split
    ·rename_i h4;rw[iJ h4]at h;cases h
    ·split
     ·split
      ·dsimp only;omega
      ·show(0:Int)≤0∧(0:Int)≤2147483648;omega
     ·show(0:Int)≤0∧(0:Int)≤2147483648;omega
  ·show(0:Int)≤0∧(0:Int)≤2147483648;omega
structure Jo (r:List Int):Prop where
  len:r.length=8
  bd:∀z∈r,0≤z∧z<18446744073709551616
theorem Jo.at {r:List Int} (h:Jo r) (i:Int):0≤qM r i∧qM r i<18446744073709551616:=by
 unfold qM;cases hi:r[i.toNat]? with
 |none=>show(0:Int)≤0∧(0:Int)<18446744073709551616;omega
 |some z=>exact h.bd z (List.mem_of_getElem? hi)
theorem Jo.set {r:List Int} {i v:Int} (h:Jo r) (hv:0≤v∧v<18446744073709551616):Jo (r.set i.toNat v) :=
 ⟨by rw[List.length_set];exact h.len,λz hz=>by
  rcases List.mem_or_eq_of_mem_set hz with hz |rfl
  ·exact h.bd z hz
  ·exact hv⟩
structure PtOk (l:List qR) (p:PtM):Prop where
  regs:Jo p.regs
  pc:∃k:Nat,p.pc=k∧k<l.length
  op:(p.op=14∨p.op=17∨p.op=18)∧(qS l p.pc).1=p.op
def ToldD:Nat→List PtM→Prop
 |_,[]=>True
 |n,p::r=>p.told≤n∧ToldD p.told r
theorem ToldD.mono:∀{o:List PtM} {n n':Nat},n≤n'→ToldD n o→ToldD n' o:=by
 intro o;cases o with
 |nil=>intro _ _ _ _;trivial
 |cons p r=>intro n n' h h2;exact⟨Nat.le_trans h2.1 h,h2.2⟩
structure GB (s:IM):Prop where
  regs:Jo s.regs
  out:s.out.length≤16
  its:∀x∈s.out,qxF x
structure GI (l:List qR) (s:IM) (V:VM):Prop where
  gb:GB s
  pc:∃k:Nat,s.pc=k∧k≤l.length
  pts:∀p∈s.opn,PtOk l p
  told:ToldD s.out.length s.opn
  stk:s.opn.map (·.pc)=(qI l s.pc.toNat).reverse
  lv:V.lv.length=s.opn.length+1
  good:jI V
theorem qVU (z:Int):0≤zN .u64 z∧zN .u64 z<18446744073709551616:=by
  cases z with
  | ofNat a => show (0 : Int) ≤ Int.ofNat (a % 18446744073709551616) ∧ Int.ofNat (a % 18446744073709551616) < 18446744073709551616
               rw[iZ];omega
  | negSucc a => show (0 : Int) ≤ Int.ofNat (18446744073709551615 - a % 18446744073709551616) ∧ Int.ofNat (18446744073709551615 - a % 18446744073709551616) < 18446744073709551616
                 rw[iZ];omega
theorem qK6 (p:Prop) [Decidable p]:0≤Ym p∧Ym p<18446744073709551616:=by unfold Ym;split<;>omega
theorem GB.setR {s:IM} {i v:Int} (h:GB s) (hv:0≤v∧v<18446744073709551616):GB (setR s i v):=⟨h.regs.set hv,h.out,h.its⟩
structure GR (l:List qR) (s:IM) (V:VM) (r:SM):Prop where
  gb:GB r.s
  good:jI r.v
  fr:frS r.v.lv≤frS V.lv+1
  sz:r.v.sz=V.sz
  K:r.v.K=V.K
  most:r.v.most=V.most
  next:r.e=0→r.blk=false→GI l { r.s with pc:=r.nx } r.v
  need:r.e=11→r.s=s∧J5 V r.v
  bl:r.blk=true→r.e=0
theorem qXU {l:List qR} {i:Nat} (h1:xj (qS l i).1=false) (h2:(qS l i).1≠18) (h3:zX (qS l i).1=0):qI l (i+1)=qI l i:=by rw[jH];unfold jz;rw[iQ (by rw[h1];simp[h2]),iQ omQ]
theorem GI.plain {l:List qR} {s s':IM} {V V':VM} {i:Nat} (G:GI l s V) (hi:s.pc=i) (hlt:i<l.length) (h1:xj (qS l i).1=false) (h2:(qS l i).1≠18) (h3:zX (qS l i).1=0)
  (gb:GB s') (ho:s'.opn=s.opn) (hl:s.out.length≤s'.out.length) (hv:V'.lv.length=V.lv.length) (hg:jI V'):GI l { s' with pc:=s.pc+1 } V':=by
 refine⟨⟨gb.regs,gb.out,gb.its⟩,⟨i+1,by show s.pc+1=_;omega,by omega⟩,by rw[ho];exact G.pts,by rw[ho];exact G.told.mono hl,?_,by rw[ho,hv];exact G.lv,hg⟩;rw[ho,hi,show((i:Int)+1).toNat=i+1 by omega,qXU h1 h2 h3,G.stk,hi,Int.toNat_natCast]
theorem MA {l:List qR} {s:IM} {V:VM} {op:Int} {p:Nat} {st:List Int} (gb:GB s) (hp:p<l.length) (ho:(op=14∨op=17∨op=18)∧(qS l (p:Int)).1=op) (pts:∀p∈s.opn,PtOk l p) (told:ToldD s.out.length s.opn)
  (hst:s.opn.map (·.pc)=st.reverse) (hs2:qI l (p+1)=st++[(p:Int)]) (lv:V.lv.length=s.opn.length+1) (hd:s.opn.length<5) (G:jI V) :
  (zM op p ((p:Int)+1) s V).e=0∧(zM op p ((p:Int)+1) s V).blk=false∧(zM op p ((p:Int)+1) s V).nx=(p:Int)+1∧GI l { (zM op p ((p:Int)+1) s V).s with pc:=(p:Int)+1 } (zM op p ((p:Int)+1) s V).v∧
   (zM op p ((p:Int)+1) s V).v=(vj V).2:=by
 have h0:(vj V).1=0∧(vj V).2.lv=([],[])::V.lv:=by unfold vj QI;rw[iQ omQ];exact⟨rfl,rfl⟩
 unfold zM;rw[iJ h0.1];refine⟨rfl,rfl,rfl,⟨⟨gb.regs,gb.out,gb.its⟩,⟨p+1,rfl,by omega⟩,?_,⟨Nat.le_refl _,told⟩,?_,?_,G.openG.1⟩,rfl⟩
 ·intro q hq;rcases List.mem_cons.1 hq with rfl |hq
  ·exact⟨gb.regs,⟨p,rfl,hp⟩,ho⟩
  ·exact pts q hq
 ·show(p:Int)::s.opn.map _=(qI l ((p:Int)+1).toNat).reverse;rw[hst,show((p:Int)+1).toNat=p+1 by omega,hs2,List.reverse_append];rfl
 ·rw[h0.2,List.length_cons,lv];rfl
theorem Nv {V:VM} (h:2≤V.lv.length):(xi V).1=0∧(xi V).2.lv=V.lv.tail:=by unfold xi QH;rw[iQ omQ];exact⟨rfl,rfl⟩
theorem M4 {V:VM} (h:2≤V.lv.length):(vS V).1=0∧(vS V).2.lv.length+1=V.lv.length:=by
 unfold vS
 match hl:V.lv,h with
 |[],h=>simp at h
 |[x],h=>simp at h
 |x::y::r,_=>exact⟨rfl,by simp[Jv]⟩
theorem ToldD.tail {n:Nat} {p:PtM} {o:List PtM} (h:ToldD n (p::o)):ToldD n o:=h.2.mono h.1
theorem GR.plain {l:List qR} {s s':IM} {V V':VM} {i:Nat} {e:Int} (G:GI l s V) (hi:s.pc=i) (hlt:i<l.length) (h1:xj (qS l i).1=false) (h2:(qS l i).1≠18) (h3:zX (qS l i).1=0)
  (gb:GB s') (ho:s'.opn=s.opn) (hl:s.out.length≤s'.out.length) (hk:J0 V V') (hg:jI V') (hf:frS V'.lv≤frS V.lv+1) (hn:e=11→s'=s∧J5 V V'):GR l s V ⟨e,s.pc+1,false,s',V'⟩ :=
 ⟨gb,hg,hf,hk.sz,hk.K,hk.most,λ_ _=>G.plain hi hlt h1 h2 h3 gb ho hl hk.len hg,hn,λh=>(by cases h)⟩
theorem qZo {l:List qR} (F:Fit l) {i:Nat} (hlt:i<l.length) (ho:(qS l i).1=12∨(qS l i).1=13):∃c:Nat,(qS l i).2.2.2.1=c∧c≤l.length∧qI l c=qI l i:=by
 have hm:=(yF (F.ok i hlt)).1;have hj:=F.jump i hlt;generalize qS l i=x at*;have hc:0≤x.2.2.2.1∧x.2.2.2.1≤40:=by
  unfold gQ ja vu at hm;simp only[Bool.and_eq_true,decide_eq_true_eq]at hm;have:=hm.1.2;rcases ho with h |h
  ·rw[iQ omQ,iQ omQ,iQ omQ,iQ omQ,iJ h]at this;exact this
  ·rw[iQ omQ,iQ omQ,iQ omQ,iQ omQ,iQ omQ,iJ h]at this;exact this
 obtain⟨c,hcc⟩:∃c:Nat,x.2.2.2.1=c:=⟨x.2.2.2.1.toNat,by omega⟩;refine⟨c,hcc,?_⟩;unfold XA at hj;rw[hcc]at hj;have hle:c≤l.length:=by
  rcases Nat.lt_or_ge l.length c with h |h
  ·exact absurd ⟨ho,.inl omQ⟩ hj
  ·exact h
 refine⟨hle,?_⟩;by_cases he:c=l.length
 ·subst he;rw[F.nil];have:qM (vU l 0 []) (i:Int)= -1:=Classical.not_not.1 λh=>hj ⟨ho,.inr (.inl ⟨rfl,h⟩)⟩;rw[wT F hlt]at this
  exact(Classical.not_not.1 λh=>by
   have:=(Ux i).1.inmost (λh'=>h h'.symm)
   omega:[]=qI l i)
 ·have:qM (vU l 0 []) (c:Int)=qM (vU l 0 []) (i:Int):=Classical.not_not.1 λh=>hj ⟨ho,.inr (.inr ⟨by omega,h⟩)⟩;rw[wT F hlt,wT F omQ]at this;exact qjA this
theorem VB {l:List qR} (F:Fit l):∀i,i≤l.length→(qI l i).length≤5:=by
 intro i
 induction i with
 |zero=>intro _;simp[qI]
 |succ i ih=>
  intro h;have h1:=ih omQ;have hw:=yF (F.ok i omQ);rw[jH];unfold jz
  repeat' split
  ·rename_i hb he;have hne:qI l i≠[]:=(xH (F.ok i omQ)).2.1 (.inl he);have:=List.length_pos_iff.2 hne;simp;omega
  ·rename_i hb he;rcases hb with hb |hb
   ·have:=hw.2.2.2 hb;simp;omega
   ·exact absurd (by rw[hb];decide) he
  ·simp;omega
  ·exact h1
theorem XW {o:List PtM} {p:PtM} {st:List Int} (h:(p::o).map (·.pc)=st.reverse):st=st.dropLast++[p.pc]∧o.map (·.pc)=st.dropLast.reverse:=by
 have e:st=o.reverse.map (·.pc)++[p.pc]:=by have:=congrArg List.reverse h;rw[List.reverse_reverse]at this;rw[← this,List.map_cons,List.reverse_cons,List.map_reverse]
 have e2:st.dropLast=o.reverse.map (·.pc):=by rw[e,List.dropLast_concat]
 refine⟨by rw[e2];exact e,?_⟩;rw[e2,List.map_reverse,List.reverse_reverse]
def PreP (l:List qR) (st:List Int):Prop:=∀k p:Nat,st[k]? =some (p:Int)→qI l (p+1)=st.take (k+1)
theorem PreP.dropLast {l:List qR} {st:List Int} (h:PreP l st):PreP l st.dropLast:=by
 intro k p hk;have h1:=(List.getElem?_eq_some_iff.1 hk).1;have h2:k+1≤st.length-1:=by have:=h1;simp at this;omega
 rw[List.getElem?_dropLast]at hk
 split at hk
 ·rw[h k p hk,List.dropLast_eq_take,List.take_take,Nat.min_eq_left h2]
 ·cases hk
theorem GB.back {l:List qR} {s:IM} {p:PtM} (g:GB s) (h:PtOk l p):GB (Qo s p):=⟨h.regs,by
 show(s.out.take p.told).length≤16;have:=g.out
 simp;omega,λx hx=>g.its x (List.mem_of_mem_take hx)⟩
theorem qkS {l:List qR} {st:List Int} (hp:PreP l st) {o:List PtM} {p:PtM} {q:Nat} (h:(p::o).map (·.pc)=st.reverse) (hq:p.pc=q):qI l (q+1)=st:=by
 have e:=(XW h).1;have hl:st.length=st.dropLast.length+1:=by have:=congrArg List.length e;simpa using this
 have:=hp st.dropLast.length q (by rw[e,hq];simp);rw[this,List.take_of_length_le omQ]
theorem qZ8 {l:List qR} (F:Fit l) {s0:IM} {V0:VM}:∀(o:List PtM) (s:IM) (V:VM) (st:List Int),PreP l st→o.map (·.pc)=st.reverse→GB s→(∀p∈o,PtOk l p)→ToldD s.out.length o→V.lv.length=o.length+1→jI V→
  frS V.lv≤frS V0.lv→V.sz=V0.sz→V.K=V0.K→V.most=V0.most→GR l s0 V0 (vG (qO l) o s V):=by
 intro o
 induction o with
 |nil=>intro s V st hp hm gb _ _ hlv G hf h1 h2 h3;exact⟨⟨gb.regs,gb.out,gb.its⟩,G,by show frS V.lv≤_;omega,h1,h2,h3,λ_ h=>(by cases h),λh=>(by cases h),λ_=>rfl⟩
 |cons p o ih=>
  intro s V st hp hm gb pts told hlv G hf h1 h2 h3;have hd:=Nv (V:=V) (by rw[hlv];simp);have hdG:=G.dropG;have hlv2:(xi V).2.lv.length=o.length+1:=by rw[hd.2,List.length_tail,hlv];simp
  have hmt:=XW hm;unfold vG;rw[iJ hd.1]
  split
  ·rename_i hop;have P:=pts p (iK ..);obtain⟨q,hq,hql⟩:=P.pc;have hqo:(qS l (q:Int)).1=17:=by rw[← hq,P.op.2,hop]
   obtain⟨e,e1,e2,e3,e4,e5⟩:=gM F hql (.inr (.inl hqo));have hst:=qkS hp hm hq;have heo:(qS l (e:Int)).1=18:=by
    rw[hqo]at e4;unfold zX at e4
    repeat' split at e4
    all_goals first |assumption |omega
   have hst2:qI l (e+1)=st.dropLast++[(e:Int)]:=by rw[jH,e5,hst];unfold jz;rw[iJ (.inr heo),iJ (by rw[heo];decide)]
   have h5:=VB F e omQ;rw[e5,hst]at h5;have hl5:st.length=st.dropLast.length+1:=by have:=congrArg List.length hmt.1;simpa using this
   have hol:o.length=st.dropLast.length:=by have:=congrArg List.length hmt.2;simpa using this
   have gb2:GB { Qo s p with opn:=o }:=⟨(gb.back P).regs,(gb.back P).out,(gb.back P).its⟩;have told2:ToldD (s.out.take p.told).length o:=by rw[List.length_take,Nat.min_eq_left told.1];exact told.2
   have key:=MA (l:=l) (s:={ Qo s p with opn:=o }) (V:=(xi V).2) (op:=18) (p:=e) (st:=st.dropLast) gb2 e3 ⟨.inr (.inr rfl),heo⟩ (λr hr=>pts r (iX _ hr)) told2 hmt.2 hst2 hlv2 (by show o.length<5;omega) hdG.1;rw[hq,e1];obtain⟨k1,k2,k3,k4,k5⟩:=key;have hoG:=hdG.1.openG;refine⟨k4.gb |> λg=>⟨g.regs,g.out,g.its⟩,k4.good,?_,?_,?_,?_,λ_ _=>?_,λh=>(by rw[k1]at h;cases h),λh=>(by rw[k2]at h;cases h)⟩
   ·rw[k5,hoG.2];have:=hdG.2;omega
   ·rw[k5];exact h1
   ·rw[k5];exact h2
   ·rw[k5];exact h3
   ·rw[k3];exact k4
  ·exact ih s (xi V).2 st.dropLast hp.dropLast hmt.2 gb (λr hr=>pts r (iX _ hr)) told.tail hlv2 hdG.1 (by have:=hdG.2;omega) h1 h2 h3
theorem qXt {l:List qR} {s:IM} {V:VM} {x:qR} (G:GI l s V) (hf:frS V.lv<10000) :
  GB (jh s V x).2.1∧(jh s V x).2.1.opn=s.opn∧(jh s V x).2.1.out=s.out∧(jh s V x).2.1.pc=s.pc∧J0 V (jh s V x).2.2∧jI (jh s V x).2.2∧frS (jh s V x).2.2.lv≤frS V.lv+1∧
   ((jh s V x).1=11→(jh s V x).2.1=s∧J5 V (jh s V x).2.2):=by
 have gb:=G.gb;have good:=G.good;have hr:=λi=>gb.regs.at i;have same:∀e:Int,e≠11→GB s∧s.opn=s.opn∧s.out=s.out∧s.pc=s.pc∧J0 V V∧jI V∧frS V.lv≤frS V.lv+1∧(e=11→s=s∧J5 V V) :=
  λe he=>⟨gb,rfl,rfl,rfl,.refl V,good,by omega,λh=>absurd h he⟩
 unfold jh
 split
 ·split
  ·split
   ·refine⟨gb.setR ?_,rfl,rfl,rfl,xF V _,good.read,by rw[yZ];omega,nofun⟩;exact good.wd.read
   ·exact⟨gb,rfl,rfl,rfl,xF V _,good.read,by rw[yZ];omega,λh=>⟨rfl,QK h⟩⟩
  ·exact same 2 omQ
 ·split
  ·split
   ·exact⟨gb,rfl,rfl,rfl,gI good.ok,good.take (WdC.one1 (hr _)),by rw[wx];omega,λh=>(Gu h).elim⟩
   ·exact same 2 omQ
  ·split
   ·split
    ·exact same 3 omQ
    ·split
     ·rename_i h0;have hb:=qVR (x:=qM s.regs x.2.2.1) good.wd h0;exact⟨gb.setR omQ,rfl,rfl,rfl,Vr good.ok,(good.alloc).1,by rw[(good.alloc).2];omega,nofun⟩
     ·exact⟨gb,rfl,rfl,rfl,Vr good.ok,(good.alloc).1,by rw[(good.alloc).2];omega,λh=>⟨rfl,qZ2 h⟩⟩
   ·split
    ·exact same 2 omQ
    ·exact⟨gb,rfl,rfl,rfl,qG1 good.ok,(good.free omQ).1,(good.free omQ).2,λh=>⟨rfl,qGR h⟩⟩
theorem Uc {l:List qR} {s:IM} {V:VM} (G:GI l s V):s.opn.length=(qI l s.pc.toNat).length:=by have:=congrArg List.length G.stk;simpa using this
theorem Jt {l:List qR} (F:Fit l) {s:IM} {V:VM} (G:GI l s V) {i:Nat} (hi:s.pc=i) (hlt:i<l.length) (hf:frS V.lv<10000) (hN:0≤(qS l i).2.2.2.2∧(qS l i).2.2.2.2<18446744073709551616) (hx:(qS l i).1≠23) :
  GR l s V (doM (qO l) s V (qS l i)):=by
 have hw:=yF (F.ok i hlt);have hwo:=xH (F.ok i hlt);have hop:1≤(qS l i).1∧(qS l i).1≤23:=by have:=hw.1;unfold gQ at this;simp only[Bool.and_eq_true,decide_eq_true_eq]at this;exact this.1.1.1.1
 have hbe:xj (qS l i).1=decide ((qS l i).1=14∨(qS l i).1=17):=rfl;have hend:zX (qS l i).1=if(qS l i).1=15 then 14 else if(qS l i).1=18 then 17 else if(qS l i).1=19 then 18 else 0:=rfl
 have hjmp:=λh=>qZo F hlt h;have hstk:=G.stk;rw[hi,Int.toNat_natCast]at hstk;have hol:=Uc G;rw[hi,Int.toNat_natCast]at hol;have hr:=λi=>G.gb.regs.at i;have hmb:=λh=>gM F hlt h;have hmu:=λh=>QA F hlt h;have hss:qI l (i+1)=jz (qI l i) i (qS l i).1:=jH;have plain:(qS l i).1≠14→(qS l i).1≠17→(qS l i).1≠15→(qS l i).1≠18→(qS l i).1≠19→xj (qS l i).1=false∧(qS l i).1≠18∧zX (qS l i).1=0:=by intro a b c d e;refine⟨by rw[hbe];exact iV omQ,d,?_⟩;rw[hend,iQ c,iQ d,iQ e]
 have keep:∀{s':IM} {V':VM} {e:Int},(qS l i).1≠14→(qS l i).1≠17→(qS l i).1≠15→(qS l i).1≠18→(qS l i).1≠19→GB s'→s'.opn=s.opn→s.out.length≤s'.out.length→J0 V V'→jI V'→frS V'.lv≤frS V.lv+1→
   (e=11→s'=s∧J5 V V')→GR l s V ⟨e,s.pc+1,false,s',V'⟩:=λa b c d e gb ho hl hk hg hf hn=>
  GR.plain G hi hlt (plain a b c d e).1 (plain a b c d e).2.1 (plain a b c d e).2.2 gb ho hl hk hg hf hn
 generalize hxe:qS l i=x at*;obtain⟨sregs,sout,spc,sopn⟩:=s;dsimp only at hi hstk hol hr keep ⊢;unfold doM;have reg:∀v:Int,x.1≠14→x.1≠17→x.1≠15→x.1≠18→x.1≠19→0≤v∧v<18446744073709551616→GR l ⟨sregs,sout,spc,sopn⟩ V ⟨0,spc+1,false,setR ⟨sregs,sout,spc,sopn⟩ x.2.1 v,V⟩ :=
  λv a b c d e hv=>keep a b c d e (G.gb.setR hv) rfl (Nat.le_refl _) (.refl V) G.good omQ nofun
 have jump:∀n:Int,(x.1=12∨x.1=13)→(n=x.2.2.2.1∨n=spc+1)→GR l ⟨sregs,sout,spc,sopn⟩ V ⟨0,n,false,⟨sregs,sout,spc,sopn⟩,V⟩:=by
  intro n ho hn;rcases hn with rfl |rfl
  ·obtain⟨c,c1,c2,c3⟩:=hjmp ho;refine⟨G.gb,G.good,Nat.le_succ _,rfl,rfl,rfl,λ_ _=>⟨⟨G.gb.regs,G.gb.out,G.gb.its⟩,⟨c,c1,c2⟩,G.pts,G.told,?_,G.lv,G.good⟩,λh=>(by cases h),λh=>(by cases h)⟩;show sopn.map _=(qI l x.2.2.2.1.toNat).reverse;rw[c1,Int.toNat_natCast,c3];exact hstk
  ·exact keep omQ omQ omQ omQ omQ G.gb rfl (Nat.le_refl _) (.refl V) G.good omQ nofun
 by_cases c1:x.1=1
 ·rw[iJ c1];exact reg _ omQ omQ omQ omQ omQ hN
 rw[iQ c1];by_cases c2:x.1=2
 ·rw[iJ c2];exact reg _ omQ omQ omQ omQ omQ (hr _)
 rw[iQ c2];by_cases c3:x.1=3
 ·rw[iJ c3];exact reg _ omQ omQ omQ omQ omQ (qVU _)
 rw[iQ c3];by_cases c4:x.1=4
 ·rw[iJ c4];exact reg _ omQ omQ omQ omQ omQ (qVU _)
 rw[iQ c4];by_cases c5:x.1=5
 ·rw[iJ c5];exact reg _ omQ omQ omQ omQ omQ (qVU _)
 rw[iQ c5];by_cases c6:x.1=6
 ·rw[iJ c6];exact reg _ omQ omQ omQ omQ omQ (qK6 _)
 rw[iQ c6];by_cases c7:x.1=7
 ·rw[iJ c7];exact reg _ omQ omQ omQ omQ omQ (qK6 _)
 rw[iQ c7];by_cases c12:x.1=12
 ·rw[iJ c12];exact jump _ (.inl c12) (.inl rfl)
 rw[iQ c12];by_cases c13:x.1=13
 ·rw[iJ c13];by_cases cz:qM sregs x.2.1=0
  ·rw[iJ cz];exact jump _ (.inr c13) (.inl rfl)
  ·rw[iQ cz];exact jump _ (.inr c13) (.inr rfl)
 rw[iQ c13];by_cases c21:x.1=21
 ·rw[iJ c21];have hk:∀e:Int,e≠11→GR l ⟨sregs,sout,spc,sopn⟩ V ⟨e,spc+1,false,⟨sregs,sout,spc,sopn⟩,V⟩:=λe he=>
   keep omQ omQ omQ omQ omQ G.gb rfl (Nat.le_refl _) (.refl V) G.good (Nat.le_succ _) λh=>absurd h he
  by_cases hlen:16≤sout.length
  ·rw[iJ hlen];exact hk 5 omQ
  ·rw[iQ hlen];refine keep omQ omQ omQ omQ omQ ⟨G.gb.regs,?_,?_⟩ rfl ?_ (.refl V) G.good (Nat.le_succ _) nofun
   ·show(sout++[_]).length≤16;simp;omega
   ·intro y hy;rcases List.mem_append.1 hy with hy |hy
    ·exact G.gb.its y hy
    ·rw[List.mem_singleton]at hy;subst hy;exact hr _
   ·show sout.length≤(sout++[_]).length;simp
 rw[iQ c21];by_cases c22:x.1=22
 ·rw[iJ c22];exact keep omQ omQ omQ omQ omQ G.gb rfl (Nat.le_refl _) (.refl V) G.good (Nat.le_succ _) nofun
 rw[iQ c22];by_cases c8:x.1=8∨x.1=9∨x.1=10∨x.1=11
 ·rw[iJ c8];obtain⟨t1,t2,t3,t4,t5,t6,t7,t8⟩:=qXt G hf;exact keep omQ omQ omQ omQ omQ t1 t2 (by rw[t3];exact Nat.le_refl _) t5 t6 t7 t8
 rw[iQ c8];unfold wB;by_cases h:x.1=14∨x.1=17
 ·rw[iJ h];subst hi;have hb:xj x.1=true:=by rw[hbe];exact iG h
  have he:¬0<zX x.1:=by rw[hend,iQ omQ,iQ omQ,iQ omQ];omega
  have key:=MA (l:=l) (s:=⟨sregs,sout,(i:Int),sopn⟩) (V:=V) (op:=x.1) (p:=i) (st:=qI l i) G.gb hlt ⟨by omega,by rw[hxe]⟩ G.pts G.told hstk (by rw[hss];unfold jz;rw[iJ (.inl hb),iQ he]) G.lv (by show sopn.length<5;rw[hol];exact hw.2.2.2 hb) G.good;obtain⟨k1,k2,k3,k4,k5⟩:=key;have hoG:=G.good.openG;refine⟨k4.gb |> λg=>⟨g.regs,g.out,g.its⟩,k4.good,?_,?_,?_,?_,λ_ _=>?_,λh=>(by rw[k1]at h;cases h),λh=>(by rw[k2]at h;cases h)⟩
  ·rw[k5,hoG.2];omega
  ·rw[k5];rfl
  ·rw[k5];rfl
  ·rw[k5];rfl
  ·rw[k3];exact k4
 rw[iQ h];clear h;by_cases h:x.1=15∨x.1=19
 ·rw[iJ h];have he:0<zX x.1:=by rw[hend];rcases h with h |h<;>rw[h]<;>decide
  have hne:=hwo.2.1 (.inl he)
  match sopn,hol,hstk,G with
  |[],hol,_,_=>exact absurd (iA hol.symm) hne
  |p::o,hol,hstk,G=>
   have hk:=M4 (V:=V) (by rw[G.lv];simp);have hkG:=G.good.keepG omQ;have hlv:=G.lv
   refine⟨⟨G.gb.regs,G.gb.out,G.gb.its⟩,hkG.1,by rw[hkG.2];omega,rfl,rfl,rfl,λ_ _=>⟨⟨G.gb.regs,G.gb.out,G.gb.its⟩,⟨i+1,by show spc+1=_;omega,by omega⟩,λq hq=>G.pts q (iX _ hq),G.told.tail,?_,?_,hkG.1⟩,λh0=>(by
    dsimp only at h0;rw[hk.1]at h0;cases h0),λh=>(by cases h)⟩
   ·show o.map _=(qI l (spc+1).toNat).reverse;rw[hi,show((i:Int)+1).toNat=i+1 by omega,hss];unfold jz;rw[iQ (by rw[hbe];simp;omega),iJ he];exact(XW hstk).2
   ·show(vS V).2.lv.length=o.length+1;have:=hk.2;simp at hlv;omega
 rw[iQ h];clear h;by_cases h:x.1=18
 ·rw[iJ h];have he:0<zX x.1:=by rw[hend,h];decide
  have hne:=hwo.2.1 (.inl he);obtain⟨e,e1,e2,e3,e4,e5⟩:=hmb (.inr (.inr h));have heo:(qS l (e:Int)).1=19:=by
   rw[h]at e4;unfold zX at e4
   repeat' split at e4
   all_goals first |assumption |omega
  match sopn,hol,hstk,G with
  |[],hol,_,_=>exact absurd (iA hol.symm) hne
  |p::o,hol,hstk,G=>
   have hk:=M4 (V:=V) (by rw[G.lv];simp);have hkG:=G.good.keepG omQ;have hlv:=G.lv
   refine⟨⟨G.gb.regs,G.gb.out,G.gb.its⟩,hkG.1,by rw[hkG.2];omega,rfl,rfl,rfl,λ_ _=>⟨⟨G.gb.regs,G.gb.out,G.gb.its⟩,⟨e+1,by show qM (qO l) spc+1=_;rw[hi,e1];omega,by omega⟩,λq hq=>G.pts q (iX _ hq),G.told.tail,?_,?_,hkG.1⟩,λh0=>(by
    dsimp only at h0;rw[hk.1]at h0;cases h0),λh=>(by cases h)⟩
   ·show o.map _=(qI l (qM (qO l) spc+1).toNat).reverse;rw[hi,e1,show((e:Int)+1).toNat=e+1 by omega,jH,e5,hss];unfold jz;rw[iQ (by rw[heo];decide),iJ (by rw[heo];decide),iJ (.inr h),iJ he,List.dropLast_concat];exact(XW hstk).2
   ·show(vS V).2.lv.length=o.length+1;have:=hk.2;simp at hlv;omega
 rw[iQ h];clear h;by_cases h:x.1=16
 ·rw[iJ h];obtain⟨e,e1,e2,e3,e4,hne⟩:=hmu h
  match sopn,hol,hstk,G with
  |[],hol,_,_=>exact absurd (iA hol.symm) hne
  |p::o,hol,hstk,G=>
   have hk:=Nv (V:=V) (by rw[G.lv];simp);have hkG:=G.good.dropG;have hlv:=G.lv;have P:=G.pts p (iK ..);have told:=G.told;have gb2:=G.gb.back P
   refine⟨⟨gb2.regs,gb2.out,gb2.its⟩,hkG.1,by have:=hkG.2;dsimp only;omega,rfl,rfl,rfl,λ_ _=>⟨⟨gb2.regs,gb2.out,gb2.its⟩,⟨e+1,by show qM (qO l) spc+1=_;rw[hi,e1];omega,by omega⟩,λq hq=>G.pts q (iX _ hq),?_,?_,?_,hkG.1⟩,λh0=>(by
    dsimp only at h0;rw[hk.1]at h0;cases h0),λh=>(by cases h)⟩
   ·show ToldD (sout.take p.told).length o;rw[List.length_take,Nat.min_eq_left told.1];exact told.2
   ·show o.map _=(qI l (qM (qO l) spc+1).toNat).reverse;rw[hi,e1,show((e:Int)+1).toNat=e+1 by omega,jH,e4];unfold jz;rw[iQ (by rw[e3];decide),iJ (by rw[e3];decide)];exact(XW hstk).2
   ·show(xi V).2.lv.length=o.length+1;rw[hk.2,List.length_tail,hlv];simp
 ·rw[iQ h];exact qZ8 F sopn _ V (qI l i) (NT i) hstk G.gb G.pts G.told G.lv G.good (Nat.le_refl _) rfl rfl rfl
end
section
variable {g h:AH} {L R:List SP}
theorem ZD {b off n sz a:Nat} {k:IntKind} {K:AV→Go.Ae.R} {Q:AV→AH→Prop} (ha:a<n) (w:wp (K (.ptr b (off+a*sz))) Q):wp (QC (.ptr b off) (.int k (a:Int)) n sz K) Q:=by unfold QC;show wp (bif Nat.ble (a+1) n then _ else none) Q;rw[iY (show a+1≤n from ha)];exact w
theorem qzf {z:Int} (h0:0≤z):∃a:Nat,z.tmod ((8:Nat):Int)=a∧a<8∧(z<8→z=a):=by refine⟨(z%8).toNat,?_,by omega,λh=>by omega⟩;rw[Int.tmod_eq_emod_of_nonneg h0];omega
def qyO (r:List Int):List AV:=[.int .u64 (qM r 0),.int .u64 (qM r 1),.int .u64 (qM r 2),.int .u64 (qM r 3),.int .u64 (qM r 4),.int .u64 (qM r 5),.int .u64 (qM r 6),.int .u64 (qM r 7)]
def vJ (p:PtM):List AV:=[.int .i64 p.op,.int .i64 p.pc,.int .u64 (qM p.regs 0),.int .u64 (qM p.regs 1),.int .u64 (qM p.regs 2),.int .u64 (qM p.regs 3),.int .u64 (qM p.regs 4),.int .u64 (qM p.regs 5),.int .u64 (qM p.regs 6),.int .u64 (qM p.regs 7),.int .i64 (p.told:Int)]
def gS (c mv ov:AV) (v o:Nat) (bad err fin left nx pc:Int) (r:List Int):List AV :=
 [c,.ptr v 0,mv,.int .i64 bad,.int .i64 err,.int .i64 fin,.int .u64 (qM r 0),.int .u64 (qM r 1),.int .u64 (qM r 2),.int .u64 (qM r 3),.int .u64 (qM r 4),.int .u64 (qM r 5),.int .u64 (qM r 6),.int .u64 (qM r 7),
  .ptr o 0,.int .i64 pc,.int .i64 nx,.int .i64 left,ov]
section
variable {c mv ov:AV} {v o:Nat} {bad err fin left nx pc:Int} {r:List Int}
theorem GZ {a:Nat} (ha:a<8):(gS c mv ov v o bad err fin left nx pc r)[6+a*1]? =some (.int .u64 (qM r (a:Int))):=by
 rcases(show a=0∨a=1∨a=2∨a=3∨a=4∨a=5∨a=6∨a=7 by omega)with rfl |rfl |rfl |rfl |rfl |rfl |rfl |rfl<;>rfl
theorem qG8 {i k:Nat} {z:Int} (hi:i<r.length):qM (r.set i z) (k:Int)=if i=k then z else qM r (k:Int):=by
 unfold qM;rw[Int.toNat_natCast,List.getElem?_set]
 split
 ·rename_i h;subst h;simp[hi]
 ·rfl
theorem qw1 {a:Nat} {z:Int} (hr:r.length=8) (ha:a<8):(gS c mv ov v o bad err fin left nx pc r).set (6+a*1) (.int .u64 z)=gS c mv ov v o bad err fin left nx pc (r.set a z):=by have hs:=λk:Nat=>qG8 (r:=r) (i:=a) (k:=k) (z:=z) omQ;have e0:=hs 0;have e1:=hs 1;have e2:=hs 2;have e3:=hs 3;have e4:=hs 4;have e5:=hs 5;have e6:=hs 6;have e7:=hs 7;simp only[iZ,show((0:Nat):Int)=0 from rfl,show((1:Nat):Int)=1 from rfl,show((2:Nat):Int)=2 from rfl,show((3:Nat):Int)=3 from rfl,show((4:Nat):Int)=4 from rfl,show((5:Nat):Int)=5 from rfl,show((6:Nat):Int)=6 from rfl,show((7:Nat):Int)=7 from rfl]at e0 e1 e2 e3 e4 e5 e6 e7;unfold gS;rw[e0,e1,e2,e3,e4,e5,e6,e7];rcases(show a=0∨a=1∨a=2∨a=3∨a=4∨a=5∨a=6∨a=7 by omega)with rfl |rfl |rfl |rfl |rfl |rfl |rfl |rfl<;>rfl
end
def IntC (x v:Nat) (l:List qR) (bad:Int) (mt:List Int) (s:IM) (err fin left nx:Int):SP:=.ex λc=>.ex λmv=>.ex λov=>.ex λo=>.all
 [qw x (gS c mv ov v o bad err fin left nx s.pc s.regs),qy 58 5 l.length c (l.flatMap jg),qy 3 1 mt.length mv (mt.map (.int .i64)),SlaC o s.out,qy 276 11 s.opn.length ov (s.opn.reverse.flatMap vJ)]
section
variable {x v:Nat} {l:List qR} {bad:Int} {mt:List Int} {s:IM} {err fin left nx:Int}
theorem IntC.E (H:HS g h (IntC x v l bad mt s err fin left nx::R)):∃c mv ov o,HS g h (qw x (gS c mv ov v o bad err fin left nx s.pc s.regs)::qy 58 5 l.length c (l.flatMap jg)::qy 3 1 mt.length mv (mt.map (.int .i64))::SlaC o s.out::
  qy 276 11 s.opn.length ov (s.opn.reverse.flatMap vJ)::R):=by
 obtain⟨c,H⟩:=H.exE;obtain⟨mv,H⟩:=H.exE;obtain⟨ov,H⟩:=H.exE;obtain⟨o,H⟩:=H.exE;exact⟨c,mv,ov,o,H.allE⟩
theorem IntC.I {c mv ov:AV} {o:Nat} (H:HS g h (qw x (gS c mv ov v o bad err fin left nx s.pc s.regs)::qy 58 5 l.length c (l.flatMap jg)::qy 3 1 mt.length mv (mt.map (.int .i64))::SlaC o s.out::
  qy 276 11 s.opn.length ov (s.opn.reverse.flatMap vJ)::R)):HS g h (IntC x v l bad mt s err fin left nx::R) :=
 HS.exI c (HS.exI mv (HS.exI ov (HS.exI o H.allI)))
theorem qwm {n o:Nat} (hn:1≤n) {l:List ItT} (H:HS g h (SlaC o l::R)):t_w n 275 [.ptr o 0] h λr h'=>r=.int .i64 (l.length:Int)∧h'=h:=by
 refine t_e1 rfl omQ λk hk=>?_;unfold S275;try simp only[iZ]
 obtain⟨sv,H⟩:=SlaC.E H;refine qW (qQ (qX ‹_› .here rfl ?_));refine qm ‹_› e_1<|qj ⟨rfl,rfl⟩
theorem qv3 {n o:Nat} (hn:1≤n) {l:List ItT} {x:ItT} (H:HS g h (SlaC o l::R)) (hl:l.length≤16) :
  t_w n 185 [.ptr o 0,Qm x] h λr h'=>r=.bool (decide (l.length<16))∧HS g h' (SlaC o (if l.length<16 then l++[x]else l)::R):=by
 refine t_e2 rfl omQ λk hk=>?_;unfold S185;try simp only[iZ]
 obtain⟨sv,H⟩:=SlaC.E H;by_cases h1:l.length<16
 ·rw[iJ h1,iG h1];refine qW (qQ (qX ‹_› .here rfl ?_));refine qm ‹_› e_1<|zF omQ<|qJ (qW (qQ (qX ‹_› .here rfl ?_)))
  refine qh H rfl rfl (by
   have e:=(YB x).1
   simp only[yM,e,vE];rfl) (vQ (YB x)) λv2 h2 H2=>?_
  refine jf (H2.sel e_2) (H2.sl .here) omQ omQ (vQ (YB x)) λv3 h3 H3=>?_;have o3:=H3.one .here;refine qW (qQ (qA H3 e_2 o3 osQ λh4 H4=>?_));refine qj ⟨rfl,SlaC.I (sv:=v3) ?_⟩;rw[List.length_append,List.map_append];exact H4.pk [0,0] 1
 ·rw[iQ h1,iV h1];refine qW (qQ (qX ‹_› .here rfl ?_));refine qm ‹_› e_1<|zc omQ<|qZ<|qj ⟨rfl,SlaC.I H⟩
theorem qk3 {n o:Nat} (hn:2≤n) {l:List ItT} {u:Int} (H:HS g h (SlaC o l::R)) (hl:l.length≤16) :
  t_w n 139 [.ptr o 0,.int .u64 u] h λr h'=>r=.bool (decide (l.length<16))∧HS g h' (SlaC o (if l.length<16 then l++[(1,u)]else l)::R):=by
 refine t_e2 rfl omQ λk hk=>?_;unfold S139;try simp only[iZ]
 refine qG (qv3 (x:=(1,u)) omQ H hl) ?_;rintro _ h2 ⟨rfl,H2⟩;exact qj ⟨rfl,H2⟩
theorem N9 {n m:Nat} (hn:1≤n) {e:TypeId} {v:AV} {xs:List AV} (H:HS g h L) (s:Sel L (qy e 1 m v xs) R) (ha:qp xs=true) (hm:m≤1000000) :
  t_w n 143 [v] h λr h'=>HS g h' (qy 20 1 m r xs::L):=by
 refine t_e1 rfl omQ λk hk=>?_;unfold S143;try simp only[iZ]
 refine JS H s (λh1 h2=>?_) ?_
 ·subst h1 h2;have hx:xs=[]:=iA (by simpa using H.sl_len s);subst hx;exact qZ (qj H.nils)
 ·refine qJ (qh (l:=[]) H rfl rfl rfl rfl λv2 h2 H2=>?_);refine jf H2 (H2.sl (.there s)) omQ omQ ha λv3 h3 H3=>?_;rw[Nat.zero_add,List.nil_append]at H3;exact qj H3
theorem qqi {n o:Nat} (hn:2≤n) {l:List ItT} (H:HS g h (SlaC o l::R)) (hl:l.length≤16) :
  t_w n 88 [.ptr o 0] h λr h'=>∃p,r=.ptr p 0∧HS g h' (SlaC p l::SlaC o l::R):=by
 refine t_e1 rfl omQ λk hk=>?_;unfold S88;try simp only[iZ]
 obtain⟨sv,H⟩:=SlaC.E H;refine qW (qQ (qX ‹_› .here rfl ?_));refine qG (N9 omQ H e_1 (V2 l) omQ) ?_;intro cv h2 H2;have oc:=H2.one .here;refine qL (by simp only[yM,oc.1];rfl)<|qP H2 (vQ oc) λp h3 H3=>qj ⟨p,rfl,?_⟩;have H4:=SlaC.I (o:=p) (l:=l) (sv:=cv) (R:=qw o [sv]::qy 20 1 l.length sv (l.map Qm)::R) H3;exact HS.unsel e_1 (SlaC.I (sv:=sv) (H4.pk [1,1,0] 0))
theorem qvs {n o m:Nat} (hn:2≤n) {l:List ItT} (H:HS g h (SlaC o l::R)) (hl:l.length≤16) (hm:m≤l.length) :
  t_w n 277 [.ptr o 0,.int .i64 (m:Int)] h λ_ h'=>HS g h' (SlaC o (l.take m)::R):=by
 refine t_e2 rfl omQ λk hk=>?_;unfold S277;try simp only[iZ]
 obtain⟨sv,H⟩:=SlaC.E H;refine qW (qQ (qX ‹_› .here rfl ?_));refine qW (qQ (qX ‹_› .here rfl ?_));refine qm ‹_› e_1<|ju (zD ?_);rw[show max ((0:Nat):Int) (min (m:Int) (l.length:Int))=(m:Int) by omega];refine YJ (H.sel e_1) omQ hm λv2 H2=>?_;rw[Nat.mul_one,← List.map_take]at H2;refine qG (N9 omQ H2 .here (V2 _) omQ) ?_;intro cv h3 H3;have oc:=H3.one .here;refine qW (qQ (qA H3 e_2 oc osQ λh4 H4=>?_));refine qj (SlaC.I (sv:=cv) ?_);rw[show(l.take m).length=m by simp;omega];exact H4.pk [0,0] 1
theorem OW {n:Nat} (hn:1≤n) {p:Prop} [Decidable p]:t_w n 138 [.bool (decide p)] h λr h'=>r=.int .u64 (Ym p)∧h'=h:=by
 refine t_e1 rfl omQ λk hk=>?_;unfold S138;try simp only[iZ]
 unfold Ym;by_cases hp:p
 ·rw[iG hp,iJ hp];exact qZ (qj ⟨rfl,rfl⟩)
 ·rw[iV hp,iQ hp];exact qJ (qj ⟨rfl,rfl⟩)
theorem Z5 {n:Nat} (hn:1≤n) {e:Int} (H:HS g h (IntC x v l bad mt s err fin left nx::R)) :
  t_w n 86 [.ptr x 0,.int .i64 e] h λ_ h'=>HS g h' (IntC x v l bad mt s e 4 left nx::R):=by
 refine t_e2 rfl omQ λk hk=>?_;unfold S86;try simp only[iZ]
 obtain⟨c,mv,ov,o,H⟩:=IntC.E H;unfold gS at H;refine qW (qQ (qA H .here ⟨rfl,rfl⟩ osQ λh1 H1=>?_));refine qW (qQ (qA H1 .here ⟨rfl,rfl⟩ osQ λh2 H2=>?_));exact qj (IntC.I H2)
theorem qK3 {n:Nat} (hn:1≤n) (H:HS g h (IntC x v l bad mt s err fin left nx::R)):t_w n 43 [.ptr x 0] h λr h'=>r=.int .i64 err∧h'=h:=by
 refine t_e1 rfl omQ λk hk=>?_;unfold S43;try simp only[iZ]
 obtain⟨c,mv,ov,o,H⟩:=IntC.E H;unfold gS at H;refine qW (qQ (qX ‹_› .here rfl ?_));exact qj ⟨rfl,rfl⟩
theorem Nm {n:Nat} (hn:3≤n) (H:HS g h (IntC x v l bad mt s err fin left nx::R)) (hl:s.out.length≤16) :
  t_w n 44 [.ptr x 0] h λr h'=>∃p,r=.ptr p 0∧HS g h' (SlaC p s.out::IntC x v l bad mt s err fin left nx::R):=by
 refine t_e1 rfl omQ λk hk=>?_;unfold S44;try simp only[iZ]
 obtain⟨c,mv,ov,o,H⟩:=IntC.E H;unfold gS at H;refine qW (qQ (qX ‹_› .here rfl ?_));refine qG (qqi omQ (H.sel e_3) hl) ?_;rintro _ h2 ⟨p,rfl,H2⟩;refine qj ⟨p,rfl,?_⟩;exact HS.unsel e_1 (IntC.I (mv:=mv) (ov:=ov) (H2.pk [2,2,2,1,1] 0))
theorem NM {n:Nat} (hn:1≤n) {b off:Int} (hb:0≤b∧b<18446744073709551616) (ho:0≤off∧off≤100):t_w n 200 [.int .u64 b,.int .i64 off] h λr h'=>r=.tup [.int .i64 (yl b off).1,.int .i64 (yl b off).2]∧h'=h:=by
 refine t_e2 rfl omQ λk hk=>?_;unfold S200;try simp only[iZ]
 unfold yl;by_cases h1:2147483648≤b
 ·rw[iJ (.inl h1)];refine zc omQ<|qV<|qs<|qD (qV ?_);refine qs<|qD (qZ ?_)
  exact qj ⟨rfl,rfl⟩
 ·refine zF omQ<|qV<|qe<|xU omQ<|qc omQ ?_
  by_cases h2:2147483648≤b+off
  ·rw[iJ (.inr (.inl h2))];refine zc omQ<|qE (qV ?_);refine qs<|qD (qZ ?_)
   exact qj ⟨rfl,rfl⟩
  ·refine zF omQ<|qE (qV ?_);refine qe<|xU omQ<|qc omQ ?_
   by_cases h3:b+off<6
   ·rw[iJ (.inr (.inr h3))];refine jT omQ<|qE (qZ ?_);exact qj ⟨rfl,rfl⟩
   ·rw[iQ omQ];refine jD omQ<|qE (qJ (xU omQ ?_));refine qc omQ<|qj ⟨rfl,rfl⟩
theorem qqC {most:Nat} {lv:List LvM} {p z:Int} (h:¬(gw most lv p z).1=0):(gw most lv p z).2=lv:=by
 cases lv with
 |nil=>rfl
 |cons y r=>
  unfold gw at h ⊢;dsimp only at h ⊢
  split
  ·rfl
  ·rename_i h1;rw[iQ h1]at h
   split
   ·rfl
   ·rename_i h2;rw[iQ h2]at h;exact absurd rfl h
theorem qWS {n:Nat} (hn:6≤n) {v:Nat} {M:VM} {p z:Int} (H:HS g h (ViewC v M::R)) (O:OkV M) :
  t_w n 201 [.ptr v 0,.int .i64 p,.int .u64 z] h λr h'=>r=.int .i64 (zw M [(p,z)]).1∧HS g h' (ViewC v (zw M [(p,z)]).2::R):=by
 refine t_e3 rfl omQ λk hk=>?_;unfold S201;try simp only[iZ]
 refine qG (ZT omQ H) ?_;rintro _ _ ⟨rfl,rfl⟩;by_cases hp:1≤p∧p<M.sz
 ·rw[iG hp];obtain⟨fv,ov,q,e,H⟩:=ViewC.E H;refine jk (qJ (qW (qQ (qX ‹_› .here rfl ?_))));refine qG (qKu omQ (H.sel e_3) O.lvs) ?_;rintro _ h2 ⟨rfl,H2⟩;have e2:zw M [(p,z)]=((gw M.most M.lv p z).1,{ M with lv:=(gw M.most M.lv p z).2 }):=by
   unfold zw;rw[iJ (by intro c hc;rw[List.mem_singleton]at hc;subst hc;exact hp),gC]
   split
   ·rename_i h0;rw[h0];rfl
   ·rename_i h0;have hx:=qqC h0;rw[hx]
  rw[e2];exact qj ⟨rfl,ViewC.I (fv:=fv) (ov:=ov) (H2.pk [1,1,1] 0)⟩
 ·rw[iV hp];have e2:zw M [(p,z)]=(2,M):=by
   unfold zw;rw[iQ (λhh=>hp (hh (p,z) (List.mem_singleton_self _)))]
  rw[e2];refine jA (qZ ?_);exact qj ⟨rfl,H⟩
end
end
section
variable {g h:AH} {L R:List SP}
section
variable {x v:Nat} {l:List qR} {bad:Int} {mt:List Int} {s:IM} {err fin left nx:Int}
theorem qjL (o:List PtM):(o.reverse.flatMap vJ).length=o.length*11:=by rw[XG (sz:=11) _ (λ_=>rfl),List.length_reverse]
theorem qxt (p:PtM):qp (vJ p)=true:=rfl
theorem Ng (p:PtM) (o:List PtM):(p::o).reverse.flatMap vJ=o.reverse.flatMap vJ++vJ p:=by rw[List.reverse_cons,List.flatMap_append];simp
theorem X0 {n:Nat} (hn:1≤n) {p:PtM} {o:List PtM} (ho:s.opn=p::o) (hlo:o.length≤100) (H:HS g h (IntC x v l bad mt s err fin left nx::R)) :
  t_w n 205 [.ptr x 0] h λr h'=>r=.agg (vJ p)∧HS g h' (IntC x v l bad mt { s with opn:=o } err fin left nx::R):=by
 refine t_e1 (S:=S205) rfl omQ λk hk=>?_;unfold S205;try simp only[iZ]
 obtain⟨c,mv,ov,q,H⟩:=IntC.E H;rw[ho,Ng,List.length_cons]at H;have hol:=qjL o;generalize hA:o.reverse.flatMap vJ=A at*;unfold gS at H;refine qP H rfl λb0 h1 H1=>?_;clear H;refine qW (qQ (qX ‹_› e_1 rfl ?_));refine qW (qQ (qX ‹_› e_1 rfl ?_));refine qm ‹_› e_5<|zJ omQ ?_;rw[show((o.length+1:Nat):Int)-((1:Nat):Int)=(o.length:Int) by omega]
 refine zd (l:=vJ p) (H1.sl e_5) (i:=o.length) omQ omQ (by
  rw[List.drop_append_of_le_length omQ,List.drop_of_length_le omQ,List.nil_append];rfl) ?_
 refine qP H1 rfl λb2 h3 H3=>qf H3 .here rfl (by simp) rfl λh4 H4=>?_
 have H5:HS g h4 (qw b2 (vJ p)::qw b0 [.int .i64 ((0:Nat):Int),.int .i64 ((0:Nat):Int),.int .u64 ((0:Nat):Int),.int .u64 ((0:Nat):Int),.int .u64 ((0:Nat):Int),.int .u64 ((0:Nat):Int),.int .u64 ((0:Nat):Int),.int .u64 ((0:Nat):Int),.int .u64 ((0:Nat):Int),.int .u64 ((0:Nat):Int),.int .i64 ((0:Nat):Int)]::
  qw x (gS c mv ov v q bad err fin left nx s.pc s.regs)::qy 58 5 l.length c (l.flatMap jg)::qy 3 1 mt.length mv (mt.map (.int .i64))::SlaC q s.out::
  qy 276 11 (o.length+1) ov (A++vJ p)::R):=H4
 clear H1 H3 H4;unfold gS at H5;refine qW (qQ (qX ‹_› e_2 rfl ?_));refine qW (qQ (qX ‹_› e_2 rfl ?_));refine qm ‹_› e_6<|zJ omQ ?_;rw[show((o.length+1:Nat):Int)-((1:Nat):Int)=(o.length:Int) by omega];refine YJ (hi:=o.length) (H5.sel e_6) omQ omQ λv6 H6=>?_;rw[List.take_append_of_le_length omQ,List.take_of_length_le omQ]at H6;have o6:=H6.one .here;clear H5;refine qW (qQ (qA H6 e_3 o6 osQ λh7 H7=>?_));refine qF H7 e_2 rfl omQ rfl<|qf H7 (b:=b0) e_3 rfl (by simp) rfl λh8 H8=>?_
 have H8:HS g h8 (qw b0 (vJ p)::qw x (gS c mv v6 v q bad err fin left nx s.pc s.regs)::qy 276 11 o.length v6 A::qw b2 (vJ p)::
  qy 58 5 l.length c (l.flatMap jg)::qy 3 1 mt.length mv (mt.map (.int .i64))::SlaC q s.out::R):=H8
 refine qF H8 (b:=b0) (off:=0) .here rfl omQ (l:=vJ p) rfl<|qj ⟨rfl,IntC.I (s:={ s with opn:=o }) (c:=c) (mv:=mv) (ov:=v6) (o:=q) ?_⟩
 show HS g h8 (qw x (gS c mv v6 v q bad err fin left nx s.pc s.regs)::qy 58 5 l.length c (l.flatMap jg)::qy 3 1 mt.length mv (mt.map (.int .i64))::SlaC q s.out::
  qy 276 11 o.length v6 (o.reverse.flatMap vJ)::R)
 rw[hA];exact H8.pk [1,3,3,3,1] 2
theorem qQh {n:Nat} (hn:3≤n) {p:PtM} (ht:p.told≤s.out.length) (hl:s.out.length≤16) (H:HS g h (IntC x v l bad mt s err fin left nx::R)) :
  t_w n 207 [.ptr x 0,.agg (vJ p)] h λ_ h'=>HS g h' (IntC x v l bad mt (Qo s p) err fin left nx::R):=by
 refine t_e2 rfl omQ λk hk=>?_;unfold S207;try simp only[iZ]
 refine qP H (qxt p) λb0 h1 H1=>?_;obtain⟨c,mv,ov,q,H2⟩:=IntC.E (H1.sel e_1);refine qQ (qF H2 e_5 rfl omQ rfl ?_);refine qW (qQ ?_);refine qf H2 .here rfl (by show 6+8≤19;omega) rfl λh3 H3=>?_
 have H3:HS g h3 (qw x (gS c mv ov v q bad err fin left nx s.pc p.regs)::qy 58 5 l.length c (l.flatMap jg)::qy 3 1 mt.length mv (mt.map (.int .i64))::SlaC q s.out::
  qy 276 11 s.opn.length ov (s.opn.reverse.flatMap vJ)::qw b0 (vJ p)::R):=H3
 have H4:=H3;unfold gS vJ at H4;refine qW (qQ (qX ‹_› .here rfl ?_));refine qQ (qX ‹_› e_5 rfl ?_);refine qG (qvs omQ (H3.sel e_3) hl ht) ?_;intro _ h5 H5;exact qj (IntC.I (mv:=mv) (ov:=ov) (H5.pk [1,1,1,0,0] 1))
theorem Nn {n:Nat} (hn:5≤n) {op at_ nx0:Int} {V:VM} (O:OkV V) (hlo:s.opn.length≤100) (H:HS g h (IntC x v l bad mt s err fin left nx::ViewC v V::R)) :
  t_w n 204 [.ptr x 0,.int .i64 op,.int .i64 at_] h λr h'=>r=.int .i64 (zM op at_ nx0 s V).e∧HS g h' (IntC x v l bad mt (zM op at_ nx0 s V).s err fin left nx::ViewC v (zM op at_ nx0 s V).v::R):=by
 refine t_e3 rfl omQ λk hk=>?_;unfold S204;try simp only[iZ]
 obtain⟨c,mv,ov,q,H⟩:=IntC.E H;unfold gS at H;refine qW (qQ (qX ‹_› .here rfl ?_));refine qG (qj3 omQ (H.sel e_5) O) ?_;rintro _ h2 ⟨rfl,H2⟩
 have H2:HS g h2 (ViewC v (vj V).2::qw x (gS c mv ov v q bad err fin left nx s.pc s.regs)::qy 58 5 l.length c (l.flatMap jg)::qy 3 1 mt.length mv (mt.map (.int .i64))::SlaC q s.out::
  qy 276 11 s.opn.length ov (s.opn.reverse.flatMap vJ)::R):=H2
 unfold zM;by_cases h0:(vj V).1=0
 ·rw[iJ h0];refine q9 h0 (qJ ?_);have H3:=H2;unfold gS at H3;refine qV ?_
  try dsimp only
  refine qW (qQ ?_);refine qX H2 e_1 rfl<|qW (qQ ?_);refine qF H2 e_1 rfl omQ rfl<|qW (qQ ?_);refine qX H2 e_1 rfl<|qG (qwm omQ (H2.sel e_4)) ?_;rintro _ _ ⟨rfl,rfl⟩;refine qL rfl<|qh H2 rfl rfl rfl rfl λv4 h4 H4=>?_;refine jf (H4.sel e_6) (H4.sl .here) omQ omQ rfl λv5 h5 H5=>?_;have o5:=H5.one .here;refine qW (qQ ?_);refine qA H5 e_3 o5 (by show 18<19;omega) λh6 H6=>?_;refine zn H2 e_1 rfl H2 e_1 rfl rfl omQ (HS.lt H2 e_1)<|qd H2 e_1 rfl H2 e_1 rfl (HS.lt H2 e_1)<|qj ⟨rfl,IntC.I (s:={ s with opn:=⟨op,at_,s.regs,s.out.length⟩::s.opn }) (c:=c) (mv:=mv) (ov:=v5) (o:=q) ?_⟩
  show HS g h6 (qw x (gS c mv v5 v q bad err fin left nx s.pc s.regs)::qy 58 5 l.length c (l.flatMap jg)::qy 3 1 mt.length mv (mt.map (.int .i64))::SlaC q s.out::
   qy 276 11 (s.opn.length+1) v5 ((⟨op,at_,s.regs,s.out.length⟩::s.opn).reverse.flatMap vJ)::ViewC v (vj V).2::R)
  rw[Ng];exact H6.pk [0,3,3,3,0] 1
 ·rw[iQ h0];refine jX h0 (qZ ?_);exact qj ⟨rfl,IntC.I (s:=s) (c:=c) (mv:=mv) (ov:=ov) (o:=q) (H2.pk [1,1,1,1,1] 0)⟩
end
end
section
variable {g h:AH} {L R:List SP}
section
variable {x v:Nat} {l:List qR} {bad:Int} {mt:List Int} {s:IM} {err fin left nx:Int}
def MtAt (mt:List Int) (p:Int):Prop:=∃k:Nat,p=k∧∃z:Int,mt[k]? =some z∧ -1≤z∧z≤1000
theorem MtAt.num {mt:List Int} {p z:Int} {k:Nat} (h1:p=k) (h2:mt[k]? =some z):qM mt p=z:=by unfold qM;rw[h1,Int.toNat_natCast,h2];rfl
theorem MtAt.idx {mt:List Int} {k:Nat} {z:Int} (h:mt[k]? =some z):(mt.map (AV.int .i64))[k]? =some (.int .i64 z)∧k<mt.length:=by refine⟨by rw[List.getElem?_map,h];rfl,(List.getElem?_eq_some_iff.1 h).1⟩
theorem qW8 {n:Nat} (hn:8≤n) {V:VM} (G:jI V) (hlo:s.opn.length≤100) (hout:s.out.length≤16) (told:ToldD s.out.length s.opn) (hm:∀p∈s.opn,p.op=17→MtAt mt p.pc) (hpc:0≤s.pc∧s.pc≤100)
  (H:HS g h (IntC x v l bad mt s err 0 left (s.pc+1)::ViewC v V::R)) :
  t_w n 209 [.ptr x 0] h λr h'=>r=.int .i64 (vG mt s.opn s V).e∧
   HS g h' (IntC x v l bad mt (vG mt s.opn s V).s err (if(vG mt s.opn s V).blk=true then 3 else 0) left (vG mt s.opn s V).nx::ViewC v (vG mt s.opn s V).v::R):=by
 refine t_e1 rfl omQ λk hk=>?_;unfold S209;try simp only[iZ]
 generalize hD:vG mt s.opn s V=D;have hs:s={ s with opn:=s.opn }:=rfl;refine jM (λm st h'=>∃(o:List PtM) (V':VM),st=(.ptr x 0,())∧m=o.length∧o.length≤100∧HS g h' (IntC x v l bad mt { s with opn:=o } err 0 left (s.pc+1)::ViewC v V'::R)∧jI V'∧ToldD s.out.length o∧(∀p∈o,p.op=17→MtAt mt p.pc)∧vG mt o s V'=D)
  ?_ omQ ⟨s.opn,V,rfl,rfl,hlo,H,G,told,hm,hD⟩
 clear H G told hm hD hlo hs;rintro m ih st h2 hih ⟨o,V,rfl,rfl,hlo,H,G,told,hm,hD⟩;obtain⟨c,mv,ov,q,H1⟩:=IntC.E H
 have H1:HS g h2 (qw x (gS c mv ov v q bad err 0 left (s.pc+1) s.pc s.regs)::qy 58 5 l.length c (l.flatMap jg)::qy 3 1 mt.length mv (mt.map (.int .i64))::SlaC q s.out::
  qy 276 11 o.length ov (o.reverse.flatMap vJ)::ViewC v V::R):=H1
 refine qW (qQ (qX H1 .here rfl ?_));refine qm H1 e_4 ?_;cases o with
 |nil=>refine yT osQ (qJ ?_);refine qW (qQ (qX H1 .here rfl ?_));refine qW (qQ ?_);refine qA H1 .here ⟨rfl,rfl⟩ (by show 16<19;omega) λh3 H3=>?_;refine qW (qQ ?_);refine qA H3 .here ⟨rfl,rfl⟩ (by show 5<19;omega) λh4 H4=>?_;subst hD;exact qk (qj ⟨rfl,IntC.I (mv:=mv) (ov:=ov) H4⟩)
 |cons p o=>
  refine yp (by rw[List.length_cons];omega) (qZ ?_);refine qG (X0 omQ rfl (by simp at hlo;omega) H) ?_;rintro _ h3 ⟨rfl,H3⟩;clear H H1;refine qP H3 rfl λb h4 H4=>qf H4 .here rfl (by show 0+11≤11;omega) rfl λh5 H5=>?_;have H5:HS g h5 (qw b (vJ p)::IntC x v l bad mt { s with opn:=o } err 0 left (s.pc+1)::ViewC v V::R):=H5;clear H3 H4;obtain⟨c,mv,ov,q,H6⟩:=IntC.E (H5.sel e_1)
  have H6:HS g h5 (qw x (gS c mv ov v q bad err 0 left (s.pc+1) s.pc s.regs)::qy 58 5 l.length c (l.flatMap jg)::qy 3 1 mt.length mv (mt.map (.int .i64))::SlaC q s.out::
   qy 276 11 o.length ov (o.reverse.flatMap vJ)::qw b (vJ p)::ViewC v V::R):=H6
  refine qW (qQ (qX H6 .here rfl ?_));clear H6;refine qG (Ze omQ (H5.sel (P:=ViewC v V) e_2) G.ok) ?_;rintro _ h6 ⟨rfl,H6⟩;have GD:=G.dropG;clear H5;unfold vG at hD;by_cases h0:(xi V).1=0
  ·rw[iJ h0]at hD;refine q9 h0 (qJ ?_);refine qQ (qX H6 (b:=b) e_1 rfl ?_);by_cases h17:p.op=17
   ·rw[iJ h17]at hD;refine qg h17 (qZ ?_);refine qF H6 (b:=b) (off:=0) e_1 rfl omQ (l:=vJ p) rfl ?_;have H7:=H6.sub (L':=IntC x v l bad mt { s with opn:=o } err 0 left (s.pc+1)::ViewC v (xi V).2::qw b (vJ p)::R) (.cons e_2 (.cons .here (.cons .here .refl)));refine qG (qQh (s:={ s with opn:=o }) (p:=p) omQ told.1 hout H7) ?_;intro _ h8 H8;clear H6 H7;obtain⟨c,mv,ov,q,H9⟩:=IntC.E H8
    have H9:HS g h8 (qw x (gS c mv ov v q bad err 0 left (s.pc+1) s.pc p.regs)::qy 58 5 l.length c (l.flatMap jg)::qy 3 1 mt.length mv (mt.map (.int .i64))::SlaC q (s.out.take p.told)::
     qy 276 11 o.length ov (o.reverse.flatMap vJ)::ViewC v (xi V).2::qw b (vJ p)::R):=H9
    clear H8;obtain⟨kk,hk1,z,hk2,hk3,hk4⟩:=hm p (iK ..) h17;rw[MtAt.num hk1 hk2]at hD;refine qW (qQ (qX H9 (b:=x) .here rfl ?_));refine qQ (qX H9 (b:=b) e_6 rfl ?_);rw[hk1];refine jO (H9.sl e_2) (MtAt.idx hk2).1<|qc omQ<|qW (qQ ?_);refine qA H9 (b:=x) .here ⟨rfl,rfl⟩ (by show 16<19;omega) λh10 H10=>?_;have H11:HS g h10 (IntC x v l bad mt { Qo s p with opn:=o } err 0 left (z+1)::ViewC v (xi V).2::qw b (vJ p)::R):=IntC.I (s:={ Qo s p with opn:=o }) (c:=c) (mv:=mv) (ov:=ov) (o:=q) H10;clear H9 H10;refine qG (Nn (s:={ Qo s p with opn:=o }) (nx0:=z+1) omQ GD.1.ok (by simp at hlo;show o.length≤100;omega) H11) ?_;rintro _ h12 ⟨rfl,H12⟩;subst hD;have hb:(zM 18 z (z+1) { Qo s p with opn:=o } (xi V).2).blk=false∧(zM 18 z (z+1) { Qo s p with opn:=o } (xi V).2).nx=z+1:=by unfold zM;split<;>exact⟨rfl,rfl⟩
    refine qk (qj ⟨rfl,?_⟩);rw[hb.1,hb.2];exact H12.pk [0,0] 1
   ·rw[iQ h17]at hD;refine qK h17 (qJ ?_);exact hih o.length _ _ osQ ⟨o,(xi V).2,rfl,rfl,by simp at hlo;omega,H6.pk [2,0] 1,GD.1,told.tail,λr hr=>hm r (iX _ hr),hD⟩
  ·rw[iQ h0]at hD;refine jX h0 (qZ ?_);subst hD;exact qk (qj ⟨rfl,H6.pk [2,0] 1⟩)
theorem qqu {n:Nat} (hn:9≤n) {V:VM} {i:qR} (G:jI V) (hlo:s.opn.length≤100) (hout:s.out.length≤16) (told:ToldD s.out.length s.opn) (hm:∀p∈s.opn,p.op=17→MtAt mt p.pc) (hpc:0≤s.pc∧s.pc≤100)
  (hne:i.1=15∨i.1=19∨i.1=18∨i.1=16→s.opn≠[]) (hmt:i.1=18∨i.1=16→MtAt mt s.pc) (H:HS g h (IntC x v l bad mt s err 0 left (s.pc+1)::ViewC v V::R)) :
  t_w n 142 [.ptr x 0,.agg (jg i)] h λr h'=>r=.int .i64 (wB mt s V i.1).e∧
   HS g h' (IntC x v l bad mt (wB mt s V i.1).s err (if(wB mt s V i.1).blk=true then 3 else 0) left (wB mt s V i.1).nx::ViewC v (wB mt s V i.1).v::R):=by
 refine t_e2 rfl omQ λk hk=>?_;unfold S142;try simp only[iZ]
 refine qP H rfl λb h1 H1=>?_;have H1:HS g h1 (qw b (jg i)::IntC x v l bad mt s err 0 left (s.pc+1)::ViewC v V::R):=H1;refine qQ (qX H1 .here rfl ?_);refine qV ?_
 try dsimp only
 unfold wB;have HB:=H1.sub (L':=IntC x v l bad mt s err 0 left (s.pc+1)::ViewC v V::qw b (jg i)::R) (.cons e_1 (.cons e_1 (.cons .here .refl)));by_cases c1:i.1=14∨i.1=17
 ·rw[iJ c1]
  have key:wp (qt (.ptr b 0) 0 λv8=>jN h1 v8 λv9=>xm (.ptr x 0) λv10=>qt v10 15 λv11=>jN h1 v11 λv12=>
    zz (callT tab qx k) (.fn 204 [] []) [.ptr x 0,v9,v12] h1 λv13 h14=>z7 [] h14 λh15=>some (v13,h15)) λr h'=>r=.int .i64 (zM i.1 s.pc (s.pc+1) s V).e∧
   HS g h' (IntC x v l bad mt (zM i.1 s.pc (s.pc+1) s V).s err (if(zM i.1 s.pc (s.pc+1) s V).blk=true then 3 else 0) left (zM i.1 s.pc (s.pc+1) s V).nx::ViewC v (zM i.1 s.pc (s.pc+1) s V).v::R):=by
   refine qQ (qX H1 .here rfl ?_);obtain⟨c,mv,ov,q,H2⟩:=IntC.E HB;refine qW (qQ (qX H2 .here rfl ?_));refine qG (Nn (nx0:=s.pc+1) omQ G.ok hlo HB) ?_;rintro _ h12 ⟨rfl,H12⟩;have hb:(zM i.1 s.pc (s.pc+1) s V).blk=false∧(zM i.1 s.pc (s.pc+1) s V).nx=s.pc+1:=by unfold zM;split<;>exact⟨rfl,rfl⟩
   refine qk (qj ⟨rfl,?_⟩);rw[hb.1,hb.2];exact H12.pk [0,0] 1
  by_cases c2:i.1=14
  ·refine qg c2 (qZ (qZ ?_));exact key
  ·refine qK c2 (qJ ?_);refine qg omQ (qZ ?_);exact key
 ·rw[iQ c1];refine qK omQ (qJ ?_);refine qK omQ (qJ ?_);refine qV ?_
  try dsimp only
  by_cases c3:i.1=15∨i.1=19
  ·rw[iJ c3]
   have key:wp (zz (callT tab qx k) (.fn 205 [] []) [.ptr x 0] h1 λ_ h21=>xm (.ptr x 0) λv22=>qt v22 1 λv23=>jN h21 v23 λv24=>
     zz (callT tab qx k) (.fn 206 [] []) [v24] h21 λv25 h26=>z7 [] h26 λh27=>some (v25,h27)) λr h'=>r=.int .i64 (vS V).1∧
    HS g h' (IntC x v l bad mt { s with opn:=s.opn.tail } err (if false=true then 3 else 0) left (s.pc+1)::ViewC v (vS V).2::R):=by
    obtain⟨p,o,ho⟩:∃p o,s.opn=p::o:=List.exists_cons_of_ne_nil (hne omQ);refine qG (X0 omQ ho (by rw[ho]at hlo;simp at hlo;omega) HB) ?_;rintro _ h3 ⟨-,H3⟩;obtain⟨c,mv,ov,q,H4⟩:=IntC.E H3;refine qW (qQ (qX H4 .here rfl ?_));refine qG (qJ9 omQ (H3.sel e_1) G.ok) ?_;rintro _ h5 ⟨rfl,H5⟩;refine qk (qj ⟨rfl,?_⟩);rw[ho];exact H5.pk [1,0] 1
   by_cases c4:i.1=15
   ·refine qg c4 (qZ (qZ ?_));exact key
   ·refine qK c4 (qJ ?_);refine qg omQ (qZ ?_);exact key
  ·rw[iQ c3];refine qK omQ (qJ ?_);refine qK omQ (qJ ?_);by_cases c5:i.1=18
   ·rw[iJ c5];refine qg c5 (qZ ?_);obtain⟨p,o,ho⟩:∃p o,s.opn=p::o:=List.exists_cons_of_ne_nil (hne omQ);refine qG (X0 omQ ho (by rw[ho]at hlo;simp at hlo;omega) HB) ?_;rintro _ h3 ⟨-,H3⟩;obtain⟨c,mv,ov,q,H4⟩:=IntC.E H3
    have H4:HS g h3 (qw x (gS c mv ov v q bad err 0 left (s.pc+1) s.pc s.regs)::qy 58 5 l.length c (l.flatMap jg)::qy 3 1 mt.length mv (mt.map (.int .i64))::SlaC q s.out::
     qy 276 11 o.length ov (o.reverse.flatMap vJ)::ViewC v V::qw b (jg i)::R):=H4
    obtain⟨kk,hk1,z,hk2,hk3,hk4⟩:=hmt (.inl c5);rw[MtAt.num hk1 hk2,ho];refine qW (qQ (qX H4 .here rfl ?_));refine qW (qQ (qX H4 .here rfl ?_));rw[hk1];refine jO (H4.sl e_2) (MtAt.idx hk2).1<|qc omQ<|qW (qQ ?_);rw[← hk1];refine qA H4 .here ⟨rfl,rfl⟩ (by show 16<19;omega) λh10 H10=>?_;refine qW (qQ (qX H10 .here rfl ?_));have H11:HS g h10 (IntC x v l bad mt { s with opn:=o } err 0 left (z+1)::ViewC v V::qw b (jg i)::R):=IntC.I (c:=c) (mv:=mv) (ov:=ov) (o:=q) H10;refine qG (qJ9 omQ (H11.sel (P:=ViewC v V) e_1) G.ok) ?_;rintro _ h5 ⟨rfl,H5⟩;exact qk (qj ⟨rfl,H5.pk [1,0] 1⟩)
   ·rw[iQ c5];refine qK c5 (qJ ?_);by_cases c6:i.1=16
    ·rw[iJ c6];refine qg c6 (qZ ?_);obtain⟨p,o,ho⟩:∃p o,s.opn=p::o:=List.exists_cons_of_ne_nil (hne omQ);refine qG (X0 (p:=p) (o:=o) omQ ho (by rw[ho]at hlo;simp at hlo;omega) HB) ?_;rintro _ h3 ⟨rfl,H3⟩;rw[ho]at told;refine qG (qQh (s:={ s with opn:=o }) (p:=p) omQ told.1 hout H3) ?_;intro _ h4 H4';obtain⟨c,mv,ov,q,H4⟩:=IntC.E H4'
     have H4:HS g h4 (qw x (gS c mv ov v q bad err 0 left (s.pc+1) s.pc p.regs)::qy 58 5 l.length c (l.flatMap jg)::qy 3 1 mt.length mv (mt.map (.int .i64))::SlaC q (s.out.take p.told)::
      qy 276 11 o.length ov (o.reverse.flatMap vJ)::ViewC v V::qw b (jg i)::R):=H4
     obtain⟨kk,hk1,z,hk2,hk3,hk4⟩:=hmt (.inr c6);rw[MtAt.num hk1 hk2,ho];refine qW (qQ (qX H4 .here rfl ?_));refine qW (qQ (qX H4 .here rfl ?_));rw[hk1];refine jO (H4.sl e_2) (MtAt.idx hk2).1<|qc omQ<|qW (qQ ?_);refine qA H4 .here ⟨rfl,rfl⟩ (by show 16<19;omega) λh10 H10=>?_;refine qW (qQ (qX H10 .here rfl ?_));have H11:HS g h10 (IntC x v l bad mt { Qo s p with opn:=o } err 0 left (z+1)::ViewC v V::qw b (jg i)::R):=IntC.I (mv:=mv) (ov:=ov) H10;refine qG (Ze omQ (H11.sel e_1) G.ok) ?_;rintro _ h5 ⟨rfl,H5⟩;exact qk (qj ⟨rfl,H5.pk [1,0] 1⟩)
    ·rw[iQ c6];refine qK c6 (qJ ?_);refine qG (qW8 omQ G hlo hout told hm hpc HB) ?_;rintro _ h3 ⟨rfl,H3⟩;exact qk (qj ⟨rfl,H3.pk [0,0] 1⟩)
end
end
section
variable {g h:AH} {L R:List SP}
section
variable {x v:Nat} {l:List qR} {bad:Int} {mt:List Int} {s:IM} {err fin left nx:Int}
theorem qX1 {c mv ov:AV} {q a:Nat} {z:Int} {ai:Int} (hr:s.regs.length=8) (ha:a<8) (hai:ai=a)
  (H:HS g h (qw x ((gS c mv ov v q bad err fin left nx s.pc s.regs).set (6+a*1) (.int .u64 z))::qy 58 5 l.length c (l.flatMap jg)::qy 3 1 mt.length mv (mt.map (.int .i64))::SlaC q s.out::
  qy 276 11 s.opn.length ov (s.opn.reverse.flatMap vJ)::R)):HS g h (IntC x v l bad mt (setR s ai z) err fin left nx::R):=by
 rw[qw1 hr ha]at H;have e:s.regs.set a z=(setR s ai z).regs:=by unfold setR;rw[hai,Int.toNat_natCast]
 rw[e]at H;exact IntC.I H
theorem qWI {n:Nat} (hn:12≤n) {V:VM} {i:qR} {a:Nat} (G:jI V) (ro:Jo s.regs) (hop:i.1=8∨i.1=9∨i.1=10∨i.1=11) (ha:a<8) (hai:i.2.1=a) (hc:0≤i.2.2.2.1∧i.2.2.2.1≤100)
  (H:HS g h (IntC x v l bad mt s err fin left nx::ViewC v V::R)) :
  t_w n 141 [.ptr x 0,.agg (jg i),.ptr x (6+a*1),.int .u64 (qM s.regs i.2.2.1)] h λr h'=>r=.int .i64 (jh s V i).1∧
   HS g h' (IntC x v l bad mt (jh s V i).2.1 err fin left nx::ViewC v (jh s V i).2.2::R):=by
 refine t_e4 rfl omQ λk hk=>?_;unfold S141;try simp only[iZ]
 refine qP H rfl λb h1 H1=>?_;have H1:HS g h1 (qw b (jg i)::IntC x v l bad mt s err fin left nx::ViewC v V::R):=H1;have HB:=H1.sub (L':=IntC x v l bad mt s err fin left nx::ViewC v V::qw b (jg i)::R) (.cons e_1 (.cons e_1 (.cons .here .refl)));obtain⟨c,mv,ov,q,H2⟩:=IntC.E HB;refine qQ (qX H1 .here rfl ?_);have hra:=ro.at (a:Int);have hrb:=ro.at i.2.2.1;unfold jh;rw[hai];by_cases c8:i.1=8
 ·rw[iJ c8];refine qg c8 (qZ ?_);refine qQ (qX H1 .here rfl ?_);refine qG (NM omQ hrb hc) ?_;rintro _ _ ⟨rfl,rfl⟩;refine qC rfl (qC rfl ?_);by_cases h0:(yl (qM s.regs i.2.2.1) i.2.2.2.1).2=0
  ·rw[iJ h0];refine q9 h0 (qJ ?_);refine qW (qQ (qX H2 .here rfl ?_));refine qG (JD omQ (HB.sel e_1) G.ok) ?_;rintro _ h3 ⟨rfl,H3⟩;refine qC rfl (qC rfl ?_);refine qV ?_
   try dsimp only
   by_cases h4:(qi V (yl (qM s.regs i.2.2.1) i.2.2.2.1).1).1.2=0
   ·rw[iJ h4];refine qg h4 (qZ ?_);obtain⟨c,mv,ov,q,H5⟩:=IntC.E (H3.sel e_1);refine qW (qA H5 .here ⟨rfl,rfl⟩ (by show 6+a*1<19;omega) λh6 H6=>?_);refine qk (qj ⟨by rw[h4],?_⟩);exact(qX1 ro.len ha rfl H6).pk [0,0] 1
   ·rw[iQ h4];refine qK h4 (qJ ?_);exact qk (qj ⟨rfl,H3.pk [1,0] 1⟩)
  ·rw[iQ h0];refine jX h0 (qZ ?_);refine qj ⟨?_,HB.pk [0,0] 1⟩;unfold yl at h0 ⊢
   split
   ·rfl
   ·rename_i hh;rw[iQ hh]at h0;exact absurd rfl h0
 ·rw[iQ c8];refine qK c8 (qJ ?_);by_cases c9:i.1=9
  ·rw[iJ c9];refine qg c9 (qZ ?_);refine qW (qX H2 .here (GZ ha) ?_);refine qQ (qX H1 .here rfl ?_);refine qG (NM omQ hra hc) ?_;rintro _ _ ⟨rfl,rfl⟩;refine qC rfl (qC rfl ?_);by_cases h0:(yl (qM s.regs (a:Int)) i.2.2.2.1).2=0
   ·rw[iJ h0];refine q9 h0 (qJ ?_);refine qW (qQ (qX H2 .here rfl ?_));refine qG (qWS omQ (HB.sel e_1) G.ok) ?_;rintro _ h3 ⟨rfl,H3⟩;exact qj ⟨rfl,H3.pk [1,0] 1⟩
   ·rw[iQ h0];refine jX h0 (qZ ?_);refine qj ⟨?_,HB.pk [0,0] 1⟩;unfold yl at h0 ⊢
    split
    ·rfl
    ·rename_i hh;rw[iQ hh]at h0;exact absurd rfl h0
  ·rw[iQ c9];refine qK c9 (qJ ?_);by_cases c10:i.1=10
   ·rw[iJ c10];refine qg c10 (qZ ?_);by_cases h0:2147483648≤qM s.regs i.2.2.1
    ·rw[iJ h0];refine zc omQ (qZ ?_);exact qj ⟨rfl,HB.pk [0,0] 1⟩
    ·rw[iQ h0];refine zF omQ (qJ ?_);refine qW (qQ (qX H2 .here rfl ?_));refine xU omQ<|qG (qV5 omQ (HB.sel e_1) G.ok G.wd) ?_;rintro _ h3 ⟨rfl,H3⟩;refine qC rfl (qC rfl ?_);refine qV ?_
     try dsimp only
     by_cases h4:(xG V (qM s.regs i.2.2.1)).1.2=0
     ·rw[iJ h4];have hb:=qVR (x:=qM s.regs i.2.2.1) G.wd h4;refine qg h4 (qZ ?_);obtain⟨c,mv,ov,q,H5⟩:=IntC.E (H3.sel e_1);refine QV omQ (qW ?_);refine qA H5 .here ⟨rfl,rfl⟩ (by show 6+a*1<19;omega) λh6 H6=>?_;refine qk (qj ⟨by rw[h4],?_⟩);exact(qX1 ro.len ha rfl H6).pk [0,0] 1
     ·rw[iQ h4];refine qK h4 (qJ ?_);exact qk (qj ⟨rfl,H3.pk [1,0] 1⟩)
   ·rw[iQ c10];refine qK c10 (qJ ?_);refine qW (qX H2 .here (GZ ha) ?_);by_cases h0:2147483648≤qM s.regs (a:Int)
    ·rw[iJ h0];refine zc omQ (qZ ?_);exact qj ⟨rfl,HB.pk [0,0] 1⟩
    ·rw[iQ h0];refine zF omQ (qJ ?_);refine qW (qQ (qX H2 .here rfl ?_));refine qW (qX H2 .here (GZ ha) ?_);refine xU omQ<|qG (qqF omQ (HB.sel e_1) G.ok) ?_;rintro _ h3 ⟨rfl,H3⟩;exact qj ⟨rfl,H3.pk [1,0] 1⟩
structure DoP (l:List qR) (mt:List Int) (s:IM) (V:VM) (i:qR):Prop where
  good:jI V
  regs:Jo s.regs
  out:s.out.length≤16
  lo:s.opn.length≤100
  told:ToldD s.out.length s.opn
  ways:∀p∈s.opn,p.op=17→MtAt mt p.pc
  pc:0≤s.pc∧s.pc≤100
  op:1≤i.1∧i.1<23
  a:0≤i.2.1∧i.2.1≤7
  b:0≤i.2.2.1∧i.2.2.1≤7
  c:0≤i.2.2.2.1∧i.2.2.2.1≤100
  c7:3≤i.1∧i.1≤7→i.2.2.2.1≤7
  ne:i.1=15∨i.1=19∨i.1=18∨i.1=16→s.opn≠[]
  mt:i.1=18∨i.1=16→MtAt mt s.pc
theorem jQ0 {n:Nat} (hn:13≤n) {V:VM} {i:qR} (P:DoP l mt s V i) (H:HS g h (IntC x v l bad mt s err 0 left (s.pc+1)::ViewC v V::R)) :
  t_w n 87 [.ptr x 0,.agg (jg i)] h λr h'=>r=.int .i64 (doM mt s V i).e∧
   HS g h' (IntC x v l bad mt (doM mt s V i).s err (if(doM mt s V i).blk=true then 3 else 0) left (doM mt s V i).nx::ViewC v (doM mt s V i).v::R):=by
 refine t_e2 rfl omQ λk hk=>?_;unfold S87;try simp only[iZ]
 refine qP H rfl λb h1 H1=>?_;clear H;have H1:HS g h1 (qw b (jg i)::IntC x v l bad mt s err 0 left (s.pc+1)::ViewC v V::R):=H1;have HB:=H1.sub (L':=IntC x v l bad mt s err 0 left (s.pc+1)::ViewC v V::qw b (jg i)::R) (.cons e_1 (.cons e_1 (.cons .here .refl)));obtain⟨c,mv,ov,q,H2⟩:=IntC.E HB;obtain⟨a,ha1,ha2,ha3⟩:=qzf P.a.1;obtain⟨bb,hb1,hb2,hb3⟩:=qzf P.b.1;obtain⟨cc,hc1,hc2,hc3⟩:=qzf P.c.1;have ha3:=ha3 (by have:=P.a.2;omega);have hb3:=hb3 (by have:=P.b.2;omega);have ro:=P.regs;have hop:=P.op;have hc7:=P.c7;refine qQ (qX H1 .here rfl (JT od ?_));rw[ha1];refine qW (qQ (ZD ha2 ?_));refine qQ (qX H1 .here rfl (JT od ?_));rw[hb1];refine qW (qQ (ZD hb2 ?_));refine qX H2 .here (GZ hb2)<|qQ (qX H1 .here rfl (JT od ?_));rw[hc1];refine qW (qQ (ZD hc2 ?_));refine qX H2 .here (GZ hc2)<|qQ (qX H1 .here rfl ?_);refine qV ?_
 try dsimp only
 have fin:∀(z:Int) (D:SM) (h0:AH),D=⟨0,s.pc+1,false,setR s i.2.1 z,V⟩→HS g h0 (IntC x v l bad mt s err 0 left (s.pc+1)::ViewC v V::qw b (jg i)::R)→
   wp (xm (.ptr x (6+a*1)) λv32=>jd h0 v32 (.int .u64 z) 1 λh33=>z7 [] h33 λh28=>some (.int .i64 ((0:Nat):Int),h28)) λr h'=>r=.int .i64 D.e∧
    HS g h' (IntC x v l bad mt D.s err (if D.blk=true then 3 else 0) left D.nx::ViewC v D.v::R):=by
  rintro z D h0 rfl H0;obtain⟨c,mv,ov,q,H5⟩:=IntC.E H0;refine qW (qA H5 .here ⟨rfl,rfl⟩ (by show 6+a*1<19;omega) λh6 H6=>?_);refine qk (qj ⟨rfl,?_⟩);exact(qX1 ro.len ha2 ha3 H6).pk [0,0] 1
 by_cases c1:i.1=1
 ·refine qg c1 (qZ ?_);refine qQ (qX H1 .here rfl ?_);exact fin _ _ _ (by unfold doM;rw[iJ c1]) HB
 refine qK c1 (qJ ?_);by_cases c2:i.1=2
 ·refine qg c2 (qZ ?_);exact fin _ _ _ (by unfold doM;rw[iQ c1,iJ c2,hb3]) HB
 refine qK c2 (qJ ?_);by_cases c3:i.1=3
 ·refine qg c3 (qZ (ZU ?_));have hc3:=hc3 (by have:=hc7 omQ;omega);exact fin _ _ _ (by unfold doM;rw[iQ c1,iQ c2,iJ c3,hb3,hc3]) HB
 refine qK c3 (qJ ?_);by_cases c4:i.1=4
 ·refine qg c4 (qZ (qXA ?_));have hc3:=hc3 (by have:=hc7 omQ;omega);exact fin _ _ _ (by unfold doM;rw[iQ c1,iQ c2,iQ c3,iJ c4,hb3,hc3]) HB
 refine qK c4 (qJ ?_);by_cases c5:i.1=5
 ·refine qg c5 (qZ (qzU ?_));have hc3:=hc3 (by have:=hc7 omQ;omega);exact fin _ _ _ (by unfold doM;rw[iQ c1,iQ c2,iQ c3,iQ c4,iJ c5,hb3,hc3]) HB
 refine qK c5 (qJ ?_);by_cases c6:i.1=6
 ·refine qg c6 (qZ (Q2 ?_));have hc3:=hc3 (by have:=hc7 omQ;omega);refine qG (OW omQ) ?_;rintro _ _ ⟨rfl,rfl⟩;exact fin _ _ _ (by unfold doM;rw[iQ c1,iQ c2,iQ c3,iQ c4,iQ c5,iJ c6,hb3,hc3]) HB
 refine qK c6 (qJ ?_);by_cases c7:i.1=7
 ·refine qg c7 (qZ (Xh ?_));have hc3:=hc3 (by have:=hc7 omQ;omega);refine qG (OW omQ) ?_;rintro _ _ ⟨rfl,rfl⟩;exact fin _ _ _ (by unfold doM;rw[iQ c1,iQ c2,iQ c3,iQ c4,iQ c5,iQ c6,iJ c7,hb3,hc3]) HB
 refine qK c7 (qJ ?_);by_cases c12:i.1=12
 ·refine qg c12 (qZ ?_);have e:doM mt s V i=⟨0,i.2.2.2.1,false,s,V⟩:=by unfold doM;rw[iQ c1,iQ c2,iQ c3,iQ c4,iQ c5,iQ c6,iQ c7,iJ c12]
  rw[e];refine qQ (qX H1 .here rfl ?_);refine qW (qQ ?_);refine qA H2 .here ⟨rfl,rfl⟩ (by show 16<19;omega) λh6 H6=>?_;exact qk (qj ⟨rfl,(IntC.I (mv:=mv) (ov:=ov) H6).pk [0,0] 1⟩)
 refine qK c12 (qJ ?_);by_cases c13:i.1=13
 ·refine qg c13 (qZ ?_);have e:doM mt s V i=⟨0,if qM s.regs i.2.1=0 then i.2.2.2.1 else s.pc+1,false,s,V⟩:=by unfold doM;rw[iQ c1,iQ c2,iQ c3,iQ c4,iQ c5,iQ c6,iQ c7,iQ c12,iJ c13]
  rw[e,ha3];refine qW (qX H2 .here (GZ ha2) ?_);by_cases hz:qM s.regs (a:Int)=0
  ·rw[iJ hz];refine qg hz (qZ ?_);refine qQ (qX H1 .here rfl ?_);refine qW (qQ ?_);refine qA H2 .here ⟨rfl,rfl⟩ (by show 16<19;omega) λh6 H6=>?_;exact qk (qj ⟨rfl,(IntC.I (mv:=mv) (ov:=ov) (o:=q) H6).pk [0,0] 1⟩)
  ·rw[iQ hz];refine qK hz (qJ ?_);exact qk (qj ⟨rfl,HB.pk [0,0] 1⟩)
 refine qK c13 (qJ ?_);by_cases c21:i.1=21
 ·refine qg c21 (qZ ?_);refine qW (qQ (qX H2 (b:=x) .here rfl ?_));refine qW (qX H2 (b:=x) .here (GZ ha2) ?_);refine qG (qk3 omQ (H2.sel (P:=SlaC q s.out) e_3) P.out) ?_;rintro _ h3 ⟨rfl,H3⟩;by_cases h16:16≤s.out.length
  ·have e:doM mt s V i=⟨5,s.pc+1,false,s,V⟩:=by unfold doM;rw[iQ c1,iQ c2,iQ c3,iQ c4,iQ c5,iQ c6,iQ c7,iQ c12,iQ c13,iJ c21,iJ h16]
   rw[e];rw[iQ omQ]at H3;rw[iV omQ];refine jA (qZ ?_);exact qj ⟨rfl,(IntC.I (c:=c) (mv:=mv) (ov:=ov) (o:=q) (R:=ViewC v V::qw b (jg i)::R) (H3.pk [1,1,1,0,0] 0)).pk [0,0] 1⟩
  ·have e:doM mt s V i=⟨0,s.pc+1,false,{ s with out:=s.out++[(1,qM s.regs i.2.1)] },V⟩:=by unfold doM;rw[iQ c1,iQ c2,iQ c3,iQ c4,iQ c5,iQ c6,iQ c7,iQ c12,iQ c13,iJ c21,iQ h16]
   rw[e,ha3];rw[iJ omQ]at H3;rw[iG omQ];refine jk (qJ ?_);exact qk (qj ⟨rfl,(IntC.I (s:={ s with out:=s.out++[(1,qM s.regs (a:Int))] }) (c:=c) (mv:=mv) (ov:=ov) (o:=q) (R:=ViewC v V::qw b (jg i)::R) (H3.pk [1,1,1,0,0] 0)).pk [0,0] 1⟩)
 refine qK c21 (qJ ?_);by_cases c22:i.1=22
 ·refine qg c22 (qZ ?_);have e:doM mt s V i=⟨13,s.pc+1,false,s,V⟩:=by unfold doM;rw[iQ c1,iQ c2,iQ c3,iQ c4,iQ c5,iQ c6,iQ c7,iQ c12,iQ c13,iQ c21,iJ c22]
  rw[e];exact qj ⟨rfl,HB.pk [0,0] 1⟩
 refine qK c22 (qJ ?_);refine qK omQ (qJ ?_);refine qV ?_
 try dsimp only
 by_cases ct:i.1=8∨i.1=9∨i.1=10∨i.1=11
 ·have e:doM mt s V i=⟨(jh s V i).1,s.pc+1,false,(jh s V i).2.1,(jh s V i).2.2⟩:=by unfold doM;rw[iQ c1,iQ c2,iQ c3,iQ c4,iQ c5,iQ c6,iQ c7,iQ c12,iQ c13,iQ c21,iQ c22,iJ ct]
  rw[e];have key:wp (zO h1 (.ptr b 0) 5 λv94=>zz (callT tab qx k) (.fn 141 [] []) [.ptr x 0,v94,.ptr x (6+a*1),.int .u64 (qM s.regs (bb:Int))] h1 λv95 h96=>z7 [] h96 λh97=>some (v95,h97)) λr h'=>
    r=.int .i64 (jh s V i).1∧HS g h' (IntC x v l bad mt (jh s V i).2.1 err (if false=true then 3 else 0) left (s.pc+1)::ViewC v (jh s V i).2.2::R):=by
   refine qF H1 (b:=b) (off:=0) .here rfl omQ (l:=jg i) rfl ?_;rw[← hb3];refine qG (qWI omQ P.good ro ct ha2 ha3 P.c HB) ?_;rintro _ h3 ⟨rfl,H3⟩;exact qk (qj ⟨rfl,H3.pk [0,0] 1⟩)
  by_cases t8:i.1=8
  ·refine qg t8 (qZ (qZ ?_));exact key
  refine qK t8 (qJ ?_);by_cases t9:i.1=9
  ·refine qg t9 (qZ (qZ ?_));exact key
  refine qK t9 (qJ ?_);by_cases t10:i.1=10
  ·refine qg t10 (qZ (qZ ?_));exact key
  refine qK t10 (qJ ?_);refine qg omQ (qZ ?_);exact key
 ·have e:doM mt s V i=wB mt s V i.1:=by unfold doM;rw[iQ c1,iQ c2,iQ c3,iQ c4,iQ c5,iQ c6,iQ c7,iQ c12,iQ c13,iQ c21,iQ c22,iQ ct]
  rw[e];refine qK omQ (qJ ?_);refine qK omQ (qJ ?_);refine qK omQ (qJ ?_);refine qK omQ (qJ ?_);refine qF H1 (b:=b) (off:=0) .here rfl omQ (l:=jg i) rfl<|qG (qqu omQ P.good P.lo P.out P.told P.ways P.pc P.ne P.mt HB) ?_;rintro _ h3 ⟨rfl,H3⟩;exact qk (qj ⟨rfl,H3.pk [0,0] 1⟩)
end
end
section
variable {g h:AH} {L R:List SP}
theorem gd {a:List Int} {k:Nat} (h:k<a.length):a[k]? =some (qM a (k:Int)):=by unfold qM;rw[Int.toNat_natCast,iW h];rfl
theorem qVB {x:qR} (h:gQ x=true) (hx:x.1≠23):(1≤x.1∧x.1<23)∧(0≤x.2.1∧x.2.1≤7)∧(0≤x.2.2.1∧x.2.2.1≤7)∧(0≤x.2.2.2.1∧x.2.2.2.1≤40)∧(3≤x.1∧x.1≤7→x.2.2.2.1≤7):=by
 unfold gQ vu at h;simp only[Bool.and_eq_true,decide_eq_true_eq]at h;obtain⟨⟨⟨⟨h1,h2⟩,h3⟩,h4⟩,_⟩:=h;unfold ja at h2 h3 h4;by_cases c1:x.1=1∨x.1=11∨x.1=21
 ·rw[iJ c1]at h2 h3 h4;dsimp only at h2 h3 h4;omega
 rw[iQ c1]at h2 h3 h4;by_cases c2:x.1=2∨x.1=10
 ·rw[iJ c2]at h2 h3 h4;dsimp only at h2 h3 h4;omega
 rw[iQ c2]at h2 h3 h4;by_cases c3:x.1=3∨x.1=4∨x.1=5∨x.1=6∨x.1=7
 ·rw[iJ c3]at h2 h3 h4;dsimp only at h2 h3 h4;omega
 rw[iQ c3]at h2 h3 h4;by_cases c4:x.1=8∨x.1=9
 ·rw[iJ c4]at h2 h3 h4;dsimp only at h2 h3 h4;omega
 rw[iQ c4]at h2 h3 h4;by_cases c5:x.1=12
 ·rw[iJ c5]at h2 h3 h4;dsimp only at h2 h3 h4;omega
 rw[iQ c5]at h2 h3 h4;by_cases c6:x.1=13
 ·rw[iJ c6]at h2 h3 h4;dsimp only at h2 h3 h4;omega
 rw[iQ c6,iQ hx]at h2 h3 h4;dsimp only at h2 h3 h4;omega
theorem Zm {l:List qR} (F:Fit l) {k:Nat} (hk:k<l.length) (ho:(qS l k).1=14∨(qS l k).1=17∨(qS l k).1=18∨(qS l k).1=16):MtAt (qO l) (k:Int):=by
 have hl:=F.le;refine⟨k,rfl,_,gd (by rw[qWO];exact hk),?_⟩;by_cases h:(qS l k).1=16
 ·obtain⟨e,e1,e2,_⟩:=QA F hk h;rw[e1];omega
 ·obtain⟨e,e1,_,e2,_⟩:=gM F hk omQ;rw[e1];omega
theorem jQd {l:List qR} {s:IM} {V:VM} (F:Fit l) (G:GI l s V) {i:Nat} (hi:s.pc=i) (hlt:i<l.length) (hx:(qS l i).1≠23):DoP l (qO l) s V (qS l i):=by
 have hw:=yF (F.ok i hlt);have hwo:=xH (F.ok i hlt);have hb:=qVB hw.1 hx;have hol:=Uc G;have h5:=VB F i omQ;have hl:=F.le;rw[hi,Int.toNat_natCast]at hol;refine⟨G.good,G.gb.regs,G.gb.out,by omega,G.told,?_,by omega,hb.1,hb.2.1,hb.2.2.1,by omega,hb.2.2.2.2,?_,?_⟩
 ·intro p hp hop;obtain⟨q,hq,hql⟩:=(G.pts p hp).pc;have:=(G.pts p hp).op.2;rw[hop,hq]at this;rw[hq];exact Zm F hql omQ
 ·intro ho h0;rw[h0]at hol;have he:0<zX (qS l i).1∨(qS l i).1=16:=by
   rcases ho with h |h |h |h
   ·exact .inl (by rw[h];decide)
   ·exact .inl (by rw[h];decide)
   ·exact .inl (by rw[h];decide)
   ·exact .inr h
  exact hwo.2.1 he (iA hol.symm)
 ·intro ho;rw[hi];exact Zm F hlt omQ
def Quiet (l:List qR):Prop:=∀x∈l,x.1≠23∧0≤x.2.2.2.2∧x.2.2.2.2<18446744073709551616
theorem Quiet.at {l:List qR} (Q:Quiet l) {i:Nat} (h:i<l.length):(qS l i).1≠23∧0≤(qS l i).2.2.2.2∧(qS l i).2.2.2.2<18446744073709551616:=by rw[yQ h];exact Q _ (List.getElem_mem h)
structure RunB (V:VM) (r:RM):Prop where
  gb:GB r.s
  good:jI r.v
  sz:r.v.sz=V.sz
  K:r.v.K=V.K
  most:r.v.most=V.most
theorem Yu {l:List qR} (F:Fit l) (Q:Quiet l):∀(n:Nat) {s:IM} {V:VM},GI l s V→frS V.lv+n<9000→RunB V (jL l (qO l) n s V)∧frS (jL l (qO l) n s V).v.lv≤frS V.lv+n∧
  ((jL l (qO l) n s V).kind=2→(jL l (qO l) n s V).v.lv.length=1)∧
  ((jL l (qO l) n s V).kind=1→GI l (jL l (qO l) n s V).s (jL l (qO l) n s V).v∧1≤(jL l (qO l) n s V).v.need∧(jL l (qO l) n s V).v.need<V.sz∧zg (jL l (qO l) n s V).v.need V.K=none)∧
  ((jL l (qO l) n s V).kind=1∨(jL l (qO l) n s V).kind=2∨(jL l (qO l) n s V).kind=3∨(jL l (qO l) n s V).kind=4):=by
 intro n
 induction n with
 |zero=>
  intro s V G hf;rw[gc]
  split
  ·rename_i h0;refine⟨⟨G.gb,G.good,rfl,rfl,rfl⟩,by simp,λ_=>?_,λh=>(by cases h),by simp⟩;have:=Uc G;rw[h0,Int.toNat_natCast,F.nil]at this;have hl:=G.lv;rw[hl,this];rfl
  ·exact⟨⟨G.gb,G.good,rfl,rfl,rfl⟩,by simp,λh=>(by cases h),λh=>(by cases h),by simp⟩
 |succ n ih=>
  intro s V G hf;rw[ww]
  split
  ·rename_i h0;refine⟨⟨G.gb,G.good,rfl,rfl,rfl⟩,by simp,λ_=>?_,λh=>(by cases h),by simp⟩;have:=Uc G;rw[h0,Int.toNat_natCast,F.nil]at this;have hl:=G.lv;show V.lv.length=1;rw[hl,this];rfl
  ·rename_i h0;obtain⟨i,hi,hil⟩:=G.pc;have hlt:i<l.length:=by omega
   rw[hi];have S:=Jt F G hi hlt omQ (Q.at hlt).2 (Q.at hlt).1;generalize doM (qO l) s V (qS l i)=D at*
   split
   ·rename_i h1
    split
    ·exact⟨⟨⟨S.gb.regs,S.gb.out,S.gb.its⟩,S.good,S.sz,S.K,S.most⟩,by have:=S.fr;dsimp only;omega,λh=>(by cases h),λh=>(by cases h),by simp⟩
    ·rename_i h2;have G2:=S.next h1 (by simpa using h2);have hfr:=S.fr;obtain⟨a,b,c,d,e⟩:=ih G2 omQ;refine⟨⟨a.gb,a.good,a.sz.trans S.sz,a.K.trans S.K,a.most.trans S.most⟩,by omega,c,λh=>?_,e⟩;have:=d h;rw[S.sz,S.K]at this;exact this
   ·split
    ·rename_i h11;obtain⟨n1,n2,n3,n4,n5⟩:=S.need h11;refine⟨⟨S.gb,S.good,S.sz,S.K,S.most⟩,by have:=S.fr;dsimp only;omega,λh=>(by cases h),λ_=>⟨?_,n3,n4,n5⟩,by simp⟩;show GI l D.s D.v;rw[n1];exact⟨G.gb,G.pc,G.pts,G.told,G.stk,by rw[n2];exact G.lv,S.good⟩
    ·exact⟨⟨S.gb,S.good,S.sz,S.K,S.most⟩,by have:=S.fr;dsimp only;omega,λh=>(by cases h),λh=>(by cases h),by simp⟩
section
variable {x v:Nat} {l:List qR} {bad:Int} {mt:List Int} {s:IM} {err fin left nx:Int}
theorem qVd {n:Nat} (hn:14≤n) (F:Fit l) (Q:Quiet l) {left:Nat} {V:VM} (G:GI l s V) (hf:frS V.lv+left<9000) (hl:left≤1000) (H:HS g h (IntC x v l 0 (qO l) s 0 0 left nx::ViewC v V::R)) :
  t_w n 42 [.ptr x 0] h λr h'=>r=.int .i64 (jL l (qO l) left s V).kind∧
   ∃nx',HS g h' (IntC x v l 0 (qO l) (jL l (qO l) left s V).s (jL l (qO l) left s V).err (if(jL l (qO l) left s V).kind=1 then 0 else(jL l (qO l) left s V).kind) ((jL l (qO l) left s V).left:Int) nx'::ViewC v (jL l (qO l) left s V).v::R):=by
 refine t_e1 rfl omQ λk hk=>?_;unfold S42;try simp only[iZ]
 generalize hRM:jL l (qO l) left s V=RM
 refine jM (λm st h'=>st=(.ptr x 0,())∧((∃(s':IM) (V':VM) (left':Nat) (nx':Int),m=left'+1∧left'≤1000∧GI l s' V'∧frS V'.lv+left'<9000∧jL l (qO l) left' s' V'=RM∧HS g h' (IntC x v l 0 (qO l) s' 0 0 left' nx'::ViewC v V'::R))∨
   (m=0∧RM.kind≠0∧RM.kind≠1∧∃nx',HS g h' (IntC x v l 0 (qO l) RM.s RM.err RM.kind RM.left nx'::ViewC v RM.v::R))))
  ?_ omQ ⟨rfl,.inl ⟨s,V,left,nx,rfl,hl,G,hf,hRM,H⟩⟩
 clear H G hf hRM hl;rintro m ih st h2 hih ⟨rfl,⟨s,V,left,nx,rfl,hl,G,hf,hRM,H⟩ |⟨rfl,hk0,hk1,nx,H⟩⟩
 rotate_left
 ·obtain⟨c,mv,ov,q,H1⟩:=IntC.E H;refine qW (qQ (qX H1 .here rfl ?_));refine qK hk0 (qJ ?_);refine qW (qQ (qX H1 .here rfl ?_));refine qk (qj ⟨rfl,nx,?_⟩);rw[iQ hk1];exact H
 obtain⟨i,hi,hil⟩:=G.pc;have hlen:=F.le;obtain⟨c,mv,ov,q,H1⟩:=IntC.E H;refine qW (qQ (qX H1 .here rfl ?_));refine qg rfl (qZ ?_);refine qV ?_
 try dsimp only
 refine qW (qQ (qX H1 .here rfl ?_));refine q9 rfl (qJ ?_);refine qW (qQ (qX H1 .here rfl ?_));refine qW (qQ (qQ (qX H1 .here rfl ?_)));refine qm H1 e_1 ?_;by_cases h0:s.pc=l.length
 ·refine qg h0 (qZ ?_);rw[MX h0]at hRM;subst hRM;refine qW (qQ ?_);refine qA H1 .here ⟨rfl,rfl⟩ (by show 5<19;omega) λh3 H3=>?_;exact hih 0 _ _ omQ ⟨rfl,.inr ⟨rfl,by show(2:Int)≠0;decide,by show(2:Int)≠1;decide,nx,IntC.I (mv:=mv) (ov:=ov) H3⟩⟩
 refine qK h0 (qJ ?_);refine qW (qQ (qX H1 .here rfl ?_));cases left with
 |zero=>refine qg rfl (qZ ?_);rw[gc,iQ h0]at hRM;subst hRM;refine qG (Z5 omQ H) ?_;intro _ h3 H3;exact hih 0 _ _ omQ ⟨rfl,.inr ⟨rfl,by show(4:Int)≠0;decide,by show(4:Int)≠1;decide,nx,H3⟩⟩
 |succ left=>
  refine qK omQ (qJ ?_);rw[ww,iQ h0]at hRM;have hlt:i<l.length:=by omega
  have S:=Jt F G hi hlt omQ (Q.at hlt).2 (Q.at hlt).1;have P:=jQd F G hi hlt (Q.at hlt).1;refine qW (qQ (qX H1 .here rfl ?_));rw[hi];refine qc omQ (qW (qQ ?_));refine qA H1 .here ⟨rfl,rfl⟩ (by show 16<19;omega) λh3 H3=>?_;refine qW (qQ (qQ (qX H3 .here rfl ?_)));refine qW (qQ (qX H3 .here rfl ?_));rw[hi];refine zd (H3.sl e_1) hlt omQ (YO hlt) ?_;have H4:HS g h3 (IntC x v l 0 (qO l) s 0 0 ((left+1:Nat):Int) (s.pc+1)::ViewC v V::R):=IntC.I (mv:=mv) (ov:=ov) (by rw[hi]at H3 ⊢;exact H3);clear H H1 H3;rw[← yQ hlt];refine qG (jQ0 omQ P H4) ?_;rintro _ h5 ⟨rfl,H5⟩;rw[hi]at hRM;generalize doM (qO l) s V (qS l i)=D at*;refine qV ?_
  try dsimp only
  obtain⟨c,mv,ov,q,H6⟩:=IntC.E H5;by_cases h1:D.e=0
  ·refine qg h1 (qZ ?_);rw[iJ h1]at hRM;refine qW (qQ (qX H6 .here rfl ?_));refine qW (qQ ?_);refine qA H6 .here ⟨rfl,rfl⟩ (by show 15<19;omega) λh7 H7=>?_;refine qW (qQ (qX H7 .here rfl ?_));refine zJ omQ (qW (qQ ?_));rw[show((left+1:Nat):Int)-((1:Nat):Int)=(left:Int) by omega];refine qA H7 .here ⟨rfl,rfl⟩ (by show 17<19;omega) λh8 H8=>?_;have H9:HS g h8 (IntC x v l 0 (qO l) { D.s with pc:=D.nx } 0 (if D.blk=true then 3 else 0) left D.nx::ViewC v D.v::R):=IntC.I (mv:=mv) (ov:=ov) H8;clear H6 H7 H8 H5;cases h2:D.blk with
   |true=>rw[h2,iJ rfl]at hRM;rw[h2,iJ rfl]at H9;subst hRM;exact hih 0 _ _ omQ ⟨rfl,.inr ⟨rfl,by show(3:Int)≠0;decide,by show(3:Int)≠1;decide,D.nx,H9⟩⟩
   |false=>rw[h2,iQ osQ]at hRM;rw[h2,iQ osQ]at H9;have:=S.fr;exact hih (left+1) _ _ omQ ⟨rfl,.inl ⟨_,D.v,left,D.nx,rfl,by omega,S.next h1 h2,by omega,hRM,H9⟩⟩
  ·refine qK h1 (qJ ?_);rw[iQ h1]at hRM;have hb:D.blk=false:=by
    cases hb:D.blk with
    |false=>rfl
    |true=>exact absurd (S.bl hb) h1
   rw[hb,iQ osQ]at H5;by_cases h11:D.e=11
   ·rw[iJ h11]at hRM;subst hRM;refine qg h11 (qZ ?_);refine qk (qj ⟨rfl,D.nx,?_⟩);rw[iJ rfl];exact H5
   ·rw[iQ h11]at hRM;subst hRM;refine qK h11 (qJ ?_);refine qG (Z5 omQ H5) ?_;intro _ h7 H7;exact hih 0 _ _ omQ ⟨rfl,.inr ⟨rfl,by show(4:Int)≠0;decide,by show(4:Int)≠1;decide,D.nx,H7⟩⟩
end
end
section
variable {g h:AH} {L R:List SP}
def KL (l:List qR):List Int:=if(zb l).2=0 then qO l else[]
theorem qZO {n:Nat} (hn:7≤n) {l:List qR} {sv:AV} (H:HS g h R) (S:Rd g R 5 l.length sv (l.flatMap jg)) (hl:l.length≤100) :
  t_w n 84 [.agg [sv]] h λv h'=>HS g h' (qy 3 1 (KL l).length v ((KL l).map (.int .i64))::R):=by
 refine t_e1 rfl omQ λk hk=>?_;unfold S84;try simp only[iZ]
 refine qP H (vQ (kh (S.sl H))) λb0 h1 H1=>?_;have hLV:=(S.sl H).lenV;clear H;refine qF H1 .here rfl omQ rfl<|qG (Ok omQ H1 S.more hl) ?_;rintro _ h2 ⟨rfl,H2⟩;clear H1;refine qC rfl<|qC rfl ?_;by_cases c0:(zb l).2=0
 rotate_left
 ·refine jX c0<|qZ ?_;unfold KL;rw[iQ c0];exact qj H2.drop.nils
 have hG:=Ve c0;have F:=gu c0;have hnr:=λ{j:Nat} (h:j<l.length)=>wT F h;have hrg:=λ{j:Nat} (h:j<l.length)=>F.reg j h;unfold KL;rw[iJ c0];have hM:qO l=mt2 l (vU l 0 []) l.length:=rfl;rw[hM];clear hM;refine q9 c0<|qJ (qF H2 (b:=b0) (off:=0) .here rfl omQ rfl ?_);refine qG (K4 omQ H2 S.more hG hl) ?_;intro av h3 H3;clear H2;refine qQ (qX ‹_› e_1 rfl ?_);refine yU ‹_›<|Xe (n:=l.length) H3 omQ λev h4 H4=>?_;refine qm H4 .here ?_;clear H3;have hA:(vU l 0 []).length=l.length:=Uo;have hin:=λ{i:Nat}=>jJA (i:=i) hG;generalize vU l 0 []=A at*
 refine jM (λm s h'=>∃(i:Nat),s=(.int .i64 (i:Int),.int .i64 (l.length:Int),ev,av,.ptr b0 0,())∧i≤l.length∧m=l.length-i∧
  HS g h' (qy 3 1 l.length ev ((List.replicate i (-1:Int)++List.replicate (l.length-i) 0).map (.int .i64))::qy 3 1 l.length av (A.map (.int .i64))::qw b0 [sv]::R))
  ?_ (m:=l.length) omQ ⟨0,rfl,by omega,by omega,by rw[List.replicate_zero,List.nil_append,Nat.sub_zero,List.map_replicate];exact H4⟩
 clear H4;rintro m ih s h5 hih ⟨i,rfl,hi,rfl,H⟩;by_cases hlt:i<l.length
 ·refine jT omQ<|qZ (Yo H hlt ⟨rfl,rfl⟩ λh6 H6=>?_);refine qc omQ ?_;have h0:(AV.int .i64 (Int.negSucc 0))=.int .i64 (-1):=rfl;rw[h0,← List.map_set]at H6;have es:(List.replicate i (-1:Int)++List.replicate (l.length-i) 0).set i (-1)=List.replicate (i+1) (-1:Int)++List.replicate (l.length-(i+1)) 0:=by
   rw[show l.length-i=(l.length-(i+1))+1 by omega,List.replicate_succ,List.set_append_right _ _ osQ,List.length_replicate,Nat.sub_self,List.set_cons_zero,List.replicate_succ' (n:=i),List.append_assoc];rfl
  rw[es]at H6;exact hih (l.length-(i+1)) _ _ omQ ⟨i+1,rfl,by omega,rfl,H6⟩
 obtain rfl:i=l.length:=by omega
 clear hih;rw[Nat.sub_self,List.replicate_zero,List.append_nil]at H;have hL1:∀i,(mt1 l A i).length=l.length:=λi=>ZZ i;have hL2:∀i,(mt2 l A i).length=l.length:=λi=>Ou i;refine jD omQ<|qJ (qQ (qX ‹_› e_2 rfl ?_));refine yU ‹_›<|jM (λm s h'=>∃(i:Nat),s=(.int .i64 (i:Int),.int .i64 (l.length:Int),sv,ev,av,.ptr b0 0,())∧i≤l.length∧m=l.length-i∧
  HS g h' (qy 3 1 l.length ev ((mt1 l A i).map (.int .i64))::qy 3 1 l.length av (A.map (.int .i64))::qw b0 [sv]::R))
  ?_ (m:=l.length) omQ ⟨0,rfl,by omega,by omega,H⟩
 clear H;rintro m ih s h6 hih ⟨i,rfl,hi,rfl,H⟩;by_cases hlt:i<l.length
 ·have hrow:=YO hlt;have hini:=hin hlt;have hrgi:=hrg hlt;have hnri:=hnr hlt;have hstep:mt1 l A (i+1)=if 0<zX (qS l (i:Int)).1 then(mt1 l A i).set (qM A (i:Int)).toNat i else mt1 l A i:=rfl
  rw[yQ hlt]at hstep;generalize l[i]=x at*;refine jT omQ (qZ ?_)
  refine ji [] (λs h'=>s=(.int .i64 (i:Int),.int .i64 (l.length:Int),sv,ev,av,.ptr b0 0,())∧
   HS g h' (qy 3 1 l.length ev ((mt1 l A (i+1)).map (.int .i64))::qy 3 1 l.length av (A.map (.int .i64))::qw b0 [sv]::R)) ?_ ?_
  rotate_left
  ·rintro s h7 ⟨rfl,H7⟩;refine qc omQ<|hih (l.length-(i+1)) _ _ omQ ⟨i+1,rfl,by omega,rfl,H7⟩
  intro j hj;refine zd (S.sl H.drop.drop.drop) hlt omQ hrow<|qP H rfl λb h7 H7=>?_;refine qf H7 (b:=b) .here rfl (by simp[jg]) rfl λh8 H8=>?_;have H8:HS g h8 (qw b [.int .i64 x.1,.int .i64 x.2.1,.int .i64 x.2.2.1,.int .i64 x.2.2.2.1,.int .u64 x.2.2.2.2]::qy 3 1 l.length ev ((mt1 l A i).map (.int .i64))::qy 3 1 l.length av (A.map (.int .i64))::qw b0 [sv]::R):=H8;clear H H7;refine qQ (qX ‹_› .here rfl ?_);refine qG (G9 omQ) ?_;rintro _ h8 ⟨rfl,rfl⟩;by_cases he:0<zX x.1
  ·obtain⟨p,hp,hpl⟩:=hini (.inl he);refine yp he (qZ ?_);refine jO (H8.sl e_2) (x:=.int .i64 (p:Int)) (by rw[List.getElem?_map,hp];rfl)<|Yo (H8.sel e_1) hpl ⟨rfl,rfl⟩ λh9 H9=>?_;rw[← List.map_set]at H9;have hnp:qM A (i:Int)=p:=by unfold qM;rw[Int.toNat_natCast,hp];rfl
   rw[iJ he,hnp,Int.toNat_natCast]at hstep;rw[← hstep]at H9;exact hj _ _ ⟨rfl,H9.pk [0,1,1] 1⟩
  ·refine yT he (qJ ?_);rw[iQ he]at hstep;exact hj _ _ ⟨rfl,by rw[hstep];exact H8.drop⟩
 obtain rfl:i=l.length:=by omega
 clear hih;refine jD omQ<|qJ (qQ (qX ‹_› e_2 rfl ?_));refine yU ‹_›<|jM (λm s h'=>∃(i:Nat),s=(.int .i64 (i:Int),.int .i64 (l.length:Int),sv,ev,av,())∧i≤l.length∧m=l.length-i∧
  HS g h' (qy 3 1 l.length ev ((mt2 l A i).map (.int .i64))::qy 3 1 l.length av (A.map (.int .i64))::qw b0 [sv]::R))
  ?_ (m:=l.length) omQ ⟨0,rfl,by omega,by omega,H⟩
 clear H;rintro m ih s h6 hih ⟨i,rfl,hi,rfl,H⟩;by_cases hlt:i<l.length
 ·have hrow:=YO hlt;have hini:=hin hlt;have hstep:mt2 l A (i+1)=if(qS l (i:Int)).1=16 then(mt2 l A i).set i (qM (mt2 l A i) (qM A (i:Int)))else mt2 l A i:=rfl
  rw[yQ hlt]at hstep;generalize l[i]=x at*;refine jT omQ (qZ ?_)
  refine ji [] (λs h'=>s=(.int .i64 (i:Int),.int .i64 (l.length:Int),sv,ev,av,())∧
   HS g h' (qy 3 1 l.length ev ((mt2 l A (i+1)).map (.int .i64))::qy 3 1 l.length av (A.map (.int .i64))::qw b0 [sv]::R)) ?_ ?_
  rotate_left
  ·rintro s h7 ⟨rfl,H7⟩;refine qc omQ<|hih (l.length-(i+1)) _ _ omQ ⟨i+1,rfl,by omega,rfl,H7⟩
  intro j hj;refine zd (S.sl H.drop.drop.drop) hlt omQ hrow<|qP H rfl λb h7 H7=>?_;refine qf H7 (b:=b) .here rfl (by simp[jg]) rfl λh8 H8=>?_;have H8:HS g h8 (qw b [.int .i64 x.1,.int .i64 x.2.1,.int .i64 x.2.2.1,.int .i64 x.2.2.2.1,.int .u64 x.2.2.2.2]::qy 3 1 l.length ev ((mt2 l A i).map (.int .i64))::qy 3 1 l.length av (A.map (.int .i64))::qw b0 [sv]::R):=H8;clear H H7;refine qQ (qX ‹_› .here rfl ?_);by_cases he:x.1=16
  ·obtain⟨p,hp,hpl⟩:=hini (.inr he);refine qg he (qZ ?_);refine jO (H8.sl e_2) (x:=.int .i64 (p:Int)) (by rw[List.getElem?_map,hp];rfl)<|jO (H8.sl e_1) (x:=.int .i64 (qM (mt2 l A i) (p:Int))) (by rw[List.getElem?_map,gd (by rw[hL2];exact hpl)];rfl)<|Yo (H8.sel e_1) hlt ⟨rfl,rfl⟩ λh9 H9=>?_;rw[← List.map_set]at H9;have hnp:qM A (i:Int)=p:=by unfold qM;rw[Int.toNat_natCast,hp];rfl
   rw[iJ he,hnp]at hstep;rw[← hstep]at H9;exact hj _ _ ⟨rfl,H9.pk [0,1,1] 1⟩
  ·refine qK he (qJ ?_);rw[iQ he]at hstep;exact hj _ _ ⟨rfl,by rw[hstep];exact H8.drop⟩
 obtain rfl:i=l.length:=by omega
 refine jD omQ<|qJ (qk (qj ?_));rw[hL2];exact H.pk [0] 2
def J7:IM:=⟨[0,0,0,0,0,0,0,0],[],0,[]⟩
theorem wY {l:List qR} {V:VM} (h1:V.lv.length=1) (G:jI V):GI l J7 V :=
 ⟨⟨⟨rfl,by intro z hz;simp[J7]at hz;subst hz;omega⟩,Nat.zero_le _,λx hx=>by cases hx⟩,⟨0,rfl,Nat.zero_le _⟩,(λp hp=>by cases hp),trivial,rfl,h1,G⟩
def jj (fuel:Int):Nat:=(max 0 (min fuel 400)).toNat
theorem qVb {n:Nat} (hn:8≤n) {l:List qR} {sv:AV} {v:Nat} {fuel:Int} (H:HS g h R) (S:Rd g R 5 l.length sv (l.flatMap jg)) (hl:l.length≤100) :
  t_w n 41 [.agg [sv],.ptr v 0,.int .i64 fuel] h λr h'=>∃x,r=.ptr x 0∧HS g h' (IntC x v l (zb l).2 (KL l) J7 0 0 (jj fuel:Nat) 0 ::R):=by
 refine t_e3 rfl omQ λk hk=>?_;unfold S41;try simp only[iZ]
 refine qP H (vQ (kh (S.sl H))) λb0 h1 H1=>?_;refine qQ (qX ‹_› .here rfl ?_);refine jf (H1.nils) (S.sl H1.drop) omQ omQ (K5 l) λcv h2 H2=>?_;rw[List.nil_append,Nat.zero_add]at H2;have oc:=H2.one .here;refine qQ (qA H2 e_1 oc osQ λh3 H3=>?_);refine qF H3 .here rfl omQ rfl<|qG (Ok omQ H3 (Rd.own e_1) hl) ?_;rintro _ h4 ⟨rfl,H4⟩;refine qC rfl<|qC rfl<|qV ?_;(try dsimp only)
 refine qF H4 (off:=0) .here rfl omQ rfl<|qF H4 (b:=b0) (off:=0) .here rfl omQ rfl<|qG (qZO omQ H4 (Rd.own e_1) hl) ?_;intro mv h5 H5;have om:=H5.one .here;refine qG (Q':=λr h'=>∃o,r=.ptr o 0∧HS g h' (qw o [.nils]::qy 3 1 (KL l).length mv ((KL l).map (.int .i64))::qw b0 [cv]::qy 58 5 l.length cv (l.flatMap jg)::R)) ?_ ?_
 ·refine t_e0 (S:=S85) rfl omQ λk hk=>?_;unfold S85;try simp only[iZ]
  refine qL rfl<|qP H5 rfl λo h6 H6=>qj ⟨o,rfl,H6⟩
 rintro _ h6 ⟨o,rfl,H6⟩;refine ju (zD ?_);rw[show max ((0:Nat):Int) (min fuel ((400:Nat):Int))=((jj fuel:Nat):Int) by unfold jj;omega]
 refine qL (l:=gS cv mv .nils v o (zb l).2 0 0 (jj fuel:Nat) 0 0 [0,0,0,0,0,0,0,0]) (by
  have e:(AV.agg (List.take 1 (List.drop 0 [cv]))).cells=[cv]:=rfl
  simp only[yM,e,om.1];rfl) ?_
 refine qP H6 (by unfold gS;simp only[qp,List.all_cons,oc.2,om.2];rfl) λx h7 H7=>?_;refine zn H5 (b:=b0) e_1 rfl H6 e_2 rfl rfl omQ (HS.lt H4 .here)<|zn H4 (b:=b0) .here rfl H5 e_1 rfl rfl omQ (HS.lt H4 .here) ?_
 skip
 refine qj ⟨x,rfl,?_⟩;have H8:=(H7.nils (e:=20) (sz:=1)).nils (e:=276) (sz:=11)
 have H9:HS g h7 (SlaC o []::qy 276 11 0 .nils []::qw x (gS cv mv .nils v o (zb l).2 0 0 (jj fuel:Nat) 0 0 [0,0,0,0,0,0,0,0])::qy 3 1 (KL l).length mv ((KL l).map (.int .i64))::qw b0 [cv]::
  qy 58 5 l.length cv (l.flatMap jg)::R):=SlaC.I (l:=[]) (sv:=.nils) (H8.pk [3,1,0,0] 0)
 exact IntC.I (s:=J7) (c:=cv) (mv:=mv) (ov:=.nils) (o:=o) (H9.pk [2,4,2,0,0] 1)
section
variable {x v:Nat} {l:List qR} {bad:Int} {mt:List Int} {s:IM} {err fin left nx:Int}
end
end
end Go.Proofs.YtbiljkdgeekpbacGreatDoor
