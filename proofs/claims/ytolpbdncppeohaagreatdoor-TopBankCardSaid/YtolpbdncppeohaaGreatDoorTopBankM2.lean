/- Lemmas for 'quietus/quietustop.TopBank': Blocks of words: by the program;Blocks of words: by the documents own text;Numbers brought into bounds;Are two lists of numbers the same?;Are two lists of ... No condition. -/
import Derived.Test.YtolpbdncppeohaaGreatDoorTopBankM1
import Derived.Test.YtolpbdncppeohaaGreatDoorTopBankAe7
import Derived.Test.YtolpbdncppeohaaGreatDoorTopBankT
import Derived.KernelRfl
import Derived.Lib.ItoaLen
import Derived.Lib.Join
namespace Go.Proofs.YtolpbdncppeohaaGreatDoor
open Go Go.Ae
set_option maxRecDepth 100000
section
variable {g h:AH} {L R:List SP}
def wZ (x:Int):Int:=if x=1 then 2 else if x=2 then 4 else if x=3 then 8 else if x=4 then 16 else 0
def yx (x:Int):Int:=if x<1 then 0 else if x≤2 then 1 else if x≤4 then 2 else if x≤8 then 3 else if x≤16 then 4 else 0
theorem ZP (x:Int):0≤wZ x∧wZ x≤16:=by grind[wZ]
theorem qXP (x:Int):0≤yx x∧yx x≤4:=by grind[yx]
structure o7 (M:VM):Prop where
  k:∀c∈M.K,0≤c.2∧c.2<18446744073709551616
  l:∀x∈M.lv,∀c∈x.1,0≤c.2∧c.2<18446744073709551616
theorem OX {P:Int→Prop} {p x:Int}:∀{l:List Cl},(∀c∈l,P c.2)→jO p l=some x→P x:=by
 intro l
 induction l with
 |nil=>nofun
 |cons c l ih=>
  intro h e;unfold jO at e
  grind
theorem qzD {P:Int→Prop} {p x:Int}:∀{lv:List bH},(∀y∈lv,∀c∈y.1,P c.2)→YW p lv=some x→P x:=by
 intro lv
 induction lv with
 |nil=>nofun
 |cons y r ih=>
  intro h e;unfold YW at e
  split at e
  ·rename_i v hv;cases e;exact OX (h y (iK ..)) hv
  ·exact ih (λz hz=>h z (iX _ hz)) e
theorem o7.read {M:VM} {p:Int} (W:o7 M):0≤(qn M p).1.1∧(qn M p).1.1<18446744073709551616:=by
 unfold qn
 split
 ·split
  ·rename_i x hx;exact qzD (P:=λx=>0≤x∧x<18446744073709551616) W.l hx
  ·split
   ·rename_i x hx;exact OX (P:=λx=>0≤x∧x<18446744073709551616) W.k hx
   simp
 simp
theorem o7.nA {M:VM} {p:Int} (W:o7 M):o7 (qn M p).2:=by
 unfold qn
 repeat' split
 all_goals exact⟨W.k,W.l⟩
def iT (cs:List Cl):Prop:=∀c∈cs,0≤c.2∧c.2<18446744073709551616
theorem iT.put {l:List Cl} {p v:Int} (h:iT l) (hv:0≤v∧v<18446744073709551616):iT (yo p v l):=by
 induction l with
 |nil=>intro c hc;grind[yo]
 |cons a l ih=>
  unfold yo
  split
  ·intro c hc;rcases List.mem_cons.1 hc with rfl |hc
   ·grind
   ·exact h c (iX _ hc)
  ·intro c hc;rcases List.mem_cons.1 hc with rfl |hc
   ·exact h _ (iK ..)
   ·exact ih (λc hc=>h c (iX _ hc)) c hc
theorem iT.ox:∀{cs l:List Cl},iT l→iT cs→iT (vA l cs):=by
 intro cs
 induction cs with
 |nil=>intro l h _;exact h
 |cons c cs ih=>intro l h hc;exact ih (h.put (hc c (iK ..))) λd hd=>hc d (iX _ hd)
theorem qk1 {most:Nat} {ax:List bH} (hw:∀x∈ax,iT x.1):∀{cs:List Cl} {lv:List bH},iT cs→(∀x∈lv,iT x.1)→∀x∈(gB most ax lv cs).2,iT x.1:=by
 intro cs
 induction cs with
 |nil=>intro lv _ h;exact h
 |cons c cs ih=>
  intro lv hc h;rw[wC]
  split
  ·refine ih (λd hd=>hc d (iX _ hd)) ?_;cases lv with
   |nil=>nofun
   |cons y r=>
    unfold gd;dsimp only
    split
    ·grind
    ·split
     ·grind
     ·intro x hx;rcases List.mem_cons.1 hx with rfl |hx
      ·exact(show iT y.1 from h y (iK ..)).put (hc c (iK ..))
      grind
  grind
theorem o7.take {M:VM} {cs:List Cl} (W:o7 M) (hc:iT cs):o7 (zl M cs).2:=by
 unfold zl
 split
 ·exact⟨W.k,qk1 W.l hc W.l⟩
 grind
def yh (M:VM) (c b:Int):(Int×Int)×VM :=
 if 2147483648≤b then((0,2),M)else
 if(qn M b).1.2=0 then
  (if(zl (qn M b).2 [(c,(qn M b).1.1),(b-1,c+8)]).1=0 then((b,0),(zl (qn M b).2 [(c,(qn M b).1.1),(b-1,c+8)]).2)
   else((0,(zl (qn M b).2 [(c,(qn M b).1.1),(b-1,c+8)]).1),(zl (qn M b).2 [(c,(qn M b).1.1),(b-1,c+8)]).2))
 else((0,(qn M b).1.2),(qn M b).2)
def ye (M:VM) (c:Int):(Int×Int)×VM :=
 if(qn M 5).1.2=0 then
  (if(qn M 5).1.1<14∨2147483648≤(qn M 5).1.1∨(M.sz:Int)<(qn M 5).1.1+1+wZ c then((0,4),(qn M 5).2)
   else if(zl (qn M 5).2 [(5,(qn M 5).1.1+1+wZ c),((qn M 5).1.1,c+8)]).1=0 then(((qn M 5).1.1+1,0),(zl (qn M 5).2 [(5,(qn M 5).1.1+1+wZ c),((qn M 5).1.1,c+8)]).2)
   else((0,(zl (qn M 5).2 [(5,(qn M 5).1.1+1+wZ c),((qn M 5).1.1,c+8)]).1),(zl (qn M 5).2 [(5,(qn M 5).1.1+1+wZ c),((qn M 5).1.1,c+8)]).2))
 else((0,(qn M 5).1.2),(qn M 5).2)
def xI (M:VM) (n:Int):(Int×Int)×VM :=
 if yx n=0 then((0,3),M)else
 if(qn M (yx n)).1.2=0 then
  (if(qn M (yx n)).1.1=0 then ye (qn M (yx n)).2 (yx n)else yh (qn M (yx n)).2 (yx n) (qn M (yx n)).1.1)
 else((0,(qn M (yx n)).1.2),(qn M (yx n)).2)
def GS (w:Int):Int×Bool:=if 1≤w∧w≤4 then(w,false)else if 9≤w∧w≤12 then(w-8,true)else(0,false)
def zS (M:VM) (b:Int):(Int×Bool×Int)×VM :=
 if b≤14∨M.sz≤b then((0,false,2),M)else
 if(qn M (b-1)).1.2=0 then
  (if(GS (qn M (b-1)).1.1).1=0 then((0,false,2),(qn M (b-1)).2)else(((GS (qn M (b-1)).1.1).1,(GS (qn M (b-1)).1.1).2,0),(qn M (b-1)).2))
 else((0,false,(qn M (b-1)).1.2),(qn M (b-1)).2)
def gn (M:VM) (b:Int):Int×VM :=
 if(zS M b).1.2.2=0 then
  (if(zS M b).1.2.1=true then
   (if(zl (zS M b).2 [(b-1,(zS M b).1.1)]).1=0 then(0,fR (zl (zS M b).2 [(b-1,(zS M b).1.1)]).2 b)else zl (zS M b).2 [(b-1,(zS M b).1.1)])
  else(2,(zS M b).2))
 else((zS M b).1.2.2,(zS M b).2)
def xj (M:VM) (b:Int):Int×VM :=
 if(zS M b).1.2.2=0 then
  (if(zS M b).1.2.1=true then(2,(zS M b).2)else
   if(qn (zS M b).2 (zS M b).1.1).1.2=0 then zl (qn (zS M b).2 (zS M b).1.1).2 [(b,(qn (zS M b).2 (zS M b).1.1).1.1),((zS M b).1.1,b)]
   else((qn (zS M b).2 (zS M b).1.1).1.2,(qn (zS M b).2 (zS M b).1.1).2))
 else((zS M b).1.2.2,(zS M b).2)
theorem qkn {M:VM} {p:Int}:(qn M p).2.sz=M.sz:=by
 grind[qn]
theorem qyh (w:Int):0≤(GS w).1∧(GS w).1≤4:=by
 grind[GS]
theorem Zu (M:VM) (b:Int):0≤(zS M b).1.1∧(zS M b).1.1≤4∧((zS M b).1.2.2=0→14<b∧b<M.sz):=by
 unfold zS
 split
 ·simp
 ·split
  ·split
   all_goals simp_all[qyh,qn]
  grind
theorem Y4 {M:VM} {b:Int} (O:dP M):dP (zS M b).2:=by
 grind[zS,yO]
theorem jZA {M:VM} {b:Int} (O:o7 M):o7 (zS M b).2:=by
 unfold zS
 split
 ·grind
 ·split
  ·split<;>exact O.nA
  ·exact O.nA
theorem qgA {M:VM} {b:Int} (O:dP M) (hf:∀x∈M.lv,x.2.length+1<100000):dP (fR M b):=by
 refine⟨O.lo,O.hi,qko O.iS,O.ins,O.un,?_⟩;show∀x∈YA M.lv b,x.2.length<100000;cases hl:M.lv with
 |nil=>nofun
 |cons y r=>
  rw[hl]at hf;intro x hx;rcases List.mem_cons.1 hx with rfl |hx
  all_goals grind
theorem K9 {n:Nat} (hn:1≤n) {x:Int}:aE n 319 [.int .i64 x] h λv h'=>v=.int .i64 (wZ x)∧h'=h:=by
 refine aF rfl omQ λk hk=>?_;unfold S319;try simp only[iZ]
 repeat' (first |with_reducible refine qX ?_ |with_reducible refine qJ ?_ |(with_reducible refine qd ?_;try dsimp only) |(with_reducible refine jC ?_;try dsimp only) |(with_reducible refine qb ?_;try dsimp only) |(with_reducible refine qo ?_;try dsimp only) |(with_reducible refine xJ ?_;try dsimp only) |with_reducible refine qE ?_ |with_reducible refine qI ?_ |(with_reducible refine qY ?_;try dsimp only) |with_reducible refine qx ?_ |with_reducible refine jd ?_ |with_reducible refine jo ?_ |refine qi omQ ?_ |refine zu omQ ?_ |refine yT omQ ?_ |refine wK omQ ?_ |refine zt ?_ |refine xg ?_ |refine yG (λhc=>?_) (λhc=>?_) |refine Qx (λhc=>?_) (λhc=>?_) |refine Qm (λhc=>?_) (λhc=>?_) |refine vK (λhc=>?_) (λhc=>?_) |refine wG (λhc=>?_) (λhc=>?_) |refine gI (λhc=>?_) (λhc=>?_) |refine kG (λhc=>?_) (λhc=>?_))
 ·refine qW ⟨?_,rfl⟩;grind[wZ]
 ·refine qW ⟨?_,rfl⟩;grind[wZ]
 ·refine jKU omQ<|qW ⟨?_,rfl⟩;rcases(show x=1∨x=2∨x=3∨x=4 by omega)with rfl |rfl |rfl |rfl<;>rfl
theorem qq3 {n:Nat} (hn:2≤n) {x:Int}:aE n 281 [.int .i64 x] h λv h'=>v=.int .i64 (yx x)∧h'=h:=by
 refine aF rfl omQ λk hk=>?_;unfold S281;try simp only[iZ]
 repeat' (first |with_reducible refine qX ?_ |with_reducible refine qJ ?_ |(with_reducible refine qd ?_;try dsimp only) |(with_reducible refine jC ?_;try dsimp only) |(with_reducible refine qb ?_;try dsimp only) |(with_reducible refine qo ?_;try dsimp only) |(with_reducible refine xJ ?_;try dsimp only) |with_reducible refine qE ?_ |with_reducible refine qI ?_ |(with_reducible refine qY ?_;try dsimp only) |with_reducible refine qx ?_ |with_reducible refine jd ?_ |with_reducible refine jo ?_ |with_reducible refine qi omQ ?_ |with_reducible refine zu omQ ?_ |with_reducible refine yT omQ ?_ |with_reducible refine wK omQ ?_ |with_reducible refine zt ?_ |with_reducible refine xg ?_ |with_reducible refine yG (λhc=>?_) (λhc=>?_) |with_reducible refine Qx (λhc=>?_) (λhc=>?_) |with_reducible refine Qm (λhc=>?_) (λhc=>?_) |with_reducible refine vK (λhc=>?_) (λhc=>?_) |with_reducible refine wG (λhc=>?_) (λhc=>?_) |with_reducible refine gI (λhc=>?_) (λhc=>?_) |with_reducible refine kG (λhc=>?_) (λhc=>?_))
 ·refine qW ⟨?_,rfl⟩;grind[yx]
 ·refine zQ (λm s g=>∃i:Int,s=(.int .i64 i,.int .i64 x,())∧1≤i∧i≤5∧(m:Int)=5-i∧g=h∧(1<i→2<x)∧(2<i→4<x)∧(3<i→8<x)∧(4<i→16<x)) ?_ (m:=4) od ⟨1,rfl,by omega,by omega,by rfl,rfl,by omega,by omega,by omega,by omega⟩;rintro m ih s g bQ ⟨i,rfl,h1,h2,h3,rfl,h4,h5,h6,h7⟩;dsimp only
  repeat' (first |with_reducible refine qX ?_ |with_reducible refine qJ ?_ |(with_reducible refine qd ?_;try dsimp only) |(with_reducible refine jC ?_;try dsimp only) |(with_reducible refine qb ?_;try dsimp only) |(with_reducible refine qo ?_;try dsimp only) |(with_reducible refine xJ ?_;try dsimp only) |with_reducible refine qE ?_ |with_reducible refine qI ?_ |(with_reducible refine qY ?_;try dsimp only) |with_reducible refine qx ?_ |with_reducible refine jd ?_ |with_reducible refine jo ?_ |with_reducible refine qi omQ ?_ |with_reducible refine zu omQ ?_ |with_reducible refine yT omQ ?_ |with_reducible refine wK omQ ?_ |with_reducible refine zt ?_ |with_reducible refine xg ?_ |with_reducible refine yG (λhc=>?_) (λhc=>?_) |with_reducible refine Qx (λhc=>?_) (λhc=>?_) |with_reducible refine Qm (λhc=>?_) (λhc=>?_) |with_reducible refine vK (λhc=>?_) (λhc=>?_) |with_reducible refine wG (λhc=>?_) (λhc=>?_) |with_reducible refine gI (λhc=>?_) (λhc=>?_) |with_reducible refine kG (λhc=>?_) (λhc=>?_))
  ·refine qG (K9 omQ) ?_;rintro v g' ⟨rfl,rfl⟩
   repeat' (first |with_reducible refine qX ?_ |with_reducible refine qJ ?_ |(with_reducible refine qd ?_;try dsimp only) |(with_reducible refine jC ?_;try dsimp only) |(with_reducible refine qb ?_;try dsimp only) |(with_reducible refine qo ?_;try dsimp only) |(with_reducible refine xJ ?_;try dsimp only) |with_reducible refine qE ?_ |with_reducible refine qI ?_ |(with_reducible refine qY ?_;try dsimp only) |with_reducible refine qx ?_ |with_reducible refine jd ?_ |with_reducible refine jo ?_ |with_reducible refine qi omQ ?_ |with_reducible refine zu omQ ?_ |with_reducible refine yT omQ ?_ |with_reducible refine wK omQ ?_ |with_reducible refine zt ?_ |with_reducible refine xg ?_ |with_reducible refine yG (λhc=>?_) (λhc=>?_) |with_reducible refine Qx (λhc=>?_) (λhc=>?_) |with_reducible refine Qm (λhc=>?_) (λhc=>?_) |with_reducible refine vK (λhc=>?_) (λhc=>?_) |with_reducible refine wG (λhc=>?_) (λhc=>?_) |with_reducible refine gI (λhc=>?_) (λhc=>?_) |with_reducible refine kG (λhc=>?_) (λhc=>?_))
   ·refine qW ⟨?_,rfl⟩;grind[wZ,yx]
   ·refine bQ (m-1) _ _ omQ ⟨i+1,rfl,by omega,by omega,by omega,rfl,?_,?_,?_,?_⟩<;>(grind[wZ])
  ·refine qW ⟨?_,rfl⟩;grind[yx]
theorem KO {n:Nat} (hn:1≤n) {c:Int} (hc:0≤c∧c≤4):aE n 152 [.int .i64 c] h λv h'=>v=.int .i64 c∧h'=h:=by
 refine aF rfl omQ λk hk=>?_;unfold S152;try simp only[iZ]
 refine qi omQ<|qW ⟨by simp,rfl⟩
theorem qK3 {n:Nat} (hn:1≤n) {w:Int}:aE n 183 [.int .u64 w] h λv h'=>v=.bV [.int .i64 (GS w).1,.bool (GS w).2]∧h'=h:=by
 refine aF rfl omQ λk hk=>?_;unfold S183;try simp only[iZ]
 unfold GS;by_cases h1:1≤w∧w≤4
 ·rw[iJ h1];refine z7 omQ<|qY<|qd<|Jh omQ<|qE (qX (yZ omQ ?_))
  exact qW ⟨rfl,rfl⟩
 ·rw[iQ h1];by_cases h2:9≤w∧w≤12
  ·rw[iJ h2];refine z7 omQ<|qY<|qd<|XR omQ<|qE (qJ (z7 omQ ?_));refine qY<|qd<|Jh omQ<|qE (qX (wK omQ ?_));refine yZ omQ ?_
   exact qW ⟨rfl,rfl⟩
  ·rw[iQ h2]
   repeat' (first |with_reducible refine qX ?_ |with_reducible refine qJ ?_ |(with_reducible refine qd ?_;try dsimp only) |(with_reducible refine jC ?_;try dsimp only) |(with_reducible refine qb ?_;try dsimp only) |(with_reducible refine qo ?_;try dsimp only) |(with_reducible refine xJ ?_;try dsimp only) |with_reducible refine qE ?_ |with_reducible refine qI ?_ |(with_reducible refine qY ?_;try dsimp only) |with_reducible refine qx ?_ |with_reducible refine jd ?_ |with_reducible refine jo ?_ |with_reducible refine qi omQ ?_ |with_reducible refine zu omQ ?_ |with_reducible refine yT omQ ?_ |with_reducible refine wK omQ ?_ |with_reducible refine zt ?_ |with_reducible refine xg ?_ |refine qk omQ ?_ |refine qj omQ ?_ |refine jH omQ ?_ |refine jI omQ ?_ |refine jt omQ ?_ |refine jP omQ ?_ |refine Jh omQ ?_ |refine XR omQ ?_ |refine vr omQ ?_ |refine vE omQ ?_ |refine z7 omQ ?_ |refine zn omQ ?_ |refine yG (λhc=>?_) (λhc=>?_) |refine Qx (λhc=>?_) (λhc=>?_) |refine Qm (λhc=>?_) (λhc=>?_) |refine vK (λhc=>?_) (λhc=>?_) |refine wG (λhc=>?_) (λhc=>?_) |refine gI (λhc=>?_) (λhc=>?_) |refine kG (λhc=>?_) (λhc=>?_))
   all_goals exact qW ⟨rfl,rfl⟩
theorem ZI {n:Nat} (hn:10≤n) {v:Nat} {M:VM} {b:Int} (H:HS g h (ag v M::R)) (O:dP M) :
  aE n 150 [.ptr v 0,.int .i64 b] h λr h'=>r=.bV [.int .i64 (zS M b).1.1,.bool (zS M b).1.2.1,.int .i64 (zS M b).1.2.2]∧HS g h' (ag v (zS M b).2::R):=by
 refine bj rfl omQ λk hk=>?_;unfold S150;try simp only[iZ]
 unfold zS;by_cases h1:b≤14
 ·rw[iJ (.inl h1)];refine Jh omQ<|qY<|jC<|qE (qX ?_)
  exact qW ⟨rfl,H⟩
 ·refine XR omQ<|qY<|qo ?_;(try dsimp only)
  refine qG (ME omQ H) ?_;rintro _ _ ⟨rfl,rfl⟩;by_cases h2:(M.sz:Int)≤b
  ·rw[iJ (.inr h2)];refine z7 omQ<|qI (qX ?_);exact qW ⟨rfl,H⟩
  ·rw[iQ omQ];refine zn omQ<|qI (qJ ?_);have:=O.hi;refine zu omQ (qG (Xx omQ H O) ?_);rintro _ h3 ⟨rfl,H3⟩;simp only[show((1:Nat):Int)=1 from rfl]at H3 ⊢;refine qD rfl<|qD rfl ?_;by_cases h4:(qn M (b-1)).1.2=0
   ·rw[iJ h4];refine jI omQ<|qJ (qG (qK3 omQ) ?_);rintro _ _ ⟨rfl,rfl⟩;refine qD rfl<|qD rfl ?_;by_cases h5:(GS (qn M (b-1)).1.1).1=0
    ·rw[iJ h5];refine qk omQ<|qX<|qW ⟨rfl,H3⟩
    ·rw[iQ h5];refine qj omQ<|qJ<|qW ⟨rfl,H3⟩
   ·rw[iQ h4];refine jH omQ<|qX<|qW ⟨rfl,H3⟩
theorem qz9 {n:Nat} (hn:11≤n) {v:Nat} {M:VM} {b:Int} (H:HS g h (ag v M::R)) (O:dP M) :
  aE n 216 [.ptr v 0,.int .i64 b] h λr h'=>r=.int .i64 (gn M b).1∧HS g h' (ag v (gn M b).2::R):=by
 refine bj (S:=S216) rfl omQ λk hk=>?_;unfold S216;try simp only[iZ]
 refine qG (ZI omQ H O) ?_;rintro _ h1 ⟨rfl,H1⟩;have hb:=Zu M b;have hO:=Y4 (b:=b) O;have:=O.hi;unfold gn;refine qD rfl<|qD rfl<|qD rfl<|qY ?_;(try dsimp only)
 by_cases h2:(zS M b).1.2.2=0
 ·rw[iJ h2];refine qk omQ<|qY<|qd ?_;(try dsimp only)
  cases h3:(zS M b).1.2.1
  ·rw[iQ aS];refine jo (qE (qX (qY ?_)));refine qj omQ<|qJ (qY ?_);refine qj omQ<|qJ (qx ?_)
   exact qW ⟨rfl,H1⟩
  ·rw[iJ rfl];refine jd (qE (qJ (qY ?_)));refine qk omQ<|qX (zu omQ ?_);refine kh omQ<|qR rfl ?_
   simp;refine(qt (n:=1) (l:=[.int .i64 (b-1),.int .u64 (zS M b).1.1]) (sz:=2) H1 rfl rfl rfl rfl λv3 h3 H3=>?_);refine qG (K6 (cs:=[(b-1,(zS M b).1.1)]) omQ (H3.aM e_1) hO (.own .here) aS) ?_;rintro _ h4 ⟨rfl,H4⟩;by_cases h5:(zl (zS M b).2 [(b-1,(zS M b).1.1)]).1=0
   ·rw[iJ h5];refine qY<|qk omQ<|qX ?_
    refine qG (qkf omQ H4 (qJt hO)) ?_;intro _ h6 H6;refine qx<|qW ⟨by rw[h5],H6.pk [0] 1⟩
   ·rw[iQ h5];refine qY<|qj omQ<|qJ (qx ?_)
    exact qW ⟨rfl,H4.pk [0] 1⟩
 ·rw[iQ h2];refine qj omQ<|qY<|qb<|qI (qJ (qY ?_));refine qj omQ<|qJ (qY ?_);refine qj omQ<|qJ (qx ?_)
  exact qW ⟨rfl,H1⟩
theorem qxD {n:Nat} (hn:11≤n) {v:Nat} {M:VM} {b:Int} (H:HS g h (ag v M::R)) (O:dP M) :
  aE n 124 [.ptr v 0,.int .i64 b] h λr h'=>r=.int .i64 (xj M b).1∧HS g h' (ag v (xj M b).2::R):=by
 refine bj rfl omQ λk hk=>?_;unfold S124;try simp only[iZ]
 refine qG (ZI omQ H O) ?_;rintro _ h1 ⟨rfl,H1⟩;have hb:=Zu M b;have hO:=Y4 (b:=b) O;have:=O.hi;unfold xj;refine qD rfl<|qD rfl<|qD rfl<|qY ?_;(try dsimp only)
 by_cases h2:(zS M b).1.2.2=0
 ·rw[iJ h2];refine qk omQ<|qY<|qd<|qE ?_
  cases h3:(zS M b).1.2.1
  ·rw[iQ aS];refine qJ (jI omQ ?_);refine qJ (qG (KO omQ omQ) ?_);rintro _ _ ⟨rfl,rfl⟩;refine qG (Xx omQ H1 hO) ?_;rintro _ h4 ⟨rfl,H4⟩;refine qD rfl<|qD rfl ?_;by_cases h5:(qn (zS M b).2 (zS M b).1.1).1.2=0
   ·rw[iJ h5];refine jI omQ<|qJ (qR rfl ?_);refine qG (KO omQ omQ) ?_;rintro _ _ ⟨rfl,rfl⟩;refine kh omQ<|qR rfl (qt (l:=[.int .i64 b,.int .u64 (qn (zS M b).2 (zS M b).1.1).1.1,.int .i64 (zS M b).1.1,.int .u64 b]) (sz:=2) H4 rfl rfl rfl rfl λv5 h5 H5=>?_);refine qG (K6 (cs:=[(b,(qn (zS M b).2 (zS M b).1.1).1.1),((zS M b).1.1,b)]) omQ (H5.aM e_1) (yO hO) (.own .here) aS) ?_;rintro _ h6 ⟨rfl,H6⟩;refine qx<|qW ⟨rfl,H6.pk [0] 1⟩
   ·rw[iQ h5];refine jH omQ<|qX (qx ?_);exact qW ⟨rfl,H4⟩
  ·rw[iJ rfl];refine qX (jH omQ ?_);refine qX (qx ?_);exact qW ⟨rfl,H1⟩
 ·rw[iQ h2];refine qj omQ<|qY<|qb<|qI (qJ (jH omQ ?_));refine qX (qx ?_)
  exact qW ⟨rfl,H1⟩
theorem qY2 {n:Nat} (hn:10≤n) {v:Nat} {M:VM} {c b:Int} (H:HS g h (ag v M::R)) (O:dP M) (hc:1≤c∧c≤4) (hb:0≤b) :
  aE n 282 [.ptr v 0,.int .i64 c,.int .u64 b] h λr h'=>r=.bV [.int .i64 (yh M c b).1.1,.int .i64 (yh M c b).1.2]∧HS g h' (ag v (yh M c b).2::R):=by
 refine cX rfl omQ λk hk=>?_;unfold S282;try simp only[iZ]
 unfold yh;by_cases h1:2147483648≤b
 ·rw[iJ h1];refine z7 omQ<|qX<|qW ⟨rfl,H⟩
 ·rw[iQ h1];refine zn omQ<|qJ (yZ omQ ?_);refine qG (Xx omQ H O) ?_;rintro _ h3 ⟨rfl,H3⟩;refine qD rfl<|qD rfl<|qY ?_;(try dsimp only)
  by_cases h4:(qn M b).1.2=0
  ·rw[iJ h4];refine qk omQ<|qX (qG (KO omQ omQ) ?_);rintro _ _ ⟨rfl,rfl⟩;refine qR rfl (zu omQ (qi omQ (kh omQ (qR rfl ?_))));refine qt (l:=[.int .i64 c,.int .u64 (qn M b).1.1,.int .i64 (b-1),.int .u64 (c+8)]) (sz:=2) H3 rfl rfl rfl rfl λv5 h5 H5=>?_;refine qG (K6 (cs:=[(c,(qn M b).1.1),(b-1,c+8)]) omQ (H5.aM e_1) (yO O) (.own .here) aS) ?_;rintro _ h6 ⟨rfl,H6⟩;by_cases h7:(zl (qn M b).2 [(c,(qn M b).1.1),(b-1,c+8)]).1=0
   ·rw[iJ h7];refine jI omQ<|qJ (qx ?_);exact qW ⟨rfl,H6.pk [0] 1⟩
   ·rw[iQ h7];refine jH omQ<|qX (qx ?_);exact qW ⟨rfl,H6.pk [0] 1⟩
  ·rw[iQ h4];refine qj omQ<|qJ (jH omQ ?_);refine qX (qx ?_);exact qW ⟨rfl,H3⟩
theorem qY5 {n:Nat} (hn:10≤n) {v:Nat} {M:VM} {c:Int} (H:HS g h (ag v M::R)) (O:dP M) (W:o7 M) (hc:1≤c∧c≤4) :
  aE n 283 [.ptr v 0,.int .i64 c] h λr h'=>r=.bV [.int .i64 (ye M c).1.1,.int .i64 (ye M c).1.2]∧HS g h' (ag v (ye M c).2::R):=by
 refine bj (S:=S283) rfl omQ λk hk=>?_;unfold S283;try simp only[iZ]
 unfold ye;refine qG (Xx omQ H O) ?_;rintro _ h3 ⟨rfl,H3⟩;have hw:=W.read (p:=5);simp only[show((5:Nat):Int)=5 from rfl]at H3 ⊢;have hs:=ZP c;have hO:=O.hi;refine qD rfl<|qD rfl ?_;by_cases h4:(qn M 5).1.2=0
 ·rw[iJ h4];refine jI omQ<|qJ ?_;have bF:(qn M 5).2.sz=M.sz:=qkn;by_cases h5:(qn M 5).1.1<14∨2147483648≤(qn M 5).1.1∨(M.sz:Int)<(qn M 5).1.1+1+wZ c
  ·rw[iJ h5];by_cases h6:(qn M 5).1.1<14
   ·refine jt omQ<|qY<|jC<|qE (qY ?_);refine jC<|qE (qX ?_)
    exact qW ⟨rfl,H3⟩
   ·by_cases h7:2147483648≤(qn M 5).1.1
    ·refine jP omQ<|qY<|qo<|z7 omQ<|qI (qY ?_);refine jC<|qE (qX ?_)
     exact qW ⟨rfl,H3⟩
    ·refine jP omQ<|qY<|qo<|zn omQ<|qI (qY ?_);refine qo<|yZ omQ<|qi omQ ?_
     refine qG (K9 omQ) ?_;rintro _ _ ⟨rfl,rfl⟩;refine qi omQ<|qG (ME omQ H3) ?_;rintro _ _ ⟨rfl,rfl⟩;rw[bF];refine vr omQ<|qI (qX ?_);exact qW ⟨rfl,H3⟩
  ·rw[iQ h5];refine jP omQ<|qY<|qo<|zn omQ<|qI (qY ?_);refine qo<|yZ omQ<|qi omQ ?_
   refine qG (K9 omQ) ?_;rintro _ _ ⟨rfl,rfl⟩;refine qi omQ<|qG (ME omQ H3) ?_;rintro _ _ ⟨rfl,rfl⟩;rw[bF];refine vE omQ<|qI (qJ (yZ omQ ?_));refine qi omQ<|qG (K9 omQ) ?_;rintro _ _ ⟨rfl,rfl⟩;refine qi omQ (kh omQ (qR rfl (qi omQ (kh omQ (qR rfl ?_)))));refine qt (n:=2) (l:=[.int .i64 5,.int .u64 ((qn M 5).1.1+1+wZ c),.int .i64 (qn M 5).1.1,.int .u64 (c+8)]) (sz:=2) H3 rfl rfl rfl rfl λv5 h5 H5=>?_;refine qG (K6 (cs:=[(5,(qn M 5).1.1+1+wZ c),((qn M 5).1.1,c+8)]) omQ (H5.aM e_1) (yO O) (.own .here) aS) ?_;rintro _ h6 ⟨rfl,H6⟩;by_cases h7:(zl (qn M 5).2 [(5,(qn M 5).1.1+1+wZ c),((qn M 5).1.1,c+8)]).1=0
   ·rw[iJ h7];refine jI omQ<|qJ (qi omQ ?_);exact qW ⟨rfl,H6.pk [0] 1⟩
   ·rw[iQ h7];refine jH omQ<|qX<|qW ⟨rfl,H6.pk [0] 1⟩
 ·rw[iQ h4];refine jH omQ<|qX<|qW ⟨rfl,H3⟩
theorem qYP {n:Nat} (hn:11≤n) {v:Nat} {M:VM} {x:Int} (H:HS g h (ag v M::R)) (O:dP M) (W:o7 M) :
  aE n 215 [.ptr v 0,.int .i64 x] h λr h'=>r=.bV [.int .i64 (xI M x).1.1,.int .i64 (xI M x).1.2]∧HS g h' (ag v (xI M x).2::R):=by
 refine bj rfl omQ λk hk=>?_;unfold S215;try simp only[iZ]
 refine qG (qq3 omQ) ?_;rintro _ _ ⟨rfl,rfl⟩;have hc:=qXP x;unfold xI;by_cases h1:yx x=0
 ·rw[iJ h1];refine qk omQ<|qX<|qW ⟨rfl,H⟩
 ·rw[iQ h1];refine qj omQ<|qJ (qG (KO omQ hc) ?_);rintro _ _ ⟨rfl,rfl⟩;refine qG (Xx omQ H O) ?_;rintro _ h3 ⟨rfl,H3⟩;have hw:=W.read (p:=yx x);refine qD rfl<|qD rfl ?_;by_cases h4:(qn M (yx x)).1.2=0
  ·rw[iJ h4];by_cases h5:(qn M (yx x)).1.1=0
   ·rw[iJ h5];refine jI omQ<|qJ (jI omQ ?_);refine qJ (qG (qY5 omQ H3 (yO O) W.nA omQ) ?_);rintro _ h6 ⟨rfl,H6⟩;refine qD rfl<|qD rfl<|qW ⟨rfl,H6⟩
   ·rw[iQ h5];refine jI omQ<|qJ (jH omQ ?_);refine qX (qG (qY2 omQ H3 (yO O) omQ hw.1) ?_);rintro _ h6 ⟨rfl,H6⟩;refine qD rfl<|qD rfl<|qW ⟨rfl,H6⟩
  ·rw[iQ h4];refine jH omQ<|qX<|qW ⟨rfl,H3⟩
def MJ (n:Int):List Int:=(List.replicate (eL n) (0:Int)).set 5 14
theorem qqF {n:Nat} (hn:1≤n) {x:Int} (H:HS g h R):aE n 21 [.int .i64 x] h λv h'=>∃e,HS g h' (qB e 1 (eL x) v ((MJ x).map (.int .u64))::R):=by
 refine aF rfl omQ λk hk=>?_;unfold S21;try simp only[iZ]
 have hb:=Fv x;refine zt (xg ?_);rw[show max ((32:Nat):Int) (min x ((256:Nat):Int))=((eL x:Nat):Int) by grind[eL]];refine Xv H omQ λv h2 H2=>?_;refine XL H2 omQ ⟨rfl,rfl⟩ λh3 H3=>?_;unfold MJ;rw[List.map_set,List.map_replicate];exact qW ⟨_,H3⟩
end
section
variable {g h:AH} {L R:List SP}
end
section
def yp (x lo hi:Int):Int:=lo+(if x.tmod (hi-lo+1)<0 then x.tmod (hi-lo+1)+(hi-lo+1)else x.tmod (hi-lo+1))
theorem Ur (x:Int) {m:Int} (hm:0<m):-m<x.tmod m∧x.tmod m<m:=by refine⟨?_,Int.tmod_lt_of_pos x hm⟩;have:=Int.tmod_lt_of_pos (-x) hm;simp at*;omega
theorem wF {n:Nat} (hn:1≤n) {x lo hi:Int} {h:AH} (h1:lo≤hi) (h2:-1000000000≤lo) (h3:hi≤1000000000) :
  aE n 18 [.int .i64 x,.int .i64 lo,.int .i64 hi] h λv h'=>v=.int .i64 (yp x lo hi)∧h'=h:=by
 refine cX rfl omQ λk hk=>?_;unfold S18;try simp only[iZ]
 simp;have hb:=Ur x (show 0<hi-lo+1 by omega);unfold yp
 repeat' (first |(first |with_reducible refine qX ?_ |with_reducible refine qJ ?_ |(with_reducible refine qd ?_;try dsimp only) |(with_reducible refine jC ?_;try dsimp only) |(with_reducible refine qb ?_;try dsimp only) |(with_reducible refine qo ?_;try dsimp only) |(with_reducible refine xJ ?_;try dsimp only) |with_reducible refine qE ?_ |with_reducible refine qI ?_ |(with_reducible refine qY ?_;try dsimp only) |with_reducible refine qx ?_ |with_reducible refine jd ?_ |with_reducible refine jo ?_ |refine qi omQ ?_ |refine zu omQ ?_ |refine yT omQ ?_ |refine wK omQ ?_ |refine zt ?_ |refine xg ?_) |refine ka omQ ?_ |(first |refine yG (λhc=>?_) (λhc=>?_) |refine Qx (λhc=>?_) (λhc=>?_) |refine Qm (λhc=>?_) (λhc=>?_) |refine vK (λhc=>?_) (λhc=>?_) |refine wG (λhc=>?_) (λhc=>?_) |refine gI (λhc=>?_) (λhc=>?_) |refine kG (λhc=>?_) (λhc=>?_)))
 all_goals refine qW ⟨?_,rfl⟩
 all_goals grind
end
section
theorem qW2 {l:List ES} {a b:List AV} {K:AV→Go.Ae.R} {Q:AV→AH→Prop} {neg:Bool} {p:Prop} [Decidable p] (e:yW l a b=some (decide p)) (h1:p→wp (K (.bool (!neg))) Q) (h2:¬p→wp (K (.bool neg)) Q):wp (UO l neg (.agg a) (.agg b) K) Q:=by
 unfold UO;simp only[e,ob];by_cases h:p
 ·have:=h1 h;simpa[h]using this
 ·have:=h2 h;simpa[h]using this
end
section
variable {g h:AH} {L R:List SP}
def uz (M M':VM):Prop:=M'.sz=M.sz∧M'.K=M.K∧M'.most=M.most∧(M'.aB=M.aB∨M'.lv=M.lv∧1≤M'.aB∧M'.aB<M.sz∧jO M'.aB M.K=none)
theorem uz.refl (M:VM):uz M M:=⟨rfl,rfl,rfl,.inl rfl⟩
theorem Ui {M:VM} {p:Int} (h:(qn M p).1.2=0):(qn M p).2=M:=by
 unfold qn at h ⊢
 grind
theorem Vm (M:VM) (p:Int):uz M (qn M p).2:=by
 unfold qn
 split
 ·rename_i h1
  split
  ·exact .refl M
  ·split
   ·exact .refl M
   ·rename_i h3;exact⟨rfl,rfl,rfl,.inr ⟨rfl,h1.1,h1.2,h3⟩⟩
 ·exact .refl M
theorem jJ5 (M:VM) (b:Int):uz M (zS M b).2∧((zS M b).1.2.2=0→(zS M b).2=M):=by
 unfold zS
 split
 ·exact⟨.refl M,λ_=>rfl⟩
 grind[Vm,Ui,absurd]
theorem uA {most:Nat} {lv:List bH} {p v:Int}:bO (gd most lv p v).2=bO lv:=by
 cases lv with
 |nil=>rfl
 |cons x r=>obtain⟨c,hc⟩:=UN (most:=most) (x:=x) (r:=r) (p:=p) (v:=v);grind[Jq]
theorem qzd {most:Nat} {ax:List bH}:∀{cs:List Cl} {lv:List bH},bO lv=bO ax→bO (gB most ax lv cs).2=bO ax:=by
 intro cs
 induction cs with
 |nil=>intro lv h;exact h
 |cons c cs ih=>
  intro lv h;rw[wC]
  split
  ·exact ih (uA.trans h)
  rfl
theorem kA {M:VM} {cs:List Cl}:bO (zl M cs).2.lv=bO M.lv:=by
 unfold zl
 split
 ·exact qzd rfl
 rfl
theorem yP {M:VM} {p:Int}:bO (qn M p).2.lv=bO M.lv:=by
 grind[qn]
theorem Qn {M:VM} {b:Int}:bO (zS M b).2.lv=bO M.lv:=by
 grind[zS,yP]
theorem qjB {lv:List bH} {b:Int}:bO (YA lv b)≤bO lv+1:=by
 cases lv with
 |nil=>simp[YA]
 |cons x r=>show bO ((x.1,x.2++[b])::r)≤_;grind[Jq,List.length_append]
theorem jXM:∀{lv:List bH} {x:bH},x∈lv→x.2.length≤bO lv:=by
 intro l
 induction l with
 |nil=>simp
 |cons y r ih=>
  intro x hx;rw[Jq];grind
structure ji (M:VM):Prop where
  ok:dP M
  wd:o7 M
theorem ji.read {M:VM} {p:Int} (G:ji M):ji (qn M p).2:=⟨yO G.ok,G.wd.nA⟩
theorem ji.take {M:VM} {cs:List Cl} (G:ji M) (h:iT cs):ji (zl M cs).2:=⟨qJt G.ok,G.wd.take h⟩
theorem ji.ask {M:VM} {b:Int} (G:ji M):ji (zS M b).2:=⟨Y4 G.ok,jZA G.wd⟩
theorem iT.two {a b:Cl} (ha:0≤a.2∧a.2<18446744073709551616) (hb:0≤b.2∧b.2<18446744073709551616):iT [a,b]:=by
 intro c hc;grind
theorem iT.Fw {a:Cl} (ha:0≤a.2∧a.2<18446744073709551616):iT [a]:=by intro c hc;grind
theorem ji.fR {M:VM} {b:Int} (G:ji M) (hf:bO M.lv<90000):ji (fR M b):=by
 refine⟨qgA G.ok λx hx=>by have:=jXM hx;omega,G.wd.k,?_⟩;show∀x∈YA M.lv b,∀c∈x.1,0≤c.2∧c.2<18446744073709551616;have:=G.wd.l;cases hl:M.lv with
 |nil=>nofun
 |cons y r=>
  rw[hl]at this;intro x hx;rcases List.mem_cons.1 hx with rfl |hx
  all_goals grind
theorem ji.free {M:VM} {b:Int} (G:ji M) (hf:bO M.lv<90000):ji (gn M b).2∧bO (gn M b).2.lv≤bO M.lv+1:=by
 have hb:=Zu M b;have hc:iT [(b-1,(zS M b).1.1)]:=.Fw ⟨hb.1,by grind⟩;unfold gn
 repeat' split
 ·refine⟨(G.ask.take hc).fR (by grind[kA,Qn]),?_⟩;have:=qjB (lv:=(zl (zS M b).2 [(b-1,(zS M b).1.1)]).2.lv) (b:=b);rw[kA,Qn]at this;trivial
 ·exact⟨G.ask.take hc,by simp[kA,Qn]⟩
 ·exact⟨G.ask,by simp[Qn]⟩
 ·exact⟨G.ask,by simp[Qn]⟩
theorem ji.iD {M:VM} {b:Int} (G:ji M):ji (xj M b).2∧bO (xj M b).2.lv=bO M.lv:=by
 have hb:=Zu M b;have hO:=G.ok.hi;unfold xj
 split
 ·rename_i h1;have rI:=hb.2.2 h1
  split
  ·exact⟨G.ask,Qn⟩
  ·split
   ·refine⟨(G.ask.read).take (.two G.ask.wd.read ⟨by grind,by grind⟩),by rw[kA,yP,Qn]⟩
   ·exact⟨G.ask.read,by rw[yP,Qn]⟩
 ·exact⟨G.ask,Qn⟩
theorem ji.again {M:VM} {c b:Int} (G:ji M) (hc:0≤c∧c≤4):ji (yh M c b).2∧bO (yh M c b).2.lv=bO M.lv:=by
 have ht:iT [(c,(qn M b).1.1),(b-1,c+8)]:=.two G.wd.read ⟨by grind,by grind⟩;unfold yh
 repeat' split
 ·grind
 ·exact⟨G.read.take ht,by rw[kA,yP]⟩
 ·exact⟨G.read.take ht,by rw[kA,yP]⟩
 ·exact⟨G.read,yP⟩
theorem ji.grown {M:VM} {c:Int} (G:ji M) (hc:0≤c∧c≤4):ji (ye M c).2∧bO (ye M c).2.lv=bO M.lv:=by
 have hs:=ZP c;unfold ye
 split
 ·split
  ·exact⟨G.read,yP⟩
  ·rename_i h1;have ht:iT [(5,(qn M 5).1.1+1+wZ c),((qn M 5).1.1,c+8)]:=.two ⟨by grind,by grind⟩ ⟨by grind,by grind⟩
   split
   ·exact⟨G.read.take ht,by rw[kA,yP]⟩
   ·exact⟨G.read.take ht,by rw[kA,yP]⟩
 ·exact⟨G.read,yP⟩
theorem ji.alloc {M:VM} {x:Int} (G:ji M):ji (xI M x).2∧bO (xI M x).2.lv=bO M.lv:=by
 have hc:=qXP x;unfold xI
 repeat' split
 ·grind
 ·exact⟨(G.read.grown hc).1,by rw[(G.read.grown hc).2,yP]⟩
 ·exact⟨(G.read.again hc).1,by rw[(G.read.again hc).2,yP]⟩
 ·exact⟨G.read,yP⟩
theorem ji.sC {M:VM} (G:ji M):ji (vp M).2∧bO (vp M).2.lv=bO M.lv:=by
 have e:(Jk M.lv).2=M.lv∨(Jk M.lv).2=([],[])::M.lv:=by grind[Jk]
 refine⟨⟨⟨G.ok.lo,G.ok.hi,qwP G.ok.iS,G.ok.ins,G.ok.un,?_⟩,G.wd.k,?_⟩,?_⟩
 ·show∀x∈(Jk M.lv).2,_;rcases e with e |e
  ·rw[e];exact G.ok.fr
  ·rw[e];intro x hx;rcases List.mem_cons.1 hx with rfl |hx
   ·simp
   ·exact G.ok.fr x hx
 ·show∀x∈(Jk M.lv).2,_;rcases e with e |e
  ·rw[e];exact G.wd.l
  ·rw[e];intro x hx;rcases List.mem_cons.1 hx with rfl |hx
   ·simp
   ·exact G.wd.l x hx
 ·show bO (Jk M.lv).2=_;grind[Jq]
theorem ji.cZ {M:VM} (G:ji M):ji (yg M).2∧bO (yg M).2.lv≤bO M.lv:=by
 have e:(Jz M.lv).2=M.lv∨(Jz M.lv).2=M.lv.tail:=by grind[Jz]
 have hs:∀x∈(Jz M.lv).2,x∈M.lv:=by
  grind[List.mem_of_mem_tail]
 refine⟨⟨⟨G.ok.lo,G.ok.hi,qv8 G.ok.iS,G.ok.ins,G.ok.un,λx hx=>G.ok.fr x (hs x hx)⟩,G.wd.k,λx hx=>G.wd.l x (hs x hx)⟩,?_⟩;show bO (Jz M.lv).2≤_;rcases e with e |e
 ·grind
 ·rw[e];cases M.lv with
  |nil=>simp
  |cons x r=>simp[bO]
theorem ji.AM {M:VM} (G:ji M) (hf:bO M.lv<90000):ji (gU M).2∧bO (gU M).2.lv=bO M.lv:=by
 have hd:=qg8 G.ok.iS;have Dj:=λx (hx:x∈(XW M.lv).2)=>jXM hx;obtain⟨sz,K,most,lv,aB⟩:=M;rcases lv with _ |⟨x,_ |⟨y,r⟩⟩
 ·trivial
 ·trivial
 ·have e:=qxS (x:=x) (y:=y) (r:=r);refine⟨⟨⟨G.ok.lo,G.ok.hi,hd,G.ok.ins,G.ok.un,λz hz=>?_⟩,G.wd.k,λz hz=>?_⟩,e⟩
  ·have:=Dj z hz;grind
  ·have hl:=G.wd.l;have hx:iT x.1:=hl x aS;have hy:iT y.1:=hl y aS;have hz:z∈(vA y.1 x.1,y.2++x.2)::r:=hz;rcases List.mem_cons.1 hz with rfl |hz
   ·exact hy.ox hx
   grind
end
section
variable {g h:AH} {L R:List SP}
abbrev ma:Type:=Int×Int
def nS (x:ma):List UInt8:=if x.1=1 then Lib.decDigits x.2.toNat else if x.1=2 then(if x.2=1 then[121,101,115]else[110,111])else[110,111,110,101]
def Jd (x:ma):AV:=if x.1=1 then .iface 22 (.int .u64 x.2)else if x.1=2 then .iface 4 (.bool (decide (x.2=1)))else .iface 355 (.agg [])
def Fx (x:ma):Prop:=0≤x.2∧x.2<18446744073709551616
def Nm (l:List ma):List UInt8:=Lib.join (l.map nS) [32]
theorem GZ (x:ma):One (Jd x):=by unfold Jd;(repeat' split)<;>exact⟨rfl,rfl⟩
theorem NQ (l:List ma):jY (l.map Jd)=true:=by unfold jY;rw[List.all_eq_true];intro v hv;obtain⟨x,_,rfl⟩:=List.mem_map.1 hv;exact(GZ x).2
theorem OP {s:List UInt8} {k1 k2:IntKind} {lo hi:Nat} {K:AV→Go.Ae.R} {Q:AV→AH→Prop} (h1:lo≤hi) (h2:hi≤s.length) (w:wp (K (.str ((s.drop lo).take (hi-lo)))) Q):wp (w6 (.str s) (some (.int k1 (lo:Int))) (some (.int k2 (hi:Int))) K) Q:=by unfold w6;simp only[gH h2,gH h1,ob,QI];rw[kQ (by grind)];exact w
theorem qyD {n:Nat} (hn:1≤n) {i:Nat} (hi:i<100):aE n 238 [.int .i64 (i:Int)] h λr h'=>r=.str (Lib.decDigits i)∧h'=h:=by
 (refine qA rfl omQ λk hk=>?_;show wp (S238 (callT tab qz k) _ _) _;unfold S238;try simp only[iI,iZ])
 by_cases h1:i<10
 ·refine jt omQ (qX ?_);refine qi omQ ?_;rw[show(i:Int)+((1:Nat):Int)=((i+1:Nat):Int) by rfl];refine OP omQ (by simp;omega) (qW ⟨?_,rfl⟩);rw[← Lib.digits36_piece h1]
  rfl
 ·refine jP omQ (qJ ?_);refine Z6 omQ (Z6 omQ (qi omQ ?_));rw[show(i:Int)*((2:Nat):Int)+((2:Nat):Int)=((i*2+2:Nat):Int) by rfl,show(i:Int)*((2:Nat):Int)=((i*2:Nat):Int) by rfl];refine OP omQ (by simp;omega) (qW ⟨?_,rfl⟩);rw[← Lib.smalls_piece h1 hi]
  congr 2
theorem Fy {n:Nat} (hn:1≤n) {u:Nat} (h1:1≤u) (h2:u<18446744073709551616):aE n 239 [.int .u64 (u:Int)] h λr h'=>r=.int .i64 (Lib.nDigits u:Int)∧h'=h:=by refine qA rfl omQ λk hk=>?_;show wp (Fk _ [.int .u64 (.ofNat u)] h) _;unfold Fk;dsimp only;rw[iY h1,iY (show u+1≤18446744073709551616 by omega)];exact⟨_,_,rfl,rfl,rfl⟩
theorem qgD:∀(bs:List UInt8),Dh (bs.map λc=>.int .u8 (.ofNat c.toNat))=some bs:=by
 intro bs
 induction bs with
 |nil=>rfl
 |cons b bs ih=>rw[List.map_cons];unfold Dh;rw[ih,iY (show b.toNat+1≤256 from b.toNat_lt)];simp
theorem Fz {n:Nat} (hn:1≤n) {b u nd:Nat} {bs:List UInt8} {ys:List AV} (H:HS g h (qw b ((bs.map λc=>.int .u8 (.ofNat c.toNat))++ys)::R)) (hb:bs.length=nd) (h1:u<10 ^ nd) (h2:u<18446744073709551616) (h3:nd≤100) (_:jY ys=true) :
  aE n 240 [.slice b 0 nd 24 false,.int .u64 (u:Int)] h λ_ h'=>HS g h' (qw b (tG nd u++ys)::R):=by
 refine qA rfl omQ λk hk=>?_;show wp (Fl _ [.slice b 0 nd 24 false,.int .u64 (.ofNat u)] h) _;obtain⟨D,⟨hD,e,A⟩,eP,kk⟩:=H.act;obtain⟨c,c1,c2,c3⟩:=A.bp;unfold Fl;simp only[c1,c2];rw[List.take_append_of_le_length (by grind),List.take_of_length_le (by grind),qgD];simp only[];rw[show Nat.beq bs.length nd=true from by simp_all,iY (show u+1≤10 ^ nd by omega),iY (show u+1≤18446744073709551616 by omega),iY h3];simp;rw[List.drop_append_of_le_length (by grind),List.drop_of_length_le (by grind),List.nil_append];refine⟨_,_,rfl,kk _ (qw b (tG nd u++ys)) D ⟨by simp,λa ha hn=>AH.bw h _ λe=>hn ((hD a).2 e.symm)⟩ ⟨hD,e,by simp_all,CT.ofList _,AH.aV ..,CT.aL _,CT.bC _⟩ λa ha=>⟨.inl ha,by simp_all⟩⟩
theorem qGc:∀(xs:List (List UInt8)),Un (xs.map .str)=some xs:=by
 intro xs
 induction xs with
 |nil=>rfl
 |cons x xs ih=>simp_all[List.map_cons,Un]
theorem jZa {n:Nat} (hn:1≤n) {b m:Nat} {e:TypeId} {xs:List (List UInt8)} {sep:List UInt8} (H:HS g h (Cell b (xs.map .str) e false::R)) (hm:xs.length=m) (h1:m≤1000000) (h2:(Lib.join xs sep).length≤1000000) :
  aE n 137 [.slice b 0 m m false,.str sep] h λr h'=>r=.str (Lib.join xs sep)∧h'=h:=by
 refine qA rfl omQ λk hk=>?_;show wp (Fm _ [.slice b 0 m m false,.str sep] h) _;obtain⟨D,hD,A⟩:=H.p .here;obtain⟨c,c1,c2,c3⟩:=A.bp;unfold Fm;simp only[c1,c2,List.drop_zero];rw[List.take_of_length_le (by grind),qGc];simp only[];rw[show Nat.beq xs.length m=true from by simp_all,iY (Nat.le_refl m),iY h1,iY h2];exact⟨_,_,rfl,rfl,rfl⟩
theorem qjm (nd u:Nat):Qz (tG nd u)=some ((List.range nd).map λt=>Lib.dg u (nd-1-t)):=by
 unfold tG;have key:∀l:List Nat,Qz (l.map λt=>AV.int .u8 (.ofNat (Lib.dg u (nd-1-t)).toNat))=some (l.map λt=>Lib.dg u (nd-1-t)):=by
  intro l
  induction l with
  |nil=>rfl
  |cons a l ih=>simp_all[List.map_cons,Qz]
 grind
theorem qY1 {n:Nat} (hn:2≤n) {u:Nat} (h2:u<18446744073709551616) (H:HS g h R):aE n 192 [.int .u64 (u:Int),.int .i64 10] h λr h'=>r=.str (Lib.decDigits u)∧HS g h' R:=by
 refine bj rfl omQ λk hk=>?_;unfold S192;try simp only[iZ]
 refine qk rfl (qX ?_);by_cases h1:u<100
 ·refine jt omQ (qX ?_);refine yZ omQ<|qG (qyD omQ h1) ?_;rintro _ _ ⟨rfl,rfl⟩;exact qW ⟨rfl,H⟩
 ·refine jP omQ (qJ ?_);refine qP H rfl λb h3 H3=>?_;have hnd:=Lib.nDigits_le20 u h2;have LH:=Lib.nDigits_pos u;have aw:=Lib.lt_pow_nDigits u;have uB:=Lib.decDigits_eq u;refine qG (Fy omQ omQ h2) ?_;generalize Lib.nDigits u=nd at*;have H4:HS g h3 (qw b (((List.replicate nd (0:UInt8)).map λc=>.int .u8 (.ofNat c.toNat))++List.replicate (24-nd) (.int .u8 (.ofNat 0)))::R):=by
   have e:(List.replicate nd (0:UInt8)).map (λc=>AV.int .u8 (.ofNat c.toNat))++List.replicate (24-nd) (AV.int .u8 (.ofNat 0))=List.replicate 24 (AV.int .u8 (.ofNat 0)):=by grind[List.map_replicate,List.replicate,List.replicate_append_replicate]
   simp_all
  rintro _ _ ⟨rfl,rfl⟩;have ng:∀(K:AV→Go.Ae.R) (Q:AV→AH→Prop),wp (K (.slice b 0 nd 24 false)) Q→wp (kB 24 1 (.ptr b 0) none (some (.int .i64 (nd:Int))) K) Q:=by intro K Q w;unfold kB;simp only[gH (show nd≤24 by omega),ob,show vm none nd 0=some 0 from rfl];exact w
  refine ng _ _<|qG (Fz omQ H4 aS aw h2 omQ (by unfold jY;rw[List.all_eq_true];intro y hy;rw[List.eq_of_mem_replicate hy];rfl)) ?_;intro _ h5 H5;refine ng _ _ ?_;obtain⟨e,A⟩:=H5.obj .here;unfold GC;dsimp only;rw[G9 A (by simp[XM]),List.drop_zero,List.take_append_of_le_length (by simp[XM]),List.take_of_length_le (by simp[XM])];simp only[ob,qjm];exact qW ⟨by rw[uB],H5.drop⟩
theorem qGE {n:Nat} (hn:3≤n) {u:Int} (h0:0≤u) (h2:u<18446744073709551616) (H:HS g h R):aE n 168 [.int .u64 u,.int .i64 10] h λr h'=>r=.str (Lib.decDigits u.toNat)∧HS g h' R:=by
 refine bj rfl omQ λk hk=>?_;unfold S168;try simp only
 obtain⟨m,rfl⟩:∃m:Nat,u=m:=⟨u.toNat,by omega⟩;refine qG (qY1 omQ omQ H) ?_;rintro _ h3 ⟨rfl,H3⟩;exact qW ⟨rfl,H3⟩
theorem qGr {t:TypeId} {z x:AV} {K:AV→Go.Ae.R} {Q:AV→AH→Prop} (w:wp (K (.bV [x,.bool true])) Q):wp (ym t z (.iface t x) K) Q:=by show wp (bif Nat.beq t t then _ else _) Q;rw[Nat.beq_refl];exact w
theorem Rx {t u:TypeId} {z x:AV} {K:AV→Go.Ae.R} {Q:AV→AH→Prop} (h:Nat.beq u t=false) (w:wp (K (.bV [z,.bool false])) Q):wp (ym t z (.iface u x) K) Q:=by show wp (bif Nat.beq u t then _ else _) Q;rw[h];exact w
theorem jQ5 {n:Nat} (hn:4≤n) {x:ma} (hx:Fx x) (H:HS g h R):aE n 136 [Jd x] h λr h'=>r=.str (nS x)∧HS g h' R:=by
 (refine qA rfl omQ λk hk=>?_;show wp (S136 (callT tab qz k) _ _) _;unfold S136;try simp only[iI,uU,iZ])
 unfold Jd nS;by_cases h1:x.1=1
 ·rw[iJ h1,iJ h1];refine qGr (qD rfl (qD rfl (qX ?_)));refine qG (qGE omQ hx.1 hx.2 H) ?_;rintro _ h3 ⟨rfl,H3⟩;exact qW ⟨rfl,H3⟩
 ·rw[iQ h1,iQ h1];by_cases h2:x.1=2
  ·rw[iJ h2,iJ h2];refine Rx rfl<|qD rfl (qD rfl (qJ ?_));refine qGr (qD rfl (qD rfl (qX ?_)));by_cases h3:x.2=1
   ·rw[iG h3,iJ h3];exact qX (qW ⟨rfl,H⟩)
   ·rw[iV h3,iQ h3];exact qJ (qW ⟨rfl,H⟩)
  ·rw[iQ h2,iQ h2];refine Rx rfl<|qD rfl (qD rfl (qJ ?_));refine Rx rfl<|qD rfl (qD rfl (qJ (qW ⟨rfl,H⟩)))
theorem qyu (x:ma) (hx:Fx x):(nS x).length≤20:=by
 unfold nS;have h2:=hx.2
 split
 ·simp_all[Lib.decDigits_length,Lib.nDigits_le20,omQ]
 grind
theorem qvI {m:Nat}:∀(xs:List (List UInt8)),(∀x∈xs,x.length≤m)→(Lib.join xs [32]).length≤xs.length*(m+1):=by
 intro xs hx;cases xs with
 |nil=>simp[Lib.join_nil]
 |cons x r=>
  rw[Lib.join_cons,List.length_append];have h2:∀r:List (List UInt8),(∀x∈r,x.length≤m)→(Lib.joinTail [32] r).length≤r.length*(m+1):=by
   intro r
   induction r with
   |nil=>simp[Lib.joinTail]
   |cons y r ih=>intro h;have a:=h y (iK ..);have b:=ih λz hz=>h z (iX _ hz);unfold Lib.joinTail at*;simp only[List.map_cons,List.flatten_cons,List.length_append,List.length_cons,List.length_nil,Nat.add_mul];omega
  have h3:=h2 r λz hz=>hx z (iX _ hz);grind[List.length_cons,Nat.add_mul]
theorem qyO {l:List ma} (hl:l.length≤1000) (hi:∀x∈l,Fx x):(Nm l).length≤1000000:=by unfold Nm;have:=qvI (m:=20) (l.map nS) (λy hy=>by obtain⟨x,hx,rfl⟩:=List.mem_map.1 hy;grind[qyu]);grind
theorem qx3 {e:TypeId} {z:AV} {n:Nat} {k1 k2:IntKind} {K2:AV→AH→Go.Ae.R} {Q:AV→AH→Prop} (H:HS g h L) (h2:n≤1073741824)
  (w:∀b h',HS g h' (Cell b (List.replicate n z) e false::L)→wp (K2 (.slice b 0 n n false) h') Q):wp (Ja h e [z] (.int k1 (n:Int)) (.int k2 (n:Int)) K2) Q:=by
 refine W5 (Nat.le_refl n) h2 λb h' hb A F=>w b h' (H.add (D':=λa=>a=b) F.none ⟨λa=>Iff.rfl,by grind[W3]⟩ ?_);rintro a rfl;exact⟨hb,A.lt⟩
def bG (o:Nat) (l:List ma):SP:=.ex λsv=>.all [qw o [sv],qB 20 1 l.length sv (l.map Jd)]
theorem bG.E {o:Nat} {l:List ma} (H:HS g h (bG o l::R)):∃sv,HS g h (qw o [sv]::qB 20 1 l.length sv (l.map Jd)::R):=by obtain⟨sv,H⟩:=H.eU;exact⟨sv,H.cG⟩
theorem bG.I {o:Nat} {l:List ma} {sv:AV} (H:HS g h (qw o [sv]::qB 20 1 l.length sv (l.map Jd)::R)):HS g h (bG o l::R):=HS.fB sv H.allI
theorem jZH {n:Nat} (hn:5≤n) {o:Nat} {l:List ma} (H:HS g h (bG o l::R)) (hl:l.length≤1000) (hi:∀x∈l,Fx x) :
  aE n 109 [.ptr o 0] h λr h'=>r=.str (Nm l)∧HS g h' (bG o l::R):=by
 (refine qA (g:=W109) rfl omQ λk hk=>?_;show wp (S109 (callT tab qz k) _ _) _;unfold S109;try simp only[iI,iZ])
 obtain⟨sv,H⟩:=bG.E H;refine qK (qQ (qZ ‹_› .here rfl ?_));refine jQ ‹_› e_1<|qx3 (n:=l.length) H omQ λb h2 H2=>?_;refine qK (qQ (qZ ‹_› e_1 rfl ?_));refine jQ ‹_› e_2<|zQ (λm s h'=>∃i:Nat,s=(.int .i64 (i:Int),.int .i64 (l.length:Int),sv,.slice b 0 l.length l.length false,())∧i≤l.length∧m=l.length-i∧
  HS g h' (Cell b (((l.take i).map λx=>.str (nS x))++List.replicate (l.length-i) (.str [])) 9 false::qw o [sv]::qB 20 1 l.length sv (l.map Jd)::R))
  ?_ (m:=l.length) (by show _<1000000000;omega) ⟨0,rfl,by omega,by rfl,H2⟩
 clear H H2;rintro m ih s h3 bQ ⟨i,rfl,h1,rfl,H⟩;by_cases aw:i<l.length
 ·refine jt omQ (qX ?_);refine zj (H.sl e_2) (x:=Jd l[i]) (by grind)<|qG (jQ5 omQ (hi _ (List.getElem_mem aw)) H) ?_;rintro _ h4 ⟨rfl,H4⟩;refine Xn (k:=.i64) aw<|qvE H4 rfl (by grind) rfl λh5 H5=>?_;refine qi omQ (bQ (l.length-(i+1)) _ _ omQ ⟨i+1,rfl,by omega,rfl,?_⟩);have e:JZ (((l.take i).map λx=>AV.str (nS x))++List.replicate (l.length-i) (.str [])) (0+i*1) (AV.str (nS l[i])).cells=((l.take (i+1)).map λx=>AV.str (nS x))++List.replicate (l.length-(i+1)) (.str []):=by
   rw[Nat.zero_add,Nat.mul_one];show JZ _ i [AV.str (nS l[i])]=_;rw[K8 (by grind),List.take_add_one,iW aw,List.map_append,show l.length-i=(l.length-(i+1))+1 by omega,List.replicate_succ,List.set_append_right _ _ (by grind)];have hz:i-((l.take i).map λx=>AV.str (nS x)).length=0:=by grind
   grind
  grind
 ·obtain rfl:i=l.length:=by omega
  refine jP omQ (qJ ?_);rw[Nat.sub_self,List.take_length,List.replicate_zero,List.append_nil]at H;have H2:HS g h3 (Cell b ((l.map nS).map .str) 9 false::qw o [sv]::qB 20 1 l.length sv (l.map Jd)::R):=by rw[List.map_map];exact H
  refine qG (jZa omQ H2 aS omQ (qyO hl hi)) ?_;rintro _ _ ⟨rfl,rfl⟩;exact qx (qW ⟨rfl,bG.I H.drop⟩)
end
section
structure fZ where
  op:Int
  pc:Int
  aC:List Int
  told:Nat
structure IM where
  aC:List Int
  out:List ma
  pc:Int
  bn:List fZ
structure SM where
  e:Int
  nx:Int
  bp:Bool
  s:IM
  v:VM
def dJ (s:IM) (i v:Int):IM:={ s with aC:=s.aC.set i.toNat v }
def yt (b off:Int):Int×Int:=if 2147483648≤b∨2147483648≤b+off∨b+off<6 then(0,2)else(b+off,0)
def kP (p:Prop) [Decidable p]:Int:=if p then 1 else 0
def zy (s:IM) (V:VM) (x:qa):Int×IM×VM :=
 if x.1=8 then
  (if(yt (qC s.aC x.2.2.1) x.2.2.2.1).2=0 then
   (if(qn V (yt (qC s.aC x.2.2.1) x.2.2.2.1).1).1.2=0 then(0,dJ s x.2.1 (qn V (yt (qC s.aC x.2.2.1) x.2.2.2.1).1).1.1,(qn V (yt (qC s.aC x.2.2.1) x.2.2.2.1).1).2)
    else((qn V (yt (qC s.aC x.2.2.1) x.2.2.2.1).1).1.2,s,(qn V (yt (qC s.aC x.2.2.1) x.2.2.2.1).1).2))
  else(2,s,V))
 else if x.1=9 then
  (if(yt (qC s.aC x.2.1) x.2.2.2.1).2=0 then((zl V [((yt (qC s.aC x.2.1) x.2.2.2.1).1,qC s.aC x.2.2.1)]).1,s,(zl V [((yt (qC s.aC x.2.1) x.2.2.2.1).1,qC s.aC x.2.2.1)]).2)
  else(2,s,V))
 else if x.1=10 then
  (if 2147483648≤qC s.aC x.2.2.1 then(3,s,V)
  else if(xI V (qC s.aC x.2.2.1)).1.2=0 then(0,dJ s x.2.1 (xI V (qC s.aC x.2.2.1)).1.1,(xI V (qC s.aC x.2.2.1)).2)
  else((xI V (qC s.aC x.2.2.1)).1.2,s,(xI V (qC s.aC x.2.2.1)).2))
 else
  (if 2147483648≤qC s.aC x.2.1 then(2,s,V)else((gn V (qC s.aC x.2.1)).1,s,(gn V (qC s.aC x.2.1)).2))
def xS (op at_ nx:Int) (s:IM) (V:VM):SM :=
 if(vp V).1=0 then⟨0,nx,false,{ s with bn:=⟨op,at_,s.aC,s.out.length⟩::s.bn },(vp V).2⟩else⟨(vp V).1,nx,false,s,(vp V).2⟩
def Jf (s:IM) (p:fZ):IM:={ s with aC:=p.aC,out:=s.out.take p.told }
def gJ (mt:List Int):List fZ→IM→VM→SM
 |[],s,V=>⟨0,s.pc,true,{ s with bn:=[] },V⟩
 |p::o,s,V=>
  if(yg V).1=0 then
   (if p.op=17 then xS 18 (qC mt p.pc) (qC mt p.pc+1) { Jf s p with bn:=o } (yg V).2
   else gJ mt o s (yg V).2)
  else⟨(yg V).1,s.pc+1,false,{ s with bn:=o },(yg V).2⟩
def FA (o:List fZ):fZ:=(o.head?).getD ⟨0,0,[0,0,0,0,0,0,0,0],0⟩
def Q5 (mt:List Int) (s:IM) (V:VM) (op:Int):SM :=
 if op=14∨op=17 then xS op s.pc (s.pc+1) s V
 else if op=15∨op=19 then⟨(gU V).1,s.pc+1,false,{ s with bn:=s.bn.tail },(gU V).2⟩
 else if op=18 then⟨(gU V).1,qC mt s.pc+1,false,{ s with bn:=s.bn.tail },(gU V).2⟩
 else if op=16 then⟨(yg V).1,qC mt s.pc+1,false,{ Jf s (FA s.bn)with bn:=s.bn.tail },(yg V).2⟩
 else gJ mt s.bn s V
def bK (mt:List Int) (s:IM) (V:VM) (x:qa):SM :=
 if x.1=1 then⟨0,s.pc+1,false,dJ s x.2.1 x.2.2.2.2,V⟩
 else if x.1=2 then⟨0,s.pc+1,false,dJ s x.2.1 (qC s.aC x.2.2.1),V⟩
 else if x.1=3 then⟨0,s.pc+1,false,dJ s x.2.1 (jR .u64 (qC s.aC x.2.2.1+qC s.aC x.2.2.2.1)),V⟩
 else if x.1=4 then⟨0,s.pc+1,false,dJ s x.2.1 (jR .u64 (qC s.aC x.2.2.1-qC s.aC x.2.2.2.1)),V⟩
 else if x.1=5 then⟨0,s.pc+1,false,dJ s x.2.1 (jR .u64 (qC s.aC x.2.2.1*qC s.aC x.2.2.2.1)),V⟩
 else if x.1=6 then⟨0,s.pc+1,false,dJ s x.2.1 (kP (qC s.aC x.2.2.1<qC s.aC x.2.2.2.1)),V⟩
 else if x.1=7 then⟨0,s.pc+1,false,dJ s x.2.1 (kP (qC s.aC x.2.2.1=qC s.aC x.2.2.2.1)),V⟩
 else if x.1=12 then⟨0,x.2.2.2.1,false,s,V⟩
 else if x.1=13 then⟨0,if qC s.aC x.2.1=0 then x.2.2.2.1 else s.pc+1,false,s,V⟩
 else if x.1=21 then(if 16≤s.out.length then⟨5,s.pc+1,false,s,V⟩else⟨0,s.pc+1,false,{ s with out:=s.out++[(1,qC s.aC x.2.1)] },V⟩)
 else if x.1=22 then⟨13,s.pc+1,false,s,V⟩
 else if x.1=8∨x.1=9∨x.1=10∨x.1=11 then⟨(zy s V x).1,s.pc+1,false,(zy s V x).2.1,(zy s V x).2.2⟩
 else Q5 mt s V x.1
structure RM where
  kind:Int
  err:Int
  left:Nat
  s:IM
  v:VM
def jr (l:List qa) (mt:List Int):Nat→IM→VM→RM
 | 0,s,V=>if s.pc=l.length then⟨2,0,0,s,V⟩else⟨4,6,0,s,V⟩
 |n+1,s,V=>
  if s.pc=l.length then⟨2,0,n+1,s,V⟩
  else if(bK mt s V (qf l s.pc)).e=0 then
   (if(bK mt s V (qf l s.pc)).bp=true then⟨3,0,n,{ (bK mt s V (qf l s.pc)).s with pc:=(bK mt s V (qf l s.pc)).nx },(bK mt s V (qf l s.pc)).v⟩
   else jr l mt n { (bK mt s V (qf l s.pc)).s with pc:=(bK mt s V (qf l s.pc)).nx } (bK mt s V (qf l s.pc)).v)
  else if(bK mt s V (qf l s.pc)).e=11 then⟨1,0,n+1,(bK mt s V (qf l s.pc)).s,(bK mt s V (qf l s.pc)).v⟩
  else⟨4,(bK mt s V (qf l s.pc)).e,n+1,(bK mt s V (qf l s.pc)).s,(bK mt s V (qf l s.pc)).v⟩
theorem Js {l:List qa} {mt:List Int} {s:IM} {V:VM}:jr l mt 0 s V=if s.pc=l.length then⟨2,0,0,s,V⟩else⟨4,6,0,s,V⟩:=rfl
theorem JI {l:List qa} {mt:List Int} {n:Nat} {s:IM} {V:VM}:jr l mt (n+1) s V=if s.pc=l.length then⟨2,0,n+1,s,V⟩
  else if(bK mt s V (qf l s.pc)).e=0 then
   (if(bK mt s V (qf l s.pc)).bp=true then⟨3,0,n,{ (bK mt s V (qf l s.pc)).s with pc:=(bK mt s V (qf l s.pc)).nx },(bK mt s V (qf l s.pc)).v⟩
   else jr l mt n { (bK mt s V (qf l s.pc)).s with pc:=(bK mt s V (qf l s.pc)).nx } (bK mt s V (qf l s.pc)).v)
  else if(bK mt s V (qf l s.pc)).e=11 then⟨1,0,n+1,(bK mt s V (qf l s.pc)).s,(bK mt s V (qf l s.pc)).v⟩
  else⟨4,(bK mt s V (qf l s.pc)).e,n+1,(bK mt s V (qf l s.pc)).s,(bK mt s V (qf l s.pc)).v⟩:=rfl
theorem Jg {l:List qa} {mt:List Int} {s:IM} {V:VM} (h0:s.pc=l.length):∀n,jr l mt n s V=⟨2,0,n,s,V⟩:=by
 intro n;cases n with
 |zero=>rw[Js,iJ h0]
 |succ n=>rw[JI,iJ h0]
def qO (l:List qa):Nat→List Int
 | 0=>[]
 |i+1=>jU (qO l i) i (qf l i).1
theorem wS {l:List qa} {i:Nat} (h:i<l.length):qf l (i:Int)=l[i]:=by simp_all[qf,Int.toNat_natCast]
theorem zY {l:List qa} {i:Nat}:qO l (i+1)=jU (qO l i) i (qf l i).1:=rfl
theorem qvP {l:List qa}:∀(d i:Nat) {st':List Int},i+d=l.length→l9 l (l.drop i) i (qO l i)=.inr st'→(∀j,i≤j→j<l.length→xv l (qO l j) (qf l j)=0)∧qO l l.length=st':=by
 intro d
 induction d with
 |zero=>
  intro i st' hi h;obtain rfl:i=l.length:=by omega
  rw[List.drop_length]at h;cases h;grind
 |succ d ih=>
  intro i st' hi h;have aw:i<l.length:=by omega
  rw[MC aw]at h
  split at h
  ·rename_i hw;obtain⟨a,b⟩:=ih (i+1) (st':=st') omQ (by grind[zY,wS]);refine⟨λj h1 h2=>?_,b⟩;by_cases hj:j=i
   ·grind[wS]
   grind
  grind
theorem qqB {l:List qa}:∀(d i:Nat),i+d=l.length→∀k,i+k<l.length→(gi (l.drop i) i (qO l i))[k]? =some (jc (qO l (i+k))):=by
 intro d
 induction d with
 |zero=>grind
 |succ d ih=>
  intro i hi k hk;have aw:i<l.length:=by omega
  rw[OF aw];cases k with
  |zero=>rfl
  |succ k=>rw[List.getElem?_cons_succ];have:=ih (i+1) omQ k omQ;grind[zY,wS]
structure Fit (l:List qa):Prop where
  pos:0<l.length
  le:l.length≤40
  ok:∀j,j<l.length→xv l (qO l j) (qf l j)=0
  nil:qO l l.length=[]
  tI:∀j,j<l.length→(gi l 0 [])[j]? =some (jc (qO l j))
  jump:∀j,j<l.length→¬J2 l (gi l 0 []) j (qf l j)
theorem qYo {l:List qa} {a:List Int}:∀(d i:Nat),i+d=l.length→(Xr l a (l.drop i) i).2=0→∀j,i≤j→j<l.length→¬J2 l a j (qf l j):=by
 intro d
 induction d with
 |zero=>grind
 |succ d ih=>
  intro i hi h j h1 h2;have aw:i<l.length:=by omega
  rw[Mk aw]at h
  split at h
  ·grind
  ·rename_i hn;by_cases hj:j=i
   ·grind[wS]
   ·exact ih (i+1) omQ h j omQ h2
theorem Mb {l:List qa} (h:(zi l).2=0):Fit l:=by
 have hg:=Ml h;obtain⟨a,b⟩:=qvP l.length 0 (st':=[]) omQ hg;unfold zi at h
 split at h
 ·grind
 ·rename_i h0;rw[hg]at h;dsimp only at h;rw[iJ rfl]at h
  exact⟨by omega,by omega,λj hj=>a j (Nat.zero_le _) hj,b,λj hj=>by
   have:=qqB (l:=l) l.length 0 omQ j omQ;rw[Nat.zero_add]at this
   trivial,λj hj=>qYo l.length 0 omQ h j (Nat.zero_le _) hj⟩
def FB (i:Nat) (st:List Int):Prop:=cB i st∧st.Pairwise (· < ·)
theorem VZ {l:List qa}:∀i,FB i (qO l i):=by
 intro i
 induction i with
 |zero=>exact⟨cB.nil,List.Pairwise.nil⟩
 |succ i ih=>
  refine⟨ih.1.behind,?_⟩;rw[zY];have hd:(qO l i).dropLast.Pairwise (· < ·):=ih.2.sublist (List.dropLast_sublist _);have hp:∀st:List Int,cB i st→st.Pairwise (· < ·)→(st++[(i:Int)]).Pairwise (· < ·):=by intro st h1 h2;rw[List.pairwise_append];refine⟨h2,List.pairwise_singleton ..,λa ha b hb=>?_⟩;rw[List.mem_singleton]at hb;subst hb;exact(h1 a ha).2
  unfold jU
  repeat' split
  ·exact hp _ ih.1.dropLast hd
  ·exact hp _ ih.1 ih.2
  ·grind
  ·exact ih.2
theorem Ot {l:List qa}:∀(i k p:Nat),(qO l i)[k]? =some (p:Int)→qO l (p+1)=(qO l i).take (k+1):=by
 intro i
 induction i with
 |zero=>nofun
 |succ i ih=>
  intro k p h;have key:∀st:List Int,(∀k p:Nat,st[k]? =some (p:Int)→qO l (p+1)=st.take (k+1))→qO l (i+1)=st++[(i:Int)]→qO l (p+1)=(qO l (i+1)).take (k+1):=by
   grind
  have AO:∀k p:Nat,(qO l i).dropLast[k]? =some (p:Int)→qO l (p+1)=(qO l i).dropLast.take (k+1):=by
   intro k p h;have pG:k+1≤(qO l i).length-1:=by grind
   have h2:(qO l i)[k]? =some (p:Int):=by
    grind
   rw[ih k p h2,List.dropLast_eq_take,List.take_take,Nat.min_eq_left pG]
  by_cases hb:xo (qf l i).1=true∨(qf l i).1=18
  ·by_cases he:0<zU (qf l i).1
   ·exact key _ AO (by simp_all[zY,jU])
   ·exact key _ ih (by rw[zY];simp_all[jU,iQ])
  grind[zU,qf,qO,zY,jU]
theorem wR {l:List qa} {i:Nat} (h:qO l i≠[]):∃p:Nat,jc (qO l i)=p∧p<i∧(qO l i)[(qO l i).length-1]? =some (p:Int)∧qO l (p+1)=qO l i:=by
 have hb:=(VZ (l:=l) i).1.eu h;obtain⟨p,hp⟩:∃p:Nat,jc (qO l i)=p:=⟨(jc (qO l i)).toNat,by omega⟩;have hl:0<(qO l i).length:=List.length_pos_iff.2 h;have hk:(qO l i)[(qO l i).length-1]? =some (p:Int):=by rw[← hp];unfold jc;grind
 refine⟨p,hp,by omega,hk,?_⟩;rw[Ot i _ p hk,List.take_of_length_le omQ]
theorem qkD {l:List qa} {i j:Nat} (h:jc (qO l i)=jc (qO l j)):qO l i=qO l j:=by
 by_cases hi:qO l i=[]
 ·grind[qO,wR,MB]
 ·obtain⟨p,h1,_,_,h2⟩:=wR hi;by_cases hj:qO l j=[]
  all_goals grind[MB,wR]
def nB (l:List qa) (A:List Int):Nat→List Int
 | 0=>List.replicate l.length (-1)
 |i+1=>if 0<zU (qf l i).1 then(nB l A i).set (qC A i).toNat i else nB l A i
def lC (l:List qa) (A:List Int):Nat→List Int
 | 0=>nB l A l.length
 |i+1=>if(qf l i).1=16 then(lC l A i).set i (qC (lC l A i) (qC A i))else lC l A i
def qT (l:List qa):List Int:=lC l (gi l 0 []) l.length
theorem jXP {l:List qa} {A:List Int} {i:Nat}:nB l A (i+1)=if 0<zU (qf l i).1 then(nB l A i).set (qC A i).toNat i else nB l A i:=rfl
theorem Ry {l:List qa} {A:List Int} {i:Nat}:lC l A (i+1)=if(qf l i).1=16 then(lC l A i).set i (qC (lC l A i) (qC A i))else lC l A i:=rfl
theorem Rz {l:List qa} {A:List Int}:∀i,(nB l A i).length=l.length:=by
 intro i
 induction i with
 |zero=>simp[nB]
 |succ i ih=>grind[jXP]
theorem Z1 {l:List qa} {A:List Int}:∀i,(lC l A i).length=l.length:=by
 intro i
 induction i with
 |zero=>exact Rz _
 |succ i ih=>grind[Ry]
theorem qq9 (l:List qa):(qT l).length=l.length:=Z1 _
theorem kb {l:List qa} (F:Fit l) {j:Nat} (h:j<l.length):qC (gi l 0 []) (j:Int)=jc (qO l j):=by unfold qC;rw[Int.toNat_natCast,F.tI j h];rfl
theorem qwm {l:List qa} {p:Nat}:∀(d i:Nat),p<i→(p:Int)∉qO l i→(p:Int)∉qO l (i+d):=by
 intro d
 induction d with
 |zero=>simp
 |succ d ih=>
  intro i hp h;have h2:=ih i hp h;rw[show i+(d+1)=i+d+1 by rfl,zY];have hd:(p:Int)∉(qO l (i+d)).dropLast:=λhm=>h2 ((List.dropLast_sublist _).subset hm);unfold jU
  grind
theorem VG {st:List Int} {p:Int} (h:st.Pairwise (· < ·)) (hn:st≠[]) (hp:jc st=p):p∉st.dropLast:=by
 have e:st=st.dropLast++[p]:=by grind[List.dropLast_concat_getLast,jc,List.getLast?_eq_some_getLast]
 rw[e,List.pairwise_append]at h;grind[List.mem_singleton_self]
theorem qv1 {l:List qa} {p j:Nat} (he:0<zU (qf l j).1) (hn:qO l j≠[]) (hp:jc (qO l j)=p):(p:Int)∉qO l (j+1):=by
 have h1:=VG (VZ (l:=l) j).2 hn hp;have h2:=(VZ (l:=l) j).1.eu hn;rw[zY];unfold jU;grind
theorem kR {l:List qa} {st:List Int} {x:qa} (h:xv l st x=0):Xg x=true∧(0<zU x.1→dG l st=zU x.1)∧(x.1=16→dG l st=14)∧(xo x.1=true→st.length<5):=by
 unfold xv at h;grind
theorem qX4 {l:List qa} {i:Nat} {p:Nat} (hn:qO l i≠[]) (hp:jc (qO l i)=p):dG l (qO l i)=(qf l p).1:=by simp_all[dG]
theorem qWb {l:List qa} (F:Fit l) {p:Nat} (hp:p<l.length) (ho:(qf l p).1=14∨(qf l p).1=17∨(qf l p).1=18) :
  ∃e:Nat,p<e∧e<l.length∧zU (qf l e).1=(qf l p).1∧qO l e≠[]∧jc (qO l e)=p∧
   ∀j,j<l.length→0<zU (qf l j).1→jc (qO l j)=p→j=e:=by
 have eI:(p:Int)∈qO l (p+1):=by rw[zY];unfold jU;rw[iJ (by grind[xo])];simp
 have key:∀d i,p<i→i+d=l.length→(p:Int)∈qO l i→∃e,i≤e∧e<l.length∧(p:Int)∈qO l e∧(p:Int)∉qO l (e+1):=by
  intro d
  induction d with
  |zero=>
   intro i _ hi hm;obtain rfl:i=l.length:=by omega
   rw[F.nil]at hm;grind
  |succ d ih=>
   grind
 obtain⟨e,h1,h2,h3,h4⟩:=key (l.length-(p+1)) (p+1) omQ omQ eI;have cg:qO l e≠[]:=λh=>by grind
 have oz:0<zU (qf l e).1:=by
  apply Classical.not_not.1;intro hn;apply h4;rw[zY];unfold jU;grind
 have FC:jc (qO l e)=p:=by
  apply Classical.not_not.1;intro hn;apply h4;have hd:(p:Int)∈(qO l e).dropLast:=by
   have hd:=List.dropLast_concat_getLast cg;rw[← hd]at h3;rcases List.mem_append.1 h3 with h |h
   all_goals grind[List.mem_singleton,jc,List.getLast?_eq_some_getLast]
  rw[zY];unfold jU;grind
 have hw:=(kR (F.ok e h2)).2.1 oz;rw[qX4 cg FC]at hw;refine⟨e,by omega,h2,hw.symm,cg,FC,λj hj AP hjp=>?_⟩;have Dk:qO l j≠[]:=(yN (F.ok j hj)).2.1 (.inl AP);have hpj:p<j:=by have:=(VZ j).1.eu Dk;omega
 rcases Nat.lt_trichotomy j e with h |h |h
 ·exfalso;have:=qwm (e-(j+1)) (j+1) omQ (qv1 AP Dk hjp);grind
 ·grind
 ·exfalso;have h5:=qwm (l:=l) (j-(e+1)) (e+1) omQ h4;grind[jc,List.getLast?_eq_some_getLast,List.getLast_mem]
theorem qv5 {l:List qa} (F:Fit l) {p e:Nat} (hp:p<l.length) (he:e<l.length) (hee:0<zU (qf l e).1) (hi:jc (qO l e)=p)
  (hu:∀j,j<l.length→0<zU (qf l j).1→jc (qO l j)=p→j=e):∀i,e<i→i≤l.length→(nB l (gi l 0 []) i)[p]? =some (e:Int):=by
 intro i
 induction i with
 |zero=>simp
 |succ i ih=>
  intro h1 h2;rw[jXP];by_cases IL:i=e
  ·subst IL;simp_all[kb,Int.toNat_natCast,Rz]
  ·split
   ·rename_i hx;rw[kb F omQ,List.getElem?_set_ne]
    ·grind
    ·intro hh;have Dk:qO l i≠[]:=(yN (F.ok i omQ)).2.1 (.inl hx);have:=(VZ i).1.eu Dk;grind
   grind
theorem qwu {l:List qa} (_:Fit l) {p:Nat} (hp:(qf l p).1≠16):∀i,(lC l (gi l 0 []) i)[p]? =(nB l (gi l 0 []) l.length)[p]?:=by
 intro i
 induction i with
 |zero=>rfl
 |succ i ih=>
  rw[Ry]
  grind
theorem qkB {l:List qa} (F:Fit l) {u:Nat} (hu:u<l.length) (ho:(qf l u).1=16):∀i,u<i→(lC l (gi l 0 []) i)[u]? =some (qC (lC l (gi l 0 []) u) (jc (qO l u))):=by
 intro i
 induction i with
 |zero=>simp
 |succ i ih=>
  intro h;rw[Ry];by_cases hi:i=u
  ·simp_all[Z1,kb]
  grind
theorem YC {l:List qa} (F:Fit l) {p:Nat} (hp:p<l.length) (ho:(qf l p).1=14∨(qf l p).1=17∨(qf l p).1=18) :
  ∃e:Nat,qC (qT l) (p:Int)=e∧p<e∧e<l.length∧zU (qf l e).1=(qf l p).1∧qO l e=qO l (p+1):=by
 obtain⟨e,h1,h2,h3,h4,h5,h6⟩:=qWb F hp ho;refine⟨e,?_,h1,h2,h3,?_⟩
 ·unfold qC qT;rw[Int.toNat_natCast,qwu F (by grind),qv5 F hp h2 (by grind) h5 h6 l.length h2 (Nat.le_refl _)];rfl
 grind[wR]
theorem MS {l:List qa} (F:Fit l) {u:Nat} (hu:u<l.length) (ho:(qf l u).1=16) :
  ∃e:Nat,qC (qT l) (u:Int)=e∧e<l.length∧(qf l e).1=15∧qO l e=qO l u∧qO l u≠[]:=by
 have hn:qO l u≠[]:=(yN (F.ok u hu)).2.1 (.inr ho);obtain⟨q,g1,g2,_,g3⟩:=wR hn;have hw:=(kR (F.ok u hu)).2.2.1 ho;rw[qX4 hn g1]at hw;obtain⟨e,h1,h2,h3,h4,h5,h6⟩:=qWb F omQ (.inl hw);have e0:qC (lC l (gi l 0 []) u) (q:Int)=e:=by unfold qC;rw[Int.toNat_natCast,qwu F (by grind),qv5 F omQ h2 (by grind) h5 h6 l.length h2 (Nat.le_refl _)];rfl
 refine⟨e,?_,h2,?_,?_,hn⟩
 ·grind[qT,qC,Int.toNat_natCast,qkB]
 ·rw[hw]at h3;unfold zU at h3
  grind
 grind[wR]
end
section
structure Xm (M M':VM):Prop where
  sz:M'.sz=M.sz
  K:M'.K=M.K
  most:M'.most=M.most
  len:M'.lv.length=M.lv.length
def Xs (M M':VM):Prop:=M'.lv=M.lv∧1≤M'.aB∧M'.aB<M.sz∧jO M'.aB M.K=none
theorem Xm.refl (M:VM):Xm M M:=⟨rfl,rfl,rfl,rfl⟩
theorem Xm.trans {M N Q:VM} (a:Xm M N) (b:Xm N Q):Xm M Q:=⟨b.sz.trans a.sz,b.K.trans a.K,b.most.trans a.most,b.len.trans a.len⟩
theorem yX (M:VM) (p:Int):Xm M (qn M p).2:=by
 unfold qn
 repeat' split
 all_goals exact⟨rfl,rfl,rfl,rfl⟩
theorem Qs {M:VM} {p:Int} (h:(qn M p).1.2=11):Xs M (qn M p).2:=by
 unfold qn at h ⊢
 split
 ·rename_i h1;rw[iJ h1]at h
  split
  ·grind
  ·rename_i h2;rw[h2]at h;dsimp only at h ⊢
   split
   ·grind
   ·rename_i h3;exact⟨rfl,h1.1,h1.2,h3⟩
 grind
theorem jZL {most:Nat} {lv:List bH} {p v:Int}:(gd most lv p v).1=0∨(gd most lv p v).1=2∨(gd most lv p v).1=5:=by
 unfold gd
 grind
theorem qjo {most:Nat} {ax:List bH}:∀{cs:List Cl} {lv:List bH},(gB most ax lv cs).1=0∨(gB most ax lv cs).1=2∨(gB most ax lv cs).1=5:=by
 intro cs
 induction cs with
 |nil=>intro lv;exact .inl rfl
 |cons c cs ih=>
  grind[wC,jZL]
theorem qxT {M:VM} {cs:List Cl}:(zl M cs).1=0∨(zl M cs).1=2∨(zl M cs).1=5:=by
 unfold zl
 split
 ·exact qjo
 simp
theorem Kl {M:VM} {cs:List Cl} (h:(zl M cs).1=11):False:=by grind[qxT]
theorem wL {M:VM} {cs:List Cl} (O:dP M):Xm M (zl M cs).2:=by
 unfold zl
 split
 ·exact⟨rfl,rfl,rfl,(qZS O.iS O.iS rfl).2⟩
 ·exact .refl M
theorem qJ6 (M:VM) (b:Int):Xm M (zS M b).2:=by
 unfold zS
 repeat' split
 all_goals first |exact .refl M |simp[yX]
theorem qXh {M:VM} {b:Int} (h:(zS M b).1.2.2=11):Xs M (zS M b).2:=by
 unfold zS at h ⊢
 split
 ·grind
 ·rename_i h1;rw[iQ h1]at h
  split
  ·grind
  simp_all[Qs]
theorem pP {lv:List bH} {b:Int}:(YA lv b).length=lv.length:=by cases lv<;>rfl
theorem qqf {M:VM} {b:Int} (O:dP M):Xm M (gn M b).2:=by
 have ha:=qJ6 M b;unfold gn
 repeat' split
 ·have ht:=ha.trans (wL (cs:=[(b-1,(zS M b).1.1)]) (Y4 (b:=b) O));exact⟨ht.sz,ht.K,ht.most,pP.trans ht.len⟩
 ·exact ha.trans (wL (Y4 O))
 all_goals grind
theorem qY3 {M:VM} {b:Int} (h:(gn M b).1=11):Xs M (gn M b).2:=by
 unfold gn at h ⊢
 split
 ·rename_i h1;rw[iJ h1]at h
  split
  ·rename_i h2;rw[iJ h2]at h
   split
   ·grind
   ·rename_i h3;rw[iQ h3]at h;grind[Kl]
  grind
 simp_all[qXh]
theorem qK6 {M:VM} {c b:Int} (O:dP M):Xm M (yh M c b).2:=by
 unfold yh
 repeat' split
 ·exact .refl M
 ·exact(yX M _).trans (wL (yO O))
 ·exact(yX M _).trans (wL (yO O))
 simp[yX]
theorem qVh {M:VM} {c b:Int} (h:(yh M c b).1.2=11):Xs M (yh M c b).2:=by
 unfold yh at h ⊢
 split
 ·grind
 ·rename_i h1;rw[iQ h1]at h
  split
  ·rename_i h2;rw[iJ h2]at h
   split
   ·grind
   ·rename_i h3;rw[iQ h3]at h;grind[Kl]
  simp_all[Qs]
theorem qKe {M:VM} {c:Int} (O:dP M):Xm M (ye M c).2:=by
 unfold ye
 repeat' split
 ·simp[yX]
 ·exact(yX M _).trans (wL (yO O))
 ·exact(yX M _).trans (wL (yO O))
 simp[yX]
theorem qVT {M:VM} {c:Int} (h:(ye M c).1.2=11):Xs M (ye M c).2:=by
 unfold ye at h ⊢
 split
 ·rename_i h1;rw[iJ h1]at h
  split
  ·grind
  ·rename_i h2;rw[iQ h2]at h
   split
   ·grind
   ·rename_i h3;rw[iQ h3]at h;grind[Kl]
 simp_all[Qs]
theorem M4 {M:VM} {x:Int} (O:dP M):Xm M (xI M x).2:=by
 unfold xI
 repeat' split
 ·exact .refl M
 ·exact(yX M _).trans (qKe (yO O))
 ·exact(yX M _).trans (qK6 (yO O))
 simp[yX]
theorem qK1 {M:VM} {x:Int} (h:(xI M x).1.2=11):Xs M (xI M x).2:=by
 unfold xI at h ⊢
 split
 ·grind
 ·rename_i h1;rw[iQ h1]at h
  split
  ·rename_i h2;rw[iJ h2]at h;have e:=Ui h2
   split
   all_goals simp_all[qVT,qVh]
  simp_all[Qs]
theorem qWi {M:VM} {x:Int} (W:o7 M) (h:(xI M x).1.2=0):0≤(xI M x).1.1∧(xI M x).1.1≤2147483648:=by
 unfold xI at h ⊢
 split
 ·simp
 ·rename_i h1;rw[iQ h1]at h
  split
  ·rename_i h2;rw[iJ h2]at h;have hr:=W.read (p:=yx x)
   split
   ·rename_i h3;rw[iJ h3]at h;unfold ye at h ⊢
    grind
   ·rename_i h3;rw[iQ h3]at h;unfold yh at h ⊢
    grind
  simp
structure Xh (r:List Int):Prop where
  len:r.length=8
  bd:∀z∈r,0≤z∧z<18446744073709551616
theorem Xh.at {r:List Int} (h:Xh r) (i:Int):0≤qC r i∧qC r i<18446744073709551616:=by
 unfold qC;cases hi:r[i.toNat]? with
 |none=>simp
 |some z=>exact h.bd z (List.mem_of_getElem? hi)
theorem Xh.set {r:List Int} {i v:Int} (h:Xh r) (hv:0≤v∧v<18446744073709551616):Xh (r.set i.toNat v) :=
 ⟨by rw[List.length_set];exact h.len,λz hz=>by
  rcases List.mem_or_eq_of_mem_set hz with hz |rfl
  ·exact h.bd z hz
  grind⟩
structure uC (l:List qa) (p:fZ):Prop where
  aC:Xh p.aC
  pc:∃k:Nat,p.pc=k∧k<l.length
  op:(p.op=14∨p.op=17∨p.op=18)∧(qf l p.pc).1=p.op
def dv:Nat→List fZ→Prop
 |_,[]=>True
 |n,p::r=>p.told≤n∧dv p.told r
theorem dv.mono:∀{o:List fZ} {n n':Nat},n≤n'→dv n o→dv n' o:=by
 intro o;cases o with
 |nil=>intro _ _ _ _;trivial
 |cons p r=>intro n n' h h2;exact⟨Nat.le_trans h2.1 h,h2.2⟩
structure GB (s:IM):Prop where
  aC:Xh s.aC
  out:s.out.length≤16
  its:∀x∈s.out,Fx x
structure GI (l:List qa) (s:IM) (V:VM):Prop where
  gb:GB s
  pc:∃k:Nat,s.pc=k∧k≤l.length
  mM:∀p∈s.bn,uC l p
  told:dv s.out.length s.bn
  FD:s.bn.map (·.pc)=(qO l s.pc.toNat).reverse
  lv:V.lv.length=s.bn.length+1
  aH:ji V
theorem IN (z:Int):0≤jR .u64 z∧jR .u64 z<18446744073709551616:=by
  cases z with
  | ofNat a => show (0 : Int) ≤ Int.ofNat (a % 18446744073709551616) ∧ Int.ofNat (a % 18446744073709551616) < 18446744073709551616
               grind
  | negSucc a => show (0 : Int) ≤ Int.ofNat (18446744073709551615 - a % 18446744073709551616) ∧ Int.ofNat (18446744073709551615 - a % 18446744073709551616) < 18446744073709551616
                 grind
theorem qWD (p:Prop) [Decidable p]:0≤kP p∧kP p<18446744073709551616:=by grind[kP]
theorem GB.dJ {s:IM} {i v:Int} (h:GB s) (hv:0≤v∧v<18446744073709551616):GB (dJ s i v):=⟨h.aC.set hv,h.out,h.its⟩
structure KB (l:List qa) (s:IM) (V:VM) (r:SM):Prop where
  gb:GB r.s
  aH:ji r.v
  fr:bO r.v.lv≤bO V.lv+1
  sz:r.v.sz=V.sz
  K:r.v.K=V.K
  most:r.v.most=V.most
  next:r.e=0→r.bp=false→GI l { r.s with pc:=r.nx } r.v
  aB:r.e=11→r.s=s∧Xs V r.v
  bl:r.bp=true→r.e=0
theorem qVS {l:List qa} {i:Nat} (h1:xo (qf l i).1=false) (h2:(qf l i).1≠18) (h3:zU (qf l i).1=0):qO l (i+1)=qO l i:=by simp_all[zY,jU,omQ]
theorem GI.plain {l:List qa} {s s':IM} {V V':VM} {i:Nat} (G:GI l s V) (hi:s.pc=i) (aw:i<l.length) (h1:xo (qf l i).1=false) (h2:(qf l i).1≠18) (h3:zU (qf l i).1=0)
  (gb:GB s') (ho:s'.bn=s.bn) (hl:s.out.length≤s'.out.length) (hv:V'.lv.length=V.lv.length) (hg:ji V'):GI l { s' with pc:=s.pc+1 } V':=by
 refine⟨⟨gb.aC,gb.out,gb.its⟩,⟨i+1,by grind,by omega⟩,by rw[ho];exact G.mM,by rw[ho];exact G.told.mono hl,?_,by rw[ho,hv];exact G.lv,hg⟩;rw[ho,hi,show((i:Int)+1).toNat=i+1 by rfl,qVS h1 h2 h3,G.FD,hi,Int.toNat_natCast]
theorem NI {l:List qa} {s:IM} {V:VM} {op:Int} {p:Nat} {st:List Int} (gb:GB s) (hp:p<l.length) (ho:(op=14∨op=17∨op=18)∧(qf l (p:Int)).1=op) (mM:∀p∈s.bn,uC l p) (told:dv s.out.length s.bn)
  (bZ:s.bn.map (·.pc)=st.reverse) (C6:qO l (p+1)=st++[(p:Int)]) (lv:V.lv.length=s.bn.length+1) (hd:s.bn.length<5) (G:ji V) :
  (xS op p ((p:Int)+1) s V).e=0∧(xS op p ((p:Int)+1) s V).bp=false∧(xS op p ((p:Int)+1) s V).nx=(p:Int)+1∧GI l { (xS op p ((p:Int)+1) s V).s with pc:=(p:Int)+1 } (xS op p ((p:Int)+1) s V).v∧
   (xS op p ((p:Int)+1) s V).v=(vp V).2:=by
 have h0:(vp V).1=0∧(vp V).2.lv=([],[])::V.lv:=by unfold vp Jk;grind
 unfold xS;rw[iJ h0.1];refine⟨rfl,rfl,rfl,⟨⟨gb.aC,gb.out,gb.its⟩,⟨p+1,rfl,by omega⟩,?_,⟨Nat.le_refl _,told⟩,?_,?_,G.sC.1⟩,rfl⟩
 ·intro q hq;rcases List.mem_cons.1 hq with rfl |hq
  ·exact⟨gb.aC,⟨p,rfl,hp⟩,ho⟩
  grind
 all_goals grind
theorem OH {V:VM} (h:2≤V.lv.length):(yg V).1=0∧(yg V).2.lv=V.lv.tail:=by unfold yg Jz;grind
theorem OY {V:VM} (h:2≤V.lv.length):(gU V).1=0∧(gU V).2.lv.length+1=V.lv.length:=by
 unfold gU
 match hl:V.lv,h with
 |[],h=>grind
 |[x],h=>grind
 |x::y::r,_=>trivial
theorem dv.tail {n:Nat} {p:fZ} {o:List fZ} (h:dv n (p::o)):dv n o:=h.2.mono h.1
theorem KB.plain {l:List qa} {s s':IM} {V V':VM} {i:Nat} {e:Int} (G:GI l s V) (hi:s.pc=i) (aw:i<l.length) (h1:xo (qf l i).1=false) (h2:(qf l i).1≠18) (h3:zU (qf l i).1=0)
  (gb:GB s') (ho:s'.bn=s.bn) (hl:s.out.length≤s'.out.length) (hk:Xm V V') (hg:ji V') (hf:bO V'.lv≤bO V.lv+1) (hn:e=11→s'=s∧Xs V V'):KB l s V ⟨e,s.pc+1,false,s',V'⟩ :=
 ⟨gb,hg,hf,hk.sz,hk.K,hk.most,λ_ _=>G.plain hi aw h1 h2 h3 gb ho hl hk.len hg,hn,λh=>(by grind)⟩
theorem qKl {l:List qa} (F:Fit l) {i:Nat} (aw:i<l.length) (ho:(qf l i).1=12∨(qf l i).1=13):∃c:Nat,(qf l i).2.2.2.1=c∧c≤l.length∧qO l c=qO l i:=by
 have hm:=(kR (F.ok i aw)).1;have hj:=F.jump i aw;generalize qf l i=x at*;have hc:0≤x.2.2.2.1∧x.2.2.2.1≤40:=by
  unfold Xg zD Qb at hm;grind
 obtain⟨c,fH⟩:∃c:Nat,x.2.2.2.1=c:=⟨x.2.2.2.1.toNat,by omega⟩;refine⟨c,fH,?_⟩;unfold J2 at hj;rw[fH]at hj;have hle:c≤l.length:=by
  grind
 refine⟨hle,?_⟩;by_cases he:c=l.length
 ·subst he;rw[F.nil];have:qC (gi l 0 []) (i:Int)= -1:=Classical.not_not.1 λh=>hj ⟨ho,.inr (.inl ⟨rfl,h⟩)⟩;rw[kb F aw]at this
  exact(Classical.not_not.1 λh=>by
   have:=(VZ i).1.eu (λh'=>h h'.symm)
   omega:[]=qO l i)
 ·have:qC (gi l 0 []) (c:Int)=qC (gi l 0 []) (i:Int):=Classical.not_not.1 λh=>hj ⟨ho,.inr (.inr ⟨by omega,h⟩)⟩;rw[kb F aw,kb F omQ]at this;grind[qkD]
theorem Mj {l:List qa} (F:Fit l):∀i,i≤l.length→(qO l i).length≤5:=by
 intro i
 induction i with
 |zero=>simp[qO]
 |succ i ih=>
  intro h;have hw:=kR (F.ok i omQ);rw[zY];unfold jU
  repeat' split
  ·grind
  ·rename_i hb he;rcases hb with hb |hb
   ·grind
   ·exact absurd (by rw[hb];decide) he
  all_goals grind
theorem YX {o:List fZ} {p:fZ} {st:List Int} (h:(p::o).map (·.pc)=st.reverse):st=st.dropLast++[p.pc]∧o.map (·.pc)=st.dropLast.reverse:=by
 have e:st=o.reverse.map (·.pc)++[p.pc]:=by have:=congrArg List.reverse h;rw[List.reverse_reverse]at this;rw[← this,List.map_cons,List.reverse_cons,List.map_reverse]
 grind
def sD (l:List qa) (st:List Int):Prop:=∀k p:Nat,st[k]? =some (p:Int)→qO l (p+1)=st.take (k+1)
theorem sD.dropLast {l:List qa} {st:List Int} (h:sD l st):sD l st.dropLast:=by
 intro k p hk;have h2:k+1≤st.length-1:=by grind
 rw[List.getElem?_dropLast]at hk
 split at hk
 ·rw[h k p hk,List.dropLast_eq_take,List.take_take,Nat.min_eq_left h2]
 grind
theorem GB.back {l:List qa} {s:IM} {p:fZ} (g:GB s) (h:uC l p):GB (Jf s p):=⟨h.aC,by
 show(s.out.take p.told).length≤16;have:=g.out
 grind,λx hx=>g.its x (List.mem_of_mem_take hx)⟩
theorem qw7 {l:List qa} {st:List Int} (hp:sD l st) {o:List fZ} {p:fZ} {q:Nat} (h:(p::o).map (·.pc)=st.reverse) (hq:p.pc=q):qO l (q+1)=st:=by
 have e:=(YX h).1;have hl:st.length=st.dropLast.length+1:=by grind
 have:=hp st.dropLast.length q (by grind);grind
theorem qK8 {l:List qa} (F:Fit l) {s0:IM} {V0:VM}:∀(o:List fZ) (s:IM) (V:VM) (st:List Int),sD l st→o.map (·.pc)=st.reverse→GB s→(∀p∈o,uC l p)→dv s.out.length o→V.lv.length=o.length+1→ji V→
  bO V.lv≤bO V0.lv→V.sz=V0.sz→V.K=V0.K→V.most=V0.most→KB l s0 V0 (gJ (qT l) o s V):=by
 intro o
 induction o with
 |nil=>intro s V st hp hm gb _ _ uD G hf h1 h2 h3;exact⟨⟨gb.aC,gb.out,gb.its⟩,G,by show bO V.lv≤_;omega,h1,h2,h3,λ_ h=>(by cases h),λh=>(by cases h),λ_=>rfl⟩
 |cons p o ih=>
  intro s V st hp hm gb mM told uD G hf h1 h2 h3;have hd:=OH (V:=V) (by grind);have FE:=G.cZ;have FF:(yg V).2.lv.length=o.length+1:=by grind
  have BY:=YX hm;unfold gJ;rw[iJ hd.1]
  split
  ·rename_i mT;have P:=mM p (iK ..);obtain⟨q,hq,RC⟩:=P.pc;have hqo:(qf l (q:Int)).1=17:=by rw[← hq,P.op.2,mT]
   obtain⟨e,e1,e2,e3,e4,e5⟩:=YC F RC (.inr (.inl hqo));have bZ:=qw7 hp hm hq;have Dl:(qf l (e:Int)).1=18:=by
    grind[zU]
   have FG:qO l (e+1)=st.dropLast++[(e:Int)]:=by rw[zY,e5,bZ];unfold jU;grind
   have h5:=Mj F e omQ;rw[e5,bZ]at h5;have hl5:st.length=st.dropLast.length+1:=by grind
   have fV:o.length=st.dropLast.length:=by have:=congrArg List.length BY.2;grind
   have AQ:GB { Jf s p with bn:=o }:=⟨(gb.back P).aC,(gb.back P).out,(gb.back P).its⟩;have FH:dv (s.out.take p.told).length o:=by rw[List.length_take,Nat.min_eq_left told.1];exact told.2
   have key:=NI (l:=l) (s:={ Jf s p with bn:=o }) (V:=(yg V).2) (op:=18) (p:=e) (st:=st.dropLast) AQ e3 ⟨.inr (.inr rfl),Dl⟩ (λr hr=>mM r (iX _ hr)) FH BY.2 FG FF (by grind) FE.1;rw[hq,e1];obtain⟨k1,k2,k3,k4,k5⟩:=key;have RD:=FE.1.sC;refine⟨k4.gb |> λg=>⟨g.aC,g.out,g.its⟩,k4.aH,?_,?_,?_,?_,λ_ _=>?_,λh=>(by grind),λh=>(by grind)⟩
   ·grind
   ·rw[k5];exact h1
   ·rw[k5];exact h2
   ·rw[k5];exact h3
   grind
  ·exact ih s (yg V).2 st.dropLast hp.dropLast BY.2 gb (λr hr=>mM r (iX _ hr)) told.tail FF FE.1 (by grind) h1 h2 h3
theorem qVo {l:List qa} {s:IM} {V:VM} {x:qa} (G:GI l s V) (hf:bO V.lv<10000) :
  GB (zy s V x).2.1∧(zy s V x).2.1.bn=s.bn∧(zy s V x).2.1.out=s.out∧(zy s V x).2.1.pc=s.pc∧Xm V (zy s V x).2.2∧ji (zy s V x).2.2∧bO (zy s V x).2.2.lv≤bO V.lv+1∧
   ((zy s V x).1=11→(zy s V x).2.1=s∧Xs V (zy s V x).2.2):=by
 have gb:=G.gb;have aH:=G.aH;have hr:=λi=>gb.aC.at i;have same:∀e:Int,e≠11→GB s∧s.bn=s.bn∧s.out=s.out∧s.pc=s.pc∧Xm V V∧ji V∧bO V.lv≤bO V.lv+1∧(e=11→s=s∧Xs V V) :=
  λe he=>⟨gb,rfl,rfl,rfl,.refl V,aH,by omega,λh=>absurd h he⟩
 unfold zy
 split
 ·split
  ·split
   ·refine⟨gb.dJ ?_,rfl,rfl,rfl,yX V _,aH.read,by simp[yP],λh=>by grind⟩;exact aH.wd.read
   ·exact⟨gb,rfl,rfl,rfl,yX V _,aH.read,by simp[yP],λh=>⟨rfl,Qs h⟩⟩
  ·exact same 2 omQ
 ·split
  ·split
   ·exact⟨gb,rfl,rfl,rfl,wL aH.ok,aH.take (iT.Fw (hr _)),by simp[kA],λh=>(Kl h).elim⟩
   ·exact same 2 omQ
  ·split
   ·split
    ·exact same 3 omQ
    ·split
     ·rename_i h0;have hb:=qWi (x:=qC s.aC x.2.2.1) aH.wd h0;exact⟨gb.dJ omQ,rfl,rfl,rfl,M4 aH.ok,(aH.alloc).1,by rw[(aH.alloc).2];omega,λh=>by grind⟩
     ·exact⟨gb,rfl,rfl,rfl,M4 aH.ok,(aH.alloc).1,by rw[(aH.alloc).2];omega,λh=>⟨rfl,qK1 h⟩⟩
   ·split
    ·exact same 2 omQ
    ·exact⟨gb,rfl,rfl,rfl,qqf aH.ok,(aH.free omQ).1,(aH.free omQ).2,λh=>⟨rfl,qY3 h⟩⟩
theorem VO {l:List qa} {s:IM} {V:VM} (G:GI l s V):s.bn.length=(qO l s.pc.toNat).length:=by have:=congrArg List.length G.FD;grind
theorem UK {l:List qa} (F:Fit l) {s:IM} {V:VM} (G:GI l s V) {i:Nat} (hi:s.pc=i) (aw:i<l.length) (hf:bO V.lv<10000) (hN:0≤(qf l i).2.2.2.2∧(qf l i).2.2.2.2<18446744073709551616) (_:(qf l i).1≠23) :
  KB l s V (bK (qT l) s V (qf l i)):=by
 have hw:=kR (F.ok i aw);have IP:=yN (F.ok i aw);have mT:1≤(qf l i).1∧(qf l i).1≤23:=by simp_all[Xg,Bool.and_eq_true,decide_eq_true_eq]
 have C0:xo (qf l i).1=decide ((qf l i).1=14∨(qf l i).1=17):=rfl;have oz:zU (qf l i).1=if(qf l i).1=15 then 14 else if(qf l i).1=18 then 17 else if(qf l i).1=19 then 18 else 0:=rfl
 have RE:=λh=>qKl F aw h;have fT:=G.FD;rw[hi,Int.toNat_natCast]at fT;have fV:=VO G;rw[hi,Int.toNat_natCast]at fV;have hr:=λi=>G.gb.aC.at i;have hmb:=λh=>YC F aw h;have hmu:=λh=>MS F aw h;have RF:qO l (i+1)=jU (qO l i) i (qf l i).1:=zY;have plain:(qf l i).1≠14→(qf l i).1≠17→(qf l i).1≠15→(qf l i).1≠18→(qf l i).1≠19→xo (qf l i).1=false∧(qf l i).1≠18∧zU (qf l i).1=0:=by grind
 have keep:∀{s':IM} {V':VM} {e:Int},(qf l i).1≠14→(qf l i).1≠17→(qf l i).1≠15→(qf l i).1≠18→(qf l i).1≠19→GB s'→s'.bn=s.bn→s.out.length≤s'.out.length→Xm V V'→ji V'→bO V'.lv≤bO V.lv+1→
   (e=11→s'=s∧Xs V V')→KB l s V ⟨e,s.pc+1,false,s',V'⟩:=λa b c d e gb ho hl hk hg hf hn=>
  KB.plain G hi aw (plain a b c d e).1 (plain a b c d e).2.1 (plain a b c d e).2.2 gb ho hl hk hg hf hn
 generalize hxe:qf l i=x at*;obtain⟨ij,iE,oA,hU⟩:=s;dsimp only at hi fT fV hr keep ⊢;unfold bK;have tI:∀v:Int,x.1≠14→x.1≠17→x.1≠15→x.1≠18→x.1≠19→0≤v∧v<18446744073709551616→KB l ⟨ij,iE,oA,hU⟩ V ⟨0,oA+1,false,dJ ⟨ij,iE,oA,hU⟩ x.2.1 v,V⟩ :=
  λv a b c d e hv=>keep a b c d e (G.gb.dJ hv) rfl (Nat.le_refl _) (.refl V) G.aH omQ λh=>by grind
 have jump:∀n:Int,(x.1=12∨x.1=13)→(n=x.2.2.2.1∨n=oA+1)→KB l ⟨ij,iE,oA,hU⟩ V ⟨0,n,false,⟨ij,iE,oA,hU⟩,V⟩:=by
  intro n ho hn;rcases hn with rfl |rfl
  ·obtain⟨c,c1,c2,c3⟩:=RE ho;refine⟨G.gb,G.aH,Nat.le_succ _,rfl,rfl,rfl,λ_ _=>⟨⟨G.gb.aC,G.gb.out,G.gb.its⟩,⟨c,c1,c2⟩,G.mM,G.told,?_,G.lv,G.aH⟩,λh=>(by grind),λh=>(by rfl)⟩;grind
  ·exact keep omQ omQ omQ omQ omQ G.gb rfl (Nat.le_refl _) (.refl V) G.aH omQ λh=>by grind
 by_cases c1:x.1=1
 ·grind
 rw[iQ c1];by_cases c2:x.1=2
 ·grind
 rw[iQ c2];by_cases c3:x.1=3
 ·rw[iJ c3];exact tI _ omQ omQ omQ omQ omQ (IN _)
 rw[iQ c3];by_cases c4:x.1=4
 ·rw[iJ c4];exact tI _ omQ omQ omQ omQ omQ (IN _)
 rw[iQ c4];by_cases c5:x.1=5
 ·rw[iJ c5];exact tI _ omQ omQ omQ omQ omQ (IN _)
 rw[iQ c5];by_cases c6:x.1=6
 ·rw[iJ c6];exact tI _ omQ omQ omQ omQ omQ (qWD _)
 rw[iQ c6];by_cases c7:x.1=7
 ·rw[iJ c7];exact tI _ omQ omQ omQ omQ omQ (qWD _)
 rw[iQ c7];by_cases pQ:x.1=12
 ·grind
 rw[iQ pQ];by_cases pR:x.1=13
 ·grind
 rw[iQ pR];by_cases tJ:x.1=21
 ·rw[iJ tJ];have hk:∀e:Int,e≠11→KB l ⟨ij,iE,oA,hU⟩ V ⟨e,oA+1,false,⟨ij,iE,oA,hU⟩,V⟩:=λe he=>
   keep omQ omQ omQ omQ omQ G.gb rfl (Nat.le_refl _) (.refl V) G.aH (Nat.le_succ _) λh=>absurd h he
  by_cases hlen:16≤iE.length
  ·grind
  ·rw[iQ hlen];refine keep omQ omQ omQ omQ omQ ⟨G.gb.aC,?_,?_⟩ rfl ?_ (.refl V) G.aH (Nat.le_succ _) λh=>by grind
   ·grind
   ·intro y hy;rcases List.mem_append.1 hy with hy |hy
    ·exact G.gb.its y hy
    ·rw[List.mem_singleton]at hy;subst hy;exact hr _
   simp
 rw[iQ tJ];by_cases AR:x.1=22
 ·rw[iJ AR];exact keep omQ omQ omQ omQ omQ G.gb rfl (Nat.le_refl _) (.refl V) G.aH (Nat.le_succ _) λh=>by grind
 rw[iQ AR];by_cases c8:x.1=8∨x.1=9∨x.1=10∨x.1=11
 ·rw[iJ c8];obtain⟨t1,t2,t3,t4,t5,t6,t7,t8⟩:=qVo (x:=x) G hf;grind
 rw[iQ c8];unfold Q5;by_cases h:x.1=14∨x.1=17
 ·rw[iJ h];subst hi;have hb:xo x.1=true:=by grind
  have he:¬0<zU x.1:=by grind
  have key:=NI (l:=l) (s:=⟨ij,iE,(i:Int),hU⟩) (V:=V) (op:=x.1) (p:=i) (st:=qO l i) G.gb aw ⟨by omega,by grind⟩ G.mM G.told fT (by rw[RF];unfold jU;grind) G.lv (by grind) G.aH;obtain⟨k1,k2,k3,k4,k5⟩:=key;have RD:=G.aH.sC;refine⟨k4.gb |> λg=>⟨g.aC,g.out,g.its⟩,k4.aH,?_,?_,?_,?_,λ_ _=>?_,λh=>(by grind),λh=>(by grind)⟩
  ·grind
  ·rw[k5];rfl
  ·rw[k5];rfl
  ·rw[k5];rfl
  grind
 rw[iQ h];clear h;by_cases h:x.1=15∨x.1=19
 ·rw[iJ h];have he:0<zU x.1:=by grind
  have cg:=IP.2.1 (.inl he)
  match hU,fV,fT,G with
  |[],fV,_,_=>grind
  |p::o,fV,fT,G=>
   have hk:=OY (V:=V) (by rw[G.lv];simp);have sE:=G.aH.AM omQ;have uD:=G.lv
   refine⟨⟨G.gb.aC,G.gb.out,G.gb.its⟩,sE.1,by grind,rfl,rfl,rfl,λ_ _=>⟨⟨G.gb.aC,G.gb.out,G.gb.its⟩,⟨i+1,by grind,by omega⟩,λq hq=>G.mM q (iX _ hq),G.told.tail,?_,?_,sE.1⟩,λh0=>(by
    grind),λh=>(by grind)⟩
   ·show o.map _=(qO l (oA+1).toNat).reverse;rw[hi,show((i:Int)+1).toNat=i+1 by rfl,RF];unfold jU;grind
   grind
 rw[iQ h];clear h;by_cases h:x.1=18
 ·rw[iJ h];have he:0<zU x.1:=by grind
  have cg:=IP.2.1 (.inl he);obtain⟨e,e1,e2,e3,e4,e5⟩:=hmb (.inr (.inr h));have Dl:(qf l (e:Int)).1=19:=by
   grind[zU]
  match hU,fV,fT,G with
  |[],fV,_,_=>grind
  |p::o,fV,fT,G=>
   have hk:=OY (V:=V) (by rw[G.lv];simp);have sE:=G.aH.AM omQ;have uD:=G.lv
   refine⟨⟨G.gb.aC,G.gb.out,G.gb.its⟩,sE.1,by grind,rfl,rfl,rfl,λ_ _=>⟨⟨G.gb.aC,G.gb.out,G.gb.its⟩,⟨e+1,by grind,by omega⟩,λq hq=>G.mM q (iX _ hq),G.told.tail,?_,?_,sE.1⟩,λh0=>(by
    grind),λh=>(by grind)⟩
   ·show o.map _=(qO l (qC (qT l) oA+1).toNat).reverse;rw[hi,e1,show((e:Int)+1).toNat=e+1 by rfl,zY,e5,RF];unfold jU;rw[iQ (by rw[Dl];decide),iJ (by grind),iJ (.inr h),iJ he,List.dropLast_concat];grind
   grind
 rw[iQ h];clear h;by_cases h:x.1=16
 ·rw[iJ h];obtain⟨e,e1,e2,e3,e4,cg⟩:=hmu h
  match hU,fV,fT,G with
  |[],fV,_,_=>grind
  |p::o,fV,fT,G=>
   have hk:=OH (V:=V) (by rw[G.lv];simp);have sE:=G.aH.cZ;have uD:=G.lv;have P:=G.mM p (iK ..);have told:=G.told;have AQ:=G.gb.back P
   refine⟨⟨AQ.aC,AQ.out,AQ.its⟩,sE.1,by grind,rfl,rfl,rfl,λ_ _=>⟨⟨AQ.aC,AQ.out,AQ.its⟩,⟨e+1,by grind,by omega⟩,λq hq=>G.mM q (iX _ hq),?_,?_,?_,sE.1⟩,λh0=>(by
    grind),λh=>(by grind)⟩
   ·show dv (iE.take p.told).length o;rw[List.length_take,Nat.min_eq_left told.1];exact told.2
   ·show o.map _=(qO l (qC (qT l) oA+1).toNat).reverse;rw[hi,e1,show((e:Int)+1).toNat=e+1 by rfl,zY,e4];unfold jU;rw[iQ (by rw[e3];decide),iJ (by rw[e3];decide)];grind
   grind
 ·rw[iQ h];exact qK8 F hU _ V (qO l i) (Ot i) fT G.gb G.mM G.told G.lv G.aH (Nat.le_refl _) rfl rfl rfl
end
section
variable {g h:AH} {L R:List SP}
theorem RG {b off n sz a:Nat} {k:IntKind} {K:AV→Go.Ae.R} {Q:AV→AH→Prop} (ha:a<n) (w:wp (K (.ptr b (off+a*sz))) Q):wp (Je (.ptr b off) (.int k (a:Int)) n sz K) Q:=by unfold Je;show wp (bif Nat.ble (a+1) n then _ else none) Q;rw[iY (show a+1≤n from ha)];exact w
theorem RH {z:Int} (h0:0≤z):∃a:Nat,z.tmod ((8:Nat):Int)=a∧a<8∧(z<8→z=a):=by refine⟨(z%8).toNat,?_,by omega,λh=>by omega⟩;grind
def jXN (r:List Int):List AV:=[.int .u64 (qC r 0),.int .u64 (qC r 1),.int .u64 (qC r 2),.int .u64 (qC r 3),.int .u64 (qC r 4),.int .u64 (qC r 5),.int .u64 (qC r 6),.int .u64 (qC r 7)]
def yU (p:fZ):List AV:=[.int .i64 p.op,.int .i64 p.pc,.int .u64 (qC p.aC 0),.int .u64 (qC p.aC 1),.int .u64 (qC p.aC 2),.int .u64 (qC p.aC 3),.int .u64 (qC p.aC 4),.int .u64 (qC p.aC 5),.int .u64 (qC p.aC 6),.int .u64 (qC p.aC 7),.int .i64 (p.told:Int)]
def we (c mv ov:AV) (v o:Nat) (bad err fin left nx pc:Int) (r:List Int):List AV :=
 [c,.ptr v 0,mv,.int .i64 bad,.int .i64 err,.int .i64 fin,.int .u64 (qC r 0),.int .u64 (qC r 1),.int .u64 (qC r 2),.int .u64 (qC r 3),.int .u64 (qC r 4),.int .u64 (qC r 5),.int .u64 (qC r 6),.int .u64 (qC r 7),
  .ptr o 0,.int .i64 pc,.int .i64 nx,.int .i64 left,ov]
section
variable {c mv ov:AV} {v o:Nat} {bad err fin left nx pc:Int} {r:List Int}
theorem G6 {a:Nat} (ha:a<8):(we c mv ov v o bad err fin left nx pc r)[6+a*1]? =some (.int .u64 (qC r (a:Int))):=by
 rcases(show a=0∨a=1∨a=2∨a=3∨a=4∨a=5∨a=6∨a=7 by omega)with rfl |rfl |rfl |rfl |rfl |rfl |rfl |rfl<;>rfl
theorem qqr {i k:Nat} {z:Int} (hi:i<r.length):qC (r.set i z) (k:Int)=if i=k then z else qC r (k:Int):=by
 unfold qC;grind
theorem jZ2 {a:Nat} {z:Int} (hr:r.length=8) (ha:a<8):(we c mv ov v o bad err fin left nx pc r).set (6+a*1) (.int .u64 z)=we c mv ov v o bad err fin left nx pc (r.set a z):=by have hs:=λk:Nat=>qqr (r:=r) (i:=a) (k:=k) (z:=z) omQ;have e0:=hs 0;have e1:=hs 1;have e2:=hs 2;have e3:=hs 3;have e4:=hs 4;have e5:=hs 5;have e6:=hs 6;have e7:=hs 7;simp only[show((0:Nat):Int)=0 from rfl,show((1:Nat):Int)=1 from rfl,show((2:Nat):Int)=2 from rfl,show((3:Nat):Int)=3 from rfl,show((4:Nat):Int)=4 from rfl,show((5:Nat):Int)=5 from rfl,show((6:Nat):Int)=6 from rfl,show((7:Nat):Int)=7 from rfl]at e0 e1 e2 e3 e4 e5 e6 e7;unfold we;rw[e0,e1,e2,e3,e4,e5,e6,e7];rcases(show a=0∨a=1∨a=2∨a=3∨a=4∨a=5∨a=6∨a=7 by omega)with rfl |rfl |rfl |rfl |rfl |rfl |rfl |rfl<;>rfl
end
def aN (x v:Nat) (l:List qa) (bad:Int) (mt:List Int) (s:IM) (err fin left nx:Int):SP:=.ex λc=>.ex λmv=>.ex λov=>.ex λo=>.all
 [qw x (we c mv ov v o bad err fin left nx s.pc s.aC),qB 32 5 l.length c (l.flatMap xW),qB 3 1 mt.length mv (mt.map (.int .i64)),bG o s.out,qB 294 11 s.bn.length ov (s.bn.reverse.flatMap yU)]
section
variable {x v:Nat} {l:List qa} {bad:Int} {mt:List Int} {s:IM} {err fin left nx:Int}
theorem aN.E (H:HS g h (aN x v l bad mt s err fin left nx::R)):∃c mv ov o,HS g h (qw x (we c mv ov v o bad err fin left nx s.pc s.aC)::qB 32 5 l.length c (l.flatMap xW)::qB 3 1 mt.length mv (mt.map (.int .i64))::bG o s.out::
  qB 294 11 s.bn.length ov (s.bn.reverse.flatMap yU)::R):=by
 obtain⟨c,H⟩:=H.eU;obtain⟨mv,H⟩:=H.eU;obtain⟨ov,H⟩:=H.eU;obtain⟨o,H⟩:=H.eU;exact⟨c,mv,ov,o,H.cG⟩
theorem aN.I {c mv ov:AV} {o:Nat} (H:HS g h (qw x (we c mv ov v o bad err fin left nx s.pc s.aC)::qB 32 5 l.length c (l.flatMap xW)::qB 3 1 mt.length mv (mt.map (.int .i64))::bG o s.out::
  qB 294 11 s.bn.length ov (s.bn.reverse.flatMap yU)::R)):HS g h (aN x v l bad mt s err fin left nx::R) :=
 HS.fB c (HS.fB mv (HS.fB ov (HS.fB o H.allI)))
theorem jZn {n o:Nat} (hn:1≤n) {l:List ma} (H:HS g h (bG o l::R)):aE n 286 [.ptr o 0] h λr h'=>r=.int .i64 (l.length:Int)∧h'=h:=by
 refine aF rfl omQ λk hk=>?_;unfold S286;try simp only
 obtain⟨sv,H⟩:=bG.E H;refine qK (qQ (qZ ‹_› .here rfl ?_));refine jQ ‹_› e_1<|qW ⟨rfl,rfl⟩
theorem jQs {n o:Nat} (hn:1≤n) {l:List ma} {x:ma} (H:HS g h (bG o l::R)) (hl:l.length≤16) :
  aE n 198 [.ptr o 0,Jd x] h λr h'=>r=.bool (decide (l.length<16))∧HS g h' (bG o (if l.length<16 then l++[x]else l)::R):=by
 refine bj rfl omQ λk hk=>?_;unfold S198;try simp only[iZ]
 obtain⟨sv,H⟩:=bG.E H;by_cases h1:l.length<16
 ·rw[iJ h1,iG h1];refine qK (qQ (qZ ‹_› .here rfl ?_));refine jQ ‹_› e_1<|zn omQ<|qJ (qK (qQ (qZ ‹_› .here rfl ?_)))
  refine qt H rfl rfl (by
   have e:=(GZ x).1
   simp only[vj,e,gC];rfl) (gY (GZ x)) λv2 h2 H2=>?_
  refine zw (H2.aM e_2) (H2.sl .here) omQ omQ (gY (GZ x)) λv3 h3 H3=>?_;have o3:=H3.one .here;refine qK (qQ (qy H3 e_2 o3 aS λh4 H4=>?_));refine qW ⟨rfl,bG.I (sv:=v3) ?_⟩;rw[List.length_append,List.map_append];exact H4.pk [0,0] 1
 ·rw[iQ h1,iV h1];refine qK (qQ (qZ ‹_› .here rfl ?_));refine jQ ‹_› e_1<|z7 omQ<|qX<|qW ⟨rfl,bG.I H⟩
theorem qyl {n o:Nat} (hn:2≤n) {l:List ma} {u:Int} (H:HS g h (bG o l::R)) (hl:l.length≤16) :
  aE n 178 [.ptr o 0,.int .u64 u] h λr h'=>r=.bool (decide (l.length<16))∧HS g h' (bG o (if l.length<16 then l++[(1,u)]else l)::R):=by
 refine bj rfl omQ λk hk=>?_;unfold S178;try simp only
 refine qG (jQs (x:=(1,u)) omQ H hl) ?_;rintro _ h2 ⟨rfl,H2⟩;exact qW ⟨rfl,H2⟩
theorem Zq {n m:Nat} (hn:1≤n) {e:TypeId} {v:AV} {xs:List AV} (H:HS g h L) (s:bi L (qB e 1 m v xs) R) (ha:jY xs=true) (hm:m≤1000000) :
  aE n 167 [v] h λr h'=>HS g h' (qB 20 1 m r xs::L):=by
 refine aF rfl omQ λk hk=>?_;unfold S167;try simp only
 refine XP H s (λh1 h2=>?_) ?_
 ·subst h1 h2;have hx:xs=[]:=iA (by simpa using H.dE s);subst hx;exact qX (qW H.ak)
 ·refine qJ (qt (l:=[]) H rfl rfl rfl rfl λv2 h2 H2=>?_);refine zw H2 (H2.sl (.there s)) omQ omQ ha λv3 h3 H3=>?_;rw[Nat.zero_add,List.nil_append]at H3;exact qW H3
theorem qxh {n o:Nat} (hn:2≤n) {l:List ma} (H:HS g h (bG o l::R)) (hl:l.length≤16) :
  aE n 135 [.ptr o 0] h λr h'=>∃p,r=.ptr p 0∧HS g h' (bG p l::bG o l::R):=by
 refine aF rfl omQ λk hk=>?_;unfold S135;try simp only
 obtain⟨sv,H⟩:=bG.E H;refine qK (qQ (qZ ‹_› .here rfl ?_));refine qG (Zq omQ H e_1 (NQ l) omQ) ?_;intro cv h2 H2;have oc:=H2.one .here;refine qR (by simp only[vj,oc.1];rfl)<|qP H2 (gY oc) λp h3 H3=>qW ⟨p,rfl,?_⟩;have H4:=bG.I (o:=p) (l:=l) (sv:=cv) (R:=qw o [sv]::qB 20 1 l.length sv (l.map Jd)::R) H3;exact HS.cF e_1 (bG.I (sv:=sv) (H4.pk [1,1,0] 0))
theorem jQl {n o m:Nat} (hn:2≤n) {l:List ma} (H:HS g h (bG o l::R)) (hl:l.length≤16) (hm:m≤l.length) :
  aE n 288 [.ptr o 0,.int .i64 (m:Int)] h λ_ h'=>HS g h' (bG o (l.take m)::R):=by
 refine bj rfl omQ λk hk=>?_;unfold S288;try simp only[iZ]
 obtain⟨sv,H⟩:=bG.E H;refine qK (qQ (qZ ‹_› .here rfl ?_));refine qK (qQ (qZ ‹_› .here rfl ?_));refine jQ ‹_› e_1<|zt (xg ?_);rw[show max ((0:Nat):Int) (min (m:Int) (l.length:Int))=(m:Int) by omega];refine Vg (H.aM e_1) omQ hm λv2 H2=>?_;rw[Nat.mul_one,← List.map_take]at H2;refine qG (Zq omQ H2 .here (NQ _) omQ) ?_;intro cv h3 H3;have oc:=H3.one .here;refine qK (qQ (qy H3 e_2 oc aS λh4 H4=>?_));refine qW (bG.I (sv:=cv) ?_);rw[show(l.take m).length=m by grind];exact H4.pk [0,0] 1
theorem Zw {n:Nat} (hn:1≤n) {p:Prop} [Decidable p]:aE n 177 [.bool (decide p)] h λr h'=>r=.int .u64 (kP p)∧h'=h:=by
 refine aF rfl omQ λk hk=>?_;unfold S177;try simp only[iZ]
 unfold kP;by_cases hp:p
 ·rw[iG hp,iJ hp];exact qX (qW ⟨rfl,rfl⟩)
 ·rw[iV hp,iQ hp];exact qJ (qW ⟨rfl,rfl⟩)
theorem qJn {n:Nat} (hn:1≤n) {e:Int} (H:HS g h (aN x v l bad mt s err fin left nx::R)) :
  aE n 148 [.ptr x 0,.int .i64 e] h λ_ h'=>HS g h' (aN x v l bad mt s e 4 left nx::R):=by
 refine bj rfl omQ λk hk=>?_;unfold S148;try simp only[iZ]
 obtain⟨c,mv,ov,o,H⟩:=aN.E H;unfold we at H;refine qK (qQ (qy H .here ⟨rfl,rfl⟩ aS λh1 H1=>?_));refine qK (qQ (qy H1 .here ⟨rfl,rfl⟩ aS λh2 H2=>?_));exact qW (aN.I H2)
theorem jQf {n:Nat} (hn:1≤n) (H:HS g h (aN x v l bad mt s err fin left nx::R)):aE n 123 [.ptr x 0] h λr h'=>r=.int .i64 err∧h'=h:=by
 refine aF rfl omQ λk hk=>?_;unfold S123;try simp only
 obtain⟨c,mv,ov,o,H⟩:=aN.E H;unfold we at H;refine qK (qQ (qZ ‹_› .here rfl ?_));exact qW ⟨rfl,rfl⟩
theorem qjT {n:Nat} (hn:3≤n) (H:HS g h (aN x v l bad mt s err fin left nx::R)) (hl:s.out.length≤16) :
  aE n 108 [.ptr x 0] h λr h'=>∃p,r=.ptr p 0∧HS g h' (bG p s.out::aN x v l bad mt s err fin left nx::R):=by
 refine aF rfl omQ λk hk=>?_;unfold S108;try simp only
 obtain⟨c,mv,ov,o,H⟩:=aN.E H;unfold we at H;refine qK (qQ (qZ ‹_› .here rfl ?_));refine qG (qxh omQ (H.aM e_3) hl) ?_;rintro _ h2 ⟨p,rfl,H2⟩;refine qW ⟨p,rfl,?_⟩;exact HS.cF e_1 (aN.I (mv:=mv) (ov:=ov) (H2.pk [2,2,2,1,1] 0))
theorem Oi {n:Nat} (hn:1≤n) {b off:Int} (hb:0≤b∧b<18446744073709551616) (ho:0≤off∧off≤100):aE n 213 [.int .u64 b,.int .i64 off] h λr h'=>r=.bV [.int .i64 (yt b off).1,.int .i64 (yt b off).2]∧h'=h:=by
 refine bj rfl omQ λk hk=>?_;unfold S213;try simp only[iZ]
 unfold yt;by_cases h1:2147483648≤b
 ·rw[iJ (.inl h1)];refine z7 omQ<|qY<|jC<|qE (qY ?_);refine jC<|qE (qX ?_)
  exact qW ⟨rfl,rfl⟩
 ·refine zn omQ<|qY<|qo<|yZ omQ<|qi omQ ?_
  by_cases h2:2147483648≤b+off
  ·rw[iJ (.inr (.inl h2))];refine z7 omQ<|qI (qY ?_);refine jC<|qE (qX ?_)
   exact qW ⟨rfl,rfl⟩
  ·refine zn omQ<|qI (qY ?_);refine qo<|yZ omQ<|qi omQ ?_
   by_cases h3:b+off<6
   ·rw[iJ (.inr (.inr h3))];refine jt omQ<|qI (qX ?_);exact qW ⟨rfl,rfl⟩
   ·rw[iQ omQ];refine jP omQ<|qI (qJ (yZ omQ ?_));refine qi omQ<|qW ⟨rfl,rfl⟩
theorem qz2 {most:Nat} {lv:List bH} {p z:Int} (h:¬(gd most lv p z).1=0):(gd most lv p z).2=lv:=by
 cases lv with
 |nil=>rfl
 |cons y r=>
  unfold gd at h ⊢;grind
theorem qjC {n:Nat} (hn:6≤n) {v:Nat} {M:VM} {p z:Int} (H:HS g h (ag v M::R)) (O:dP M) :
  aE n 214 [.ptr v 0,.int .i64 p,.int .u64 z] h λr h'=>r=.int .i64 (zl M [(p,z)]).1∧HS g h' (ag v (zl M [(p,z)]).2::R):=by
 refine cX rfl omQ λk hk=>?_;unfold S214;try simp only[iZ]
 refine qG (IH omQ H) ?_;rintro _ _ ⟨rfl,rfl⟩;by_cases hp:1≤p∧p<M.sz
 ·rw[iG hp];obtain⟨fv,ov,q,e,H⟩:=ag.E H;refine jd (qJ (qK (qQ (qZ ‹_› .here rfl ?_))));refine qG (qG4 omQ (H.aM e_3) O.iS) ?_;rintro _ h2 ⟨rfl,H2⟩;have e2:zl M [(p,z)]=((gd M.most M.lv p z).1,{ M with lv:=(gd M.most M.lv p z).2 }):=by
   unfold zl;rw[iJ (by grind),wC]
   split
   ·rename_i h0;rw[h0];rfl
   grind[qz2]
  rw[e2];exact qW ⟨rfl,ag.I (fv:=fv) (ov:=ov) (H2.pk [1,1,1] 0)⟩
 ·rw[iV hp];have e2:zl M [(p,z)]=(2,M):=by
   simp_all[zl,iQ]
  rw[e2];refine jo (qX ?_);exact qW ⟨rfl,H⟩
end
end
section
variable {g h:AH} {L R:List SP}
section
variable {x v:Nat} {l:List qa} {bad:Int} {mt:List Int} {s:IM} {err fin left nx:Int}
theorem qkN (o:List fZ):(o.reverse.flatMap yU).length=o.length*11:=by rw[KM (sz:=11) _ (λ_=>rfl),List.length_reverse]
theorem qwC (p:fZ):jY (yU p)=true:=rfl
theorem OI (p:fZ) (o:List fZ):(p::o).reverse.flatMap yU=o.reverse.flatMap yU++yU p:=by simp
theorem Yh {n:Nat} (hn:1≤n) {p:fZ} {o:List fZ} (ho:s.bn=p::o) (dB:o.length≤100) (H:HS g h (aN x v l bad mt s err fin left nx::R)) :
  aE n 218 [.ptr x 0] h λr h'=>r=.agg (yU p)∧HS g h' (aN x v l bad mt { s with bn:=o } err fin left nx::R):=by
 refine aF (S:=S218) rfl omQ λk hk=>?_;unfold S218;try simp only[iZ]
 obtain⟨c,mv,ov,q,H⟩:=aN.E H;rw[ho,OI,List.length_cons]at H;have fV:=qkN o;generalize hA:o.reverse.flatMap yU=A at*;unfold we at H;refine qP H rfl λb0 h1 H1=>?_;clear H;refine qK (qQ (qZ ‹_› e_1 rfl ?_));refine qK (qQ (qZ ‹_› e_1 rfl ?_));refine jQ ‹_› e_5<|zu omQ ?_;rw[show((o.length+1:Nat):Int)-((1:Nat):Int)=(o.length:Int) by omega]
 refine xV (l:=yU p) (H1.sl e_5) (i:=o.length) omQ omQ (by
  rw[List.drop_append_of_le_length omQ,List.drop_of_length_le omQ,List.nil_append];rfl) ?_
 refine qP H1 rfl λb2 h3 H3=>qm H3 .here rfl (by simp) rfl λh4 H4=>?_
 have H5:HS g h4 (qw b2 (yU p)::qw b0 [.int .i64 ((0:Nat):Int),.int .i64 ((0:Nat):Int),.int .u64 ((0:Nat):Int),.int .u64 ((0:Nat):Int),.int .u64 ((0:Nat):Int),.int .u64 ((0:Nat):Int),.int .u64 ((0:Nat):Int),.int .u64 ((0:Nat):Int),.int .u64 ((0:Nat):Int),.int .u64 ((0:Nat):Int),.int .i64 ((0:Nat):Int)]::
  qw x (we c mv ov v q bad err fin left nx s.pc s.aC)::qB 32 5 l.length c (l.flatMap xW)::qB 3 1 mt.length mv (mt.map (.int .i64))::bG q s.out::
  qB 294 11 (o.length+1) ov (A++yU p)::R):=H4
 clear H1 H3 H4;unfold we at H5;refine qK (qQ (qZ ‹_› e_2 rfl ?_));refine qK (qQ (qZ ‹_› e_2 rfl ?_));refine jQ ‹_› e_6<|zu omQ ?_;rw[show((o.length+1:Nat):Int)-((1:Nat):Int)=(o.length:Int) by omega];refine Vg (hi:=o.length) (H5.aM e_6) omQ omQ λv6 H6=>?_;rw[List.take_append_of_le_length omQ,List.take_of_length_le omQ]at H6;have o6:=H6.one .here;clear H5;refine qK (qQ (qy H6 (b:=x) e_3 o6 aS λh7 H7=>?_));refine qF H7 (b:=b2) (off:=0) e_2 rfl omQ (l:=yU p) rfl<|qm H7 (b:=b0) e_3 rfl (by simp) rfl λh8 H8=>?_
 have H8:HS g h8 (qw b0 (yU p)::qw x (we c mv v6 v q bad err fin left nx s.pc s.aC)::qB 294 11 o.length v6 A::qw b2 (yU p)::
  qB 32 5 l.length c (l.flatMap xW)::qB 3 1 mt.length mv (mt.map (.int .i64))::bG q s.out::R):=H8
 refine qF H8 (b:=b0) (off:=0) .here rfl omQ (l:=yU p) rfl<|qW ⟨rfl,aN.I (s:={ s with bn:=o }) (c:=c) (mv:=mv) (ov:=v6) (o:=q) ?_⟩
 show HS g h8 (qw x (we c mv v6 v q bad err fin left nx s.pc s.aC)::qB 32 5 l.length c (l.flatMap xW)::qB 3 1 mt.length mv (mt.map (.int .i64))::bG q s.out::
  qB 294 11 o.length v6 (o.reverse.flatMap yU)::R)
 rw[hA];exact H8.pk [1,3,3,3,1] 2
theorem qZO {n:Nat} (hn:3≤n) {p:fZ} (ht:p.told≤s.out.length) (hl:s.out.length≤16) (H:HS g h (aN x v l bad mt s err fin left nx::R)) :
  aE n 220 [.ptr x 0,.agg (yU p)] h λ_ h'=>HS g h' (aN x v l bad mt (Jf s p) err fin left nx::R):=by
 refine bj rfl omQ λk hk=>?_;unfold S220;try simp only
 refine qP H (qwC p) λb0 h1 H1=>?_;obtain⟨c,mv,ov,q,H2⟩:=aN.E (H1.aM e_1);clear H H1;refine qQ (qF H2 e_5 rfl omQ rfl ?_);refine qK (qQ ?_);refine qm H2 .here rfl (by show 6+8≤19;omega) rfl λh3 H3=>?_
 have H3:HS g h3 (qw x (we c mv ov v q bad err fin left nx s.pc p.aC)::qB 32 5 l.length c (l.flatMap xW)::qB 3 1 mt.length mv (mt.map (.int .i64))::bG q s.out::
  qB 294 11 s.bn.length ov (s.bn.reverse.flatMap yU)::qw b0 (yU p)::R):=H3
 clear H2;have H4:=H3;unfold we yU at H4;refine qK (qQ (qZ ‹_› .here rfl ?_));refine qQ (qZ ‹_› e_5 rfl ?_);refine qG (jQl omQ (H3.aM e_3) hl ht) ?_;intro _ h5 H5;clear H4 H3;exact qW (aN.I (mv:=mv) (ov:=ov) (H5.pk [1,1,1,0,0] 1))
theorem ZQ {n:Nat} (hn:5≤n) {op at_ nx0:Int} {V:VM} (O:dP V) (dB:s.bn.length≤100) (H:HS g h (aN x v l bad mt s err fin left nx::ag v V::R)) :
  aE n 217 [.ptr x 0,.int .i64 op,.int .i64 at_] h λr h'=>r=.int .i64 (xS op at_ nx0 s V).e∧HS g h' (aN x v l bad mt (xS op at_ nx0 s V).s err fin left nx::ag v (xS op at_ nx0 s V).v::R):=by
 refine cX (S:=S217) rfl omQ λk hk=>?_;unfold S217;try simp only[iZ]
 obtain⟨c,mv,ov,q,H⟩:=aN.E H;unfold we at H;refine qK (qQ (qZ ‹_› .here rfl ?_));refine qG (qk4 omQ (H.aM (P:=ag v V) e_5) O) ?_;rintro _ h2 ⟨rfl,H2⟩
 have H2:HS g h2 (ag v (vp V).2::qw x (we c mv ov v q bad err fin left nx s.pc s.aC)::qB 32 5 l.length c (l.flatMap xW)::qB 3 1 mt.length mv (mt.map (.int .i64))::bG q s.out::
  qB 294 11 s.bn.length ov (s.bn.reverse.flatMap yU)::R):=H2
 clear H;unfold xS;by_cases h0:(vp V).1=0
 ·rw[iJ h0];refine jI h0 (qJ ?_);have H3:=H2;unfold we at H3;refine qY ?_
  try dsimp only
  refine qK (qQ ?_);refine qZ H2 (b:=x) e_1 rfl<|qK (qQ ?_);refine qF H2 (b:=x) (off:=6) e_1 rfl omQ (l:=jXN s.aC) rfl<|qK (qQ ?_);refine qZ H2 (b:=x) e_1 rfl<|qG (jZn omQ (H2.aM (P:=bG q s.out) e_4)) ?_;rintro _ _ ⟨rfl,rfl⟩;refine qR (l:=yU ⟨op,at_,s.aC,s.out.length⟩) rfl<|qt (n:=1) (l:=yU ⟨op,at_,s.aC,s.out.length⟩) (sz:=11) H2 rfl rfl rfl rfl λv4 h4 H4=>?_;refine zw (H4.aM e_6) (H4.sl .here) omQ omQ rfl λv5 h5 H5=>?_;have o5:=H5.one .here;refine qK (qQ ?_);refine qy H5 (b:=x) e_3 o5 (by show 18<19;omega) λh6 H6=>?_;refine xy H2 (b:=x) e_1 rfl H2 e_1 rfl rfl omQ (HS.lt H2 e_1)<|qh H2 (b:=x) e_1 rfl H2 e_1 rfl (HS.lt H2 e_1)<|qW ⟨rfl,aN.I (s:={ s with bn:=⟨op,at_,s.aC,s.out.length⟩::s.bn }) (c:=c) (mv:=mv) (ov:=v5) (o:=q) ?_⟩
  show HS g h6 (qw x (we c mv v5 v q bad err fin left nx s.pc s.aC)::qB 32 5 l.length c (l.flatMap xW)::qB 3 1 mt.length mv (mt.map (.int .i64))::bG q s.out::
   qB 294 11 (s.bn.length+1) v5 ((⟨op,at_,s.aC,s.out.length⟩::s.bn).reverse.flatMap yU)::ag v (vp V).2::R)
  rw[OI];exact H6.pk [0,3,3,3,0] 1
 ·rw[iQ h0];refine jH h0 (qX ?_);exact qW ⟨rfl,aN.I (s:=s) (c:=c) (mv:=mv) (ov:=ov) (o:=q) (H2.pk [1,1,1,1,1] 0)⟩
end
end
section
variable {g h:AH} {L R:List SP}
section
variable {x v:Nat} {l:List qa} {bad:Int} {mt:List Int} {s:IM} {err fin left nx:Int}
def fm (mt:List Int) (p:Int):Prop:=∃k:Nat,p=k∧∃z:Int,mt[k]? =some z∧ -1≤z∧z≤1000
theorem fm.num {mt:List Int} {p z:Int} {k:Nat} (h1:p=k) (h2:mt[k]? =some z):qC mt p=z:=by grind[qC,Int.toNat_natCast]
theorem fm.idx {mt:List Int} {k:Nat} {z:Int} (h:mt[k]? =some z):(mt.map (AV.int .i64))[k]? =some (.int .i64 z)∧k<mt.length:=by grind
theorem qjl {n:Nat} (hn:8≤n) {V:VM} (G:ji V) (dB:s.bn.length≤100) (iw:s.out.length≤16) (told:dv s.out.length s.bn) (hm:∀p∈s.bn,p.op=17→fm mt p.pc) (_:0≤s.pc∧s.pc≤100)
  (H:HS g h (aN x v l bad mt s err 0 left (s.pc+1)::ag v V::R)) :
  aE n 222 [.ptr x 0] h λr h'=>r=.int .i64 (gJ mt s.bn s V).e∧
   HS g h' (aN x v l bad mt (gJ mt s.bn s V).s err (if(gJ mt s.bn s V).bp=true then 3 else 0) left (gJ mt s.bn s V).nx::ag v (gJ mt s.bn s V).v::R):=by
 refine aF (S:=S222) rfl omQ λk hk=>?_;unfold S222;try simp only[iZ]
 generalize hD:gJ mt s.bn s V=D;have hs:s={ s with bn:=s.bn }:=rfl;refine zQ (λm st h'=>∃(o:List fZ) (V':VM),st=(.ptr x 0,())∧m=o.length∧o.length≤100∧HS g h' (aN x v l bad mt { s with bn:=o } err 0 left (s.pc+1)::ag v V'::R)∧ji V'∧dv s.out.length o∧(∀p∈o,p.op=17→fm mt p.pc)∧gJ mt o s V'=D)
  ?_ (m:=s.bn.length) (by grind) ⟨s.bn,V,rfl,rfl,dB,H,G,told,hm,hD⟩
 clear H G told hm hD dB hs;rintro m ih st h2 bQ ⟨o,V,rfl,rfl,dB,H,G,told,hm,hD⟩;obtain⟨c,mv,ov,q,H1⟩:=aN.E H
 have H1:HS g h2 (qw x (we c mv ov v q bad err 0 left (s.pc+1) s.pc s.aC)::qB 32 5 l.length c (l.flatMap xW)::qB 3 1 mt.length mv (mt.map (.int .i64))::bG q s.out::
  qB 294 11 o.length ov (o.reverse.flatMap yU)::ag v V::R):=H1
 refine qK (qQ (qZ H1 (b:=x) .here rfl ?_));refine jQ H1 e_4 ?_;cases o with
 |nil=>refine vE aS (qJ ?_);refine qK (qQ (qZ H1 (b:=x) .here rfl ?_));refine qK (qQ ?_);refine qy H1 (b:=x) .here ⟨rfl,rfl⟩ (by show 16<19;omega) λh3 H3=>?_;refine qK (qQ ?_);refine qy H3 (b:=x) .here ⟨rfl,rfl⟩ (by show 5<19;omega) λh4 H4=>?_;subst hD;exact qx (qW ⟨rfl,aN.I (s:={ s with bn:=[] }) (c:=c) (mv:=mv) (ov:=ov) (o:=q) H4⟩)
 |cons p o=>
  refine vr (by simp) (qX ?_);refine qG (Yh (s:={ s with bn:=p::o }) (p:=p) (o:=o) omQ rfl (by grind) H) ?_;rintro _ h3 ⟨rfl,H3⟩;clear H H1;refine qP H3 rfl λb h4 H4=>qm H4 .here rfl (by simp) rfl λh5 H5=>?_;have H5:HS g h5 (qw b (yU p)::aN x v l bad mt { s with bn:=o } err 0 left (s.pc+1)::ag v V::R):=H5;clear H3 H4;obtain⟨c,mv,ov,q,H6⟩:=aN.E (H5.aM (P:=aN x v l bad mt { s with bn:=o } err 0 left (s.pc+1)) e_1)
  have H6:HS g h5 (qw x (we c mv ov v q bad err 0 left (s.pc+1) s.pc s.aC)::qB 32 5 l.length c (l.flatMap xW)::qB 3 1 mt.length mv (mt.map (.int .i64))::bG q s.out::
   qB 294 11 o.length ov (o.reverse.flatMap yU)::qw b (yU p)::ag v V::R):=H6
  refine qK (qQ (qZ H6 (b:=x) .here rfl ?_));clear H6;refine qG (qJL omQ (H5.aM (P:=ag v V) e_2) G.ok) ?_;rintro _ h6 ⟨rfl,H6⟩;have GD:=G.cZ;clear H5;unfold gJ at hD;by_cases h0:(yg V).1=0
  ·rw[iJ h0]at hD;refine jI h0 (qJ ?_);refine qQ (qZ H6 (b:=b) e_1 rfl ?_);by_cases nQ:p.op=17
   ·rw[iJ nQ]at hD;refine qk nQ (qX ?_);refine qF H6 (b:=b) (off:=0) e_1 rfl omQ (l:=yU p) rfl ?_;have H7:=H6.sub (L':=aN x v l bad mt { s with bn:=o } err 0 left (s.pc+1)::ag v (yg V).2::qw b (yU p)::R) (.cons e_2 (.cons .here (.cons .here .refl)));refine qG (qZO (s:={ s with bn:=o }) (p:=p) omQ told.1 iw H7) ?_;intro _ h8 H8;clear H6 H7;obtain⟨c,mv,ov,q,H9⟩:=aN.E H8
    have H9:HS g h8 (qw x (we c mv ov v q bad err 0 left (s.pc+1) s.pc p.aC)::qB 32 5 l.length c (l.flatMap xW)::qB 3 1 mt.length mv (mt.map (.int .i64))::bG q (s.out.take p.told)::
     qB 294 11 o.length ov (o.reverse.flatMap yU)::ag v (yg V).2::qw b (yU p)::R):=H9
    clear H8;obtain⟨kk,nh,z,pG,uy,hk4⟩:=hm p (iK ..) nQ;rw[fm.num nh pG]at hD;refine qK (qQ (qZ H9 (b:=x) .here rfl ?_));refine qQ (qZ H9 (b:=b) e_6 rfl ?_);rw[nh];refine zj (H9.sl e_2) (fm.idx pG).1<|qi omQ<|qK (qQ ?_);refine qy H9 (b:=x) .here ⟨rfl,rfl⟩ (by show 16<19;omega) λfk iR=>?_;have oY:HS g fk (aN x v l bad mt { Jf s p with bn:=o } err 0 left (z+1)::ag v (yg V).2::qw b (yU p)::R):=aN.I (s:={ Jf s p with bn:=o }) (c:=c) (mv:=mv) (ov:=ov) (o:=q) iR;clear H9 iR;refine qG (ZQ (s:={ Jf s p with bn:=o }) (nx0:=z+1) omQ GD.1.ok (by grind) oY) ?_;rintro _ nP ⟨rfl,cq⟩;subst hD;have hb:(xS 18 z (z+1) { Jf s p with bn:=o } (yg V).2).bp=false∧(xS 18 z (z+1) { Jf s p with bn:=o } (yg V).2).nx=z+1:=by unfold xS;grind
    refine qx (qW ⟨rfl,?_⟩);rw[hb.1,hb.2];exact cq.pk [0,0] 1
   ·rw[iQ nQ]at hD;refine qj nQ (qJ ?_);exact bQ o.length _ _ aS ⟨o,(yg V).2,rfl,rfl,by grind,H6.pk [2,0] 1,GD.1,told.tail,λr hr=>hm r (iX _ hr),hD⟩
  ·rw[iQ h0]at hD;refine jH h0 (qX ?_);subst hD;exact qx (qW ⟨rfl,H6.pk [2,0] 1⟩)
theorem qx0 {n:Nat} (hn:9≤n) {V:VM} {i:qa} (G:ji V) (dB:s.bn.length≤100) (iw:s.out.length≤16) (told:dv s.out.length s.bn) (hm:∀p∈s.bn,p.op=17→fm mt p.pc) (hpc:0≤s.pc∧s.pc≤100)
  (cg:i.1=15∨i.1=19∨i.1=18∨i.1=16→s.bn≠[]) (BY:i.1=18∨i.1=16→fm mt s.pc) (H:HS g h (aN x v l bad mt s err 0 left (s.pc+1)::ag v V::R)) :
  aE n 181 [.ptr x 0,.agg (xW i)] h λr h'=>r=.int .i64 (Q5 mt s V i.1).e∧
   HS g h' (aN x v l bad mt (Q5 mt s V i.1).s err (if(Q5 mt s V i.1).bp=true then 3 else 0) left (Q5 mt s V i.1).nx::ag v (Q5 mt s V i.1).v::R):=by
 refine bj (S:=S181) rfl omQ λk hk=>?_;unfold S181;try simp only[iZ]
 refine qP H rfl λb h1 H1=>?_;clear H;have H1:HS g h1 (qw b (xW i)::aN x v l bad mt s err 0 left (s.pc+1)::ag v V::R):=H1;refine qQ (qZ H1 (b:=b) .here rfl ?_);refine qY ?_
 try dsimp only
 unfold Q5;have HB:=H1.sub (L':=aN x v l bad mt s err 0 left (s.pc+1)::ag v V::qw b (xW i)::R) (.cons e_1 (.cons e_1 (.cons .here .refl)));by_cases c1:i.1=14∨i.1=17
 ·rw[iJ c1]
  have key:wp (jG (.ptr b 0) 0 λv8=>ja h1 v8 λv9=>yF (.ptr x 0) λv10=>jG v10 15 λv11=>ja h1 v11 λv12=>
    ze (callT tab qz k) (.fn 217 [] []) [.ptr x 0,v9,v12] h1 λsj BP=>xL [] BP λrj=>some (sj,rj)) λr h'=>r=.int .i64 (xS i.1 s.pc (s.pc+1) s V).e∧
   HS g h' (aN x v l bad mt (xS i.1 s.pc (s.pc+1) s V).s err (if(xS i.1 s.pc (s.pc+1) s V).bp=true then 3 else 0) left (xS i.1 s.pc (s.pc+1) s V).nx::ag v (xS i.1 s.pc (s.pc+1) s V).v::R):=by
   refine qQ (qZ H1 (b:=b) .here rfl ?_);obtain⟨c,mv,ov,q,H2⟩:=aN.E HB;refine qK (qQ (qZ H2 (b:=x) .here rfl ?_));refine qG (ZQ (nx0:=s.pc+1) omQ G.ok dB HB) ?_;rintro _ nP ⟨rfl,cq⟩;have hb:(xS i.1 s.pc (s.pc+1) s V).bp=false∧(xS i.1 s.pc (s.pc+1) s V).nx=s.pc+1:=by unfold xS;grind
   refine qx (qW ⟨rfl,?_⟩);rw[hb.1,hb.2];exact cq.pk [0,0] 1
  by_cases c2:i.1=14
  ·refine qk c2 (qX (qX ?_));exact key
  ·refine qj c2 (qJ ?_);refine qk omQ (qX ?_);exact key
 ·rw[iQ c1];refine qj omQ (qJ ?_);refine qj omQ (qJ ?_);refine qY ?_
  try dsimp only
  by_cases c3:i.1=15∨i.1=19
  ·rw[iJ c3]
   have key:wp (ze (callT tab qz k) (.fn 218 [] []) [.ptr x 0] h1 λ_ IG=>yF (.ptr x 0) λv22=>jG v22 1 λri=>ja IG ri λv24=>
     ze (callT tab qz k) (.fn 219 [] []) [v24] IG λrk BM=>xL [] BM λBU=>some (rk,BU)) λr h'=>r=.int .i64 (gU V).1∧
    HS g h' (aN x v l bad mt { s with bn:=s.bn.tail } err (if false=true then 3 else 0) left (s.pc+1)::ag v (gU V).2::R):=by
    obtain⟨p,o,ho⟩:∃p o,s.bn=p::o:=List.exists_cons_of_ne_nil (cg omQ);refine qG (Yh (p:=p) (o:=o) omQ ho (by grind) HB) ?_;rintro _ h3 ⟨-,H3⟩;obtain⟨c,mv,ov,q,H4⟩:=aN.E H3;refine qK (qQ (qZ H4 (b:=x) .here rfl ?_));refine qG (qX8 omQ (H3.aM (P:=ag v V) e_1) G.ok) ?_;rintro _ h5 ⟨rfl,H5⟩;refine qx (qW ⟨rfl,?_⟩);rw[ho];exact H5.pk [1,0] 1
   by_cases c4:i.1=15
   ·refine qk c4 (qX (qX ?_));exact key
   ·refine qj c4 (qJ ?_);refine qk omQ (qX ?_);exact key
  ·rw[iQ c3];refine qj omQ (qJ ?_);refine qj omQ (qJ ?_);by_cases c5:i.1=18
   ·rw[iJ c5];refine qk c5 (qX ?_);obtain⟨p,o,ho⟩:∃p o,s.bn=p::o:=List.exists_cons_of_ne_nil (cg omQ);refine qG (Yh (p:=p) (o:=o) omQ ho (by grind) HB) ?_;rintro _ h3 ⟨-,H3⟩;obtain⟨c,mv,ov,q,H4⟩:=aN.E H3
    have H4:HS g h3 (qw x (we c mv ov v q bad err 0 left (s.pc+1) s.pc s.aC)::qB 32 5 l.length c (l.flatMap xW)::qB 3 1 mt.length mv (mt.map (.int .i64))::bG q s.out::
     qB 294 11 o.length ov (o.reverse.flatMap yU)::ag v V::qw b (xW i)::R):=H4
    obtain⟨kk,nh,z,pG,uy,hk4⟩:=BY (.inl c5);rw[fm.num nh pG,ho];refine qK (qQ (qZ H4 (b:=x) .here rfl ?_));refine qK (qQ (qZ H4 (b:=x) .here rfl ?_));rw[nh];refine zj (H4.sl e_2) (fm.idx pG).1<|qi omQ<|qK (qQ ?_);rw[← nh];refine qy H4 (b:=x) .here ⟨rfl,rfl⟩ (by show 16<19;omega) λfk iR=>?_;refine qK (qQ (qZ iR (b:=x) .here rfl ?_));have oY:HS g fk (aN x v l bad mt { s with bn:=o } err 0 left (z+1)::ag v V::qw b (xW i)::R):=aN.I (s:={ s with bn:=o }) (c:=c) (mv:=mv) (ov:=ov) (o:=q) iR;refine qG (qX8 omQ (oY.aM (P:=ag v V) e_1) G.ok) ?_;rintro _ h5 ⟨rfl,H5⟩;exact qx (qW ⟨rfl,H5.pk [1,0] 1⟩)
   ·rw[iQ c5];refine qj c5 (qJ ?_);by_cases c6:i.1=16
    ·rw[iJ c6];refine qk c6 (qX ?_);obtain⟨p,o,ho⟩:∃p o,s.bn=p::o:=List.exists_cons_of_ne_nil (cg omQ);refine qG (Yh (p:=p) (o:=o) omQ ho (by grind) HB) ?_;rintro _ h3 ⟨rfl,H3⟩;rw[ho]at told;refine qG (qZO (s:={ s with bn:=o }) (p:=p) omQ told.1 iw H3) ?_;intro _ h4 H4';obtain⟨c,mv,ov,q,H4⟩:=aN.E H4'
     have H4:HS g h4 (qw x (we c mv ov v q bad err 0 left (s.pc+1) s.pc p.aC)::qB 32 5 l.length c (l.flatMap xW)::qB 3 1 mt.length mv (mt.map (.int .i64))::bG q (s.out.take p.told)::
      qB 294 11 o.length ov (o.reverse.flatMap yU)::ag v V::qw b (xW i)::R):=H4
     obtain⟨kk,nh,z,pG,uy,hk4⟩:=BY (.inr c6);rw[fm.num nh pG,ho];refine qK (qQ (qZ H4 (b:=x) .here rfl ?_));refine qK (qQ (qZ H4 (b:=x) .here rfl ?_));rw[nh];refine zj (H4.sl e_2) (fm.idx pG).1<|qi omQ<|qK (qQ ?_);refine qy H4 (b:=x) .here ⟨rfl,rfl⟩ (by show 16<19;omega) λfk iR=>?_;refine qK (qQ (qZ iR (b:=x) .here rfl ?_));have oY:HS g fk (aN x v l bad mt { Jf s p with bn:=o } err 0 left (z+1)::ag v V::qw b (xW i)::R):=aN.I (s:={ Jf s p with bn:=o }) (c:=c) (mv:=mv) (ov:=ov) (o:=q) iR;refine qG (qJL omQ (oY.aM (P:=ag v V) e_1) G.ok) ?_;rintro _ h5 ⟨rfl,H5⟩;exact qx (qW ⟨rfl,H5.pk [1,0] 1⟩)
    ·rw[iQ c6];refine qj c6 (qJ ?_);refine qG (qjl omQ G dB iw told hm hpc HB) ?_;rintro _ h3 ⟨rfl,H3⟩;exact qx (qW ⟨rfl,H3.pk [0,0] 1⟩)
end
end
section
variable {g h:AH} {L R:List SP}
section
variable {x v:Nat} {l:List qa} {bad:Int} {mt:List Int} {s:IM} {err fin left nx:Int}
theorem RI {c mv ov:AV} {q a:Nat} {z:Int} {ai:Int} (hr:s.aC.length=8) (ha:a<8) (RK:ai=a)
  (H:HS g h (qw x ((we c mv ov v q bad err fin left nx s.pc s.aC).set (6+a*1) (.int .u64 z))::qB 32 5 l.length c (l.flatMap xW)::qB 3 1 mt.length mv (mt.map (.int .i64))::bG q s.out::
  qB 294 11 s.bn.length ov (s.bn.reverse.flatMap yU)::R)):HS g h (aN x v l bad mt (dJ s ai z) err fin left nx::R):=by
 rw[jZ2 hr ha]at H;have e:s.aC.set a z=(dJ s ai z).aC:=by grind[dJ,Int.toNat_natCast]
 rw[e]at H;exact aN.I H
theorem qq4 {n:Nat} (hn:12≤n) {V:VM} {i:qa} {a:Nat} (G:ji V) (ro:Xh s.aC) (_:i.1=8∨i.1=9∨i.1=10∨i.1=11) (ha:a<8) (RK:i.2.1=a) (hc:0≤i.2.2.2.1∧i.2.2.2.1≤100)
  (H:HS g h (aN x v l bad mt s err fin left nx::ag v V::R)) :
  aE n 180 [.ptr x 0,.agg (xW i),.ptr x (6+a*1),.int .u64 (qC s.aC i.2.2.1)] h λr h'=>r=.int .i64 (zy s V i).1∧
   HS g h' (aN x v l bad mt (zy s V i).2.1 err fin left nx::ag v (zy s V i).2.2::R):=by
 refine sh rfl omQ λk hk=>?_;unfold S180;try simp only[iZ]
 refine qP H rfl λb h1 H1=>?_;clear H;have H1:HS g h1 (qw b (xW i)::aN x v l bad mt s err fin left nx::ag v V::R):=H1;have HB:=H1.sub (L':=aN x v l bad mt s err fin left nx::ag v V::qw b (xW i)::R) (.cons e_1 (.cons e_1 (.cons .here .refl)));obtain⟨c,mv,ov,q,H2⟩:=aN.E HB;refine qQ (qZ H1 .here rfl ?_);have hra:=ro.at (a:Int);have hrb:=ro.at i.2.2.1;unfold zy;rw[RK];by_cases c8:i.1=8
 ·rw[iJ c8];refine qk c8 (qX ?_);refine qQ (qZ H1 .here rfl ?_);refine qG (Oi omQ hrb hc) ?_;rintro _ _ ⟨rfl,rfl⟩;refine qD rfl (qD rfl ?_);by_cases h0:(yt (qC s.aC i.2.2.1) i.2.2.2.1).2=0
  ·rw[iJ h0];refine jI h0 (qJ ?_);refine qK (qQ (qZ H2 .here rfl ?_));refine qG (Xx omQ (HB.aM e_1) G.ok) ?_;rintro _ h3 ⟨rfl,H3⟩;refine qD rfl (qD rfl ?_);refine qY ?_
   try dsimp only
   by_cases h4:(qn V (yt (qC s.aC i.2.2.1) i.2.2.2.1).1).1.2=0
   ·rw[iJ h4];refine qk h4 (qX ?_);obtain⟨c,mv,ov,q,H5⟩:=aN.E (H3.aM e_1);refine qK (qy H5 .here ⟨rfl,rfl⟩ (by show 6+a*1<19;omega) λh6 H6=>?_);refine qx (qW ⟨by rw[h4],?_⟩);exact(RI ro.len ha rfl H6).pk [0,0] 1
   ·rw[iQ h4];refine qj h4 (qJ ?_);exact qx (qW ⟨rfl,H3.pk [1,0] 1⟩)
  ·rw[iQ h0];refine jH h0 (qX ?_);refine qW ⟨?_,HB.pk [0,0] 1⟩;unfold yt at h0 ⊢
   grind
 ·rw[iQ c8];refine qj c8 (qJ ?_);by_cases c9:i.1=9
  ·rw[iJ c9];refine qk c9 (qX ?_);refine qK (qZ H2 .here (G6 ha) ?_);refine qQ (qZ H1 .here rfl ?_);refine qG (Oi omQ hra hc) ?_;rintro _ _ ⟨rfl,rfl⟩;refine qD rfl (qD rfl ?_);by_cases h0:(yt (qC s.aC (a:Int)) i.2.2.2.1).2=0
   ·rw[iJ h0];refine jI h0 (qJ ?_);refine qK (qQ (qZ H2 .here rfl ?_));refine qG (qjC omQ (HB.aM e_1) G.ok) ?_;rintro _ h3 ⟨rfl,H3⟩;exact qW ⟨rfl,H3.pk [1,0] 1⟩
   ·rw[iQ h0];refine jH h0 (qX ?_);refine qW ⟨?_,HB.pk [0,0] 1⟩;unfold yt at h0 ⊢
    grind
  ·rw[iQ c9];refine qj c9 (qJ ?_);by_cases IQ:i.1=10
   ·rw[iJ IQ];refine qk IQ (qX ?_);by_cases h0:2147483648≤qC s.aC i.2.2.1
    ·rw[iJ h0];refine z7 omQ (qX ?_);exact qW ⟨rfl,HB.pk [0,0] 1⟩
    ·rw[iQ h0];refine zn omQ (qJ ?_);refine qK (qQ (qZ H2 .here rfl ?_));refine yZ omQ<|qG (qYP omQ (HB.aM e_1) G.ok G.wd) ?_;rintro _ h3 ⟨rfl,H3⟩;refine qD rfl (qD rfl ?_);refine qY ?_
     try dsimp only
     by_cases h4:(xI V (qC s.aC i.2.2.1)).1.2=0
     ·rw[iJ h4];have hb:=qWi (x:=qC s.aC i.2.2.1) G.wd h4;refine qk h4 (qX ?_);obtain⟨c,mv,ov,q,H5⟩:=aN.E (H3.aM e_1);refine kh omQ (qK ?_);refine qy H5 .here ⟨rfl,rfl⟩ (by show 6+a*1<19;omega) λh6 H6=>?_;refine qx (qW ⟨by rw[h4],?_⟩);exact(RI ro.len ha rfl H6).pk [0,0] 1
     ·rw[iQ h4];refine qj h4 (qJ ?_);exact qx (qW ⟨rfl,H3.pk [1,0] 1⟩)
   ·rw[iQ IQ];refine qj IQ (qJ ?_);refine qK (qZ H2 .here (G6 ha) ?_);by_cases h0:2147483648≤qC s.aC (a:Int)
    ·rw[iJ h0];refine z7 omQ (qX ?_);exact qW ⟨rfl,HB.pk [0,0] 1⟩
    ·rw[iQ h0];refine zn omQ (qJ ?_);refine qK (qQ (qZ H2 .here rfl ?_));refine qK (qZ H2 .here (G6 ha) ?_);refine yZ omQ<|qG (qz9 omQ (HB.aM e_1) G.ok) ?_;rintro _ h3 ⟨rfl,H3⟩;exact qW ⟨rfl,H3.pk [1,0] 1⟩
structure DoP (l:List qa) (mt:List Int) (s:IM) (V:VM) (i:qa):Prop where
  aH:ji V
  aC:Xh s.aC
  out:s.out.length≤16
  lo:s.bn.length≤100
  told:dv s.out.length s.bn
  ways:∀p∈s.bn,p.op=17→fm mt p.pc
  pc:0≤s.pc∧s.pc≤100
  op:1≤i.1∧i.1<23
  a:0≤i.2.1∧i.2.1≤7
  b:0≤i.2.2.1∧i.2.2.1≤7
  c:0≤i.2.2.2.1∧i.2.2.2.1≤100
  c7:3≤i.1∧i.1≤7→i.2.2.2.1≤7
  ne:i.1=15∨i.1=19∨i.1=18∨i.1=16→s.bn≠[]
  mt:i.1=18∨i.1=16→fm mt s.pc
theorem jVB {n:Nat} (hn:13≤n) {V:VM} {i:qa} (P:DoP l mt s V i) (H:HS g h (aN x v l bad mt s err 0 left (s.pc+1)::ag v V::R)) :
  aE n 149 [.ptr x 0,.agg (xW i)] h λr h'=>r=.int .i64 (bK mt s V i).e∧
   HS g h' (aN x v l bad mt (bK mt s V i).s err (if(bK mt s V i).bp=true then 3 else 0) left (bK mt s V i).nx::ag v (bK mt s V i).v::R):=by
 refine bj (S:=S149) rfl omQ λk hk=>?_;unfold S149;try simp only[iZ]
 refine qP H rfl λb h1 H1=>?_;clear H;have H1:HS g h1 (qw b (xW i)::aN x v l bad mt s err 0 left (s.pc+1)::ag v V::R):=H1;have HB:=H1.sub (L':=aN x v l bad mt s err 0 left (s.pc+1)::ag v V::qw b (xW i)::R) (.cons e_1 (.cons e_1 (.cons .here .refl)));obtain⟨c,mv,ov,q,H2⟩:=aN.E HB;obtain⟨a,ha1,FI,Dm⟩:=RH P.a.1;obtain⟨bb,iy,eP,mJ⟩:=RH P.b.1;obtain⟨cc,RL,rN,oB⟩:=RH P.c.1;have Dm:=Dm (by have:=P.a.2;omega);have mJ:=mJ (by have:=P.b.2;omega);have ro:=P.aC;have mT:=P.op;have FJ:=P.c7;refine qQ (qZ H1 (b:=b) .here rfl (ka od ?_));rw[ha1];refine qK (qQ (RG FI ?_));refine qQ (qZ H1 (b:=b) .here rfl (ka od ?_));rw[iy];refine qK (qQ (RG eP ?_));refine qZ H2 (b:=x) .here (G6 eP)<|qQ (qZ H1 (b:=b) .here rfl (ka od ?_));rw[RL];refine qK (qQ (RG rN ?_));refine qZ H2 (b:=x) .here (G6 rN)<|qQ (qZ H1 (b:=b) .here rfl ?_);refine qY ?_
 try dsimp only
 have fin:∀(z:Int) (D:SM) (h0:AH),D=⟨0,s.pc+1,false,dJ s i.2.1 z,V⟩→HS g h0 (aN x v l bad mt s err 0 left (s.pc+1)::ag v V::qw b (xW i)::R)→
   wp (yF (.ptr x (6+a*1)) λum=>zx h0 um (.int .u64 z) 1 λh33=>xL [] h33 λh28=>some (.int .i64 ((0:Nat):Int),h28)) λr h'=>r=.int .i64 D.e∧
    HS g h' (aN x v l bad mt D.s err (if D.bp=true then 3 else 0) left D.nx::ag v D.v::R):=by
  rintro z D h0 rfl H0;obtain⟨c,mv,ov,q,H5⟩:=aN.E H0;refine qK (qy H5 (b:=x) .here ⟨rfl,rfl⟩ (by show 6+a*1<19;omega) λh6 H6=>?_);refine qx (qW ⟨rfl,?_⟩);exact(RI ro.len FI Dm H6).pk [0,0] 1
 by_cases c1:i.1=1
 ·refine qk c1 (qX ?_);refine qQ (qZ H1 (b:=b) .here rfl ?_);exact fin _ _ _ (by simp_all[bK]) HB
 refine qj c1 (qJ ?_);by_cases c2:i.1=2
 ·refine qk c2 (qX ?_);exact fin _ _ _ (by simp_all[bK]) HB
 refine qj c2 (qJ ?_);by_cases c3:i.1=3
 ·refine qk c3 (qX (NP ?_));have oB:=oB (by omega);exact fin _ _ _ (by simp_all[bK]) HB
 refine qj c3 (qJ ?_);by_cases c4:i.1=4
 ·refine qk c4 (qX (PC ?_));have oB:=oB (by omega);exact fin _ _ _ (by simp_all[bK]) HB
 refine qj c4 (qJ ?_);by_cases c5:i.1=5
 ·refine qk c5 (qX (WQ ?_));have oB:=oB (by omega);exact fin _ _ _ (by simp_all[bK]) HB
 refine qj c5 (qJ ?_);by_cases c6:i.1=6
 ·refine qk c6 (qX (XI ?_));have oB:=oB (by omega);refine qG (Zw omQ) ?_;rintro _ _ ⟨rfl,rfl⟩;exact fin _ _ _ (by simp_all[bK]) HB
 refine qj c6 (qJ ?_);by_cases c7:i.1=7
 ·refine qk c7 (qX (YO ?_));have oB:=oB (by omega);refine qG (Zw omQ) ?_;rintro _ _ ⟨rfl,rfl⟩;exact fin _ _ _ (by simp_all[bK]) HB
 refine qj c7 (qJ ?_);by_cases pQ:i.1=12
 ·refine qk pQ (qX ?_);have e:bK mt s V i=⟨0,i.2.2.2.1,false,s,V⟩:=by simp_all[bK]
  rw[e];refine qQ (qZ H1 (b:=b) .here rfl ?_);refine qK (qQ ?_);refine qy H2 (b:=x) .here ⟨rfl,rfl⟩ (by show 16<19;omega) λh6 H6=>?_;exact qx (qW ⟨rfl,(aN.I (c:=c) (mv:=mv) (ov:=ov) (o:=q) H6).pk [0,0] 1⟩)
 refine qj pQ (qJ ?_);by_cases pR:i.1=13
 ·refine qk pR (qX ?_);have e:bK mt s V i=⟨0,if qC s.aC i.2.1=0 then i.2.2.2.1 else s.pc+1,false,s,V⟩:=by simp_all[bK]
  rw[e,Dm];refine qK (qZ H2 (b:=x) .here (G6 FI) ?_);by_cases hz:qC s.aC (a:Int)=0
  ·rw[iJ hz];refine qk hz (qX ?_);refine qQ (qZ H1 (b:=b) .here rfl ?_);refine qK (qQ ?_);refine qy H2 (b:=x) .here ⟨rfl,rfl⟩ (by show 16<19;omega) λh6 H6=>?_;exact qx (qW ⟨rfl,(aN.I (c:=c) (mv:=mv) (ov:=ov) (o:=q) H6).pk [0,0] 1⟩)
  ·rw[iQ hz];refine qj hz (qJ ?_);exact qx (qW ⟨rfl,HB.pk [0,0] 1⟩)
 refine qj pR (qJ ?_);by_cases tJ:i.1=21
 ·refine qk tJ (qX ?_);refine qK (qQ (qZ H2 (b:=x) .here rfl ?_));refine qK (qZ H2 (b:=x) .here (G6 FI) ?_);refine qG (qyl omQ (H2.aM (P:=bG q s.out) e_3) P.out) ?_;rintro _ h3 ⟨rfl,H3⟩;by_cases uv:16≤s.out.length
  ·have e:bK mt s V i=⟨5,s.pc+1,false,s,V⟩:=by simp_all[bK,iQ]
   rw[e];rw[iQ omQ]at H3;rw[iV omQ];refine jo (qX ?_);exact qW ⟨rfl,(aN.I (c:=c) (mv:=mv) (ov:=ov) (o:=q) (R:=ag v V::qw b (xW i)::R) (H3.pk [1,1,1,0,0] 0)).pk [0,0] 1⟩
  ·have e:bK mt s V i=⟨0,s.pc+1,false,{ s with out:=s.out++[(1,qC s.aC i.2.1)] },V⟩:=by simp_all[bK,iQ]
   rw[e,Dm];rw[iJ omQ]at H3;rw[iG omQ];refine jd (qJ ?_);exact qx (qW ⟨rfl,(aN.I (s:={ s with out:=s.out++[(1,qC s.aC (a:Int))] }) (c:=c) (mv:=mv) (ov:=ov) (o:=q) (R:=ag v V::qw b (xW i)::R) (H3.pk [1,1,1,0,0] 0)).pk [0,0] 1⟩)
 refine qj tJ (qJ ?_);by_cases AR:i.1=22
 ·refine qk AR (qX ?_);have e:bK mt s V i=⟨13,s.pc+1,false,s,V⟩:=by simp_all[bK]
  rw[e];exact qW ⟨rfl,HB.pk [0,0] 1⟩
 refine qj AR (qJ ?_);refine qj omQ (qJ ?_);refine qY ?_
 try dsimp only
 by_cases ct:i.1=8∨i.1=9∨i.1=10∨i.1=11
 ·have e:bK mt s V i=⟨(zy s V i).1,s.pc+1,false,(zy s V i).2.1,(zy s V i).2.2⟩:=by simp_all[bK]
  rw[e];have key:wp (xH h1 (.ptr b 0) 5 λv94=>ze (callT tab qz k) (.fn 180 [] []) [.ptr x 0,v94,.ptr x (6+a*1),.int .u64 (qC s.aC (bb:Int))] h1 λv95 h96=>xL [] h96 λh97=>some (v95,h97)) λr h'=>
    r=.int .i64 (zy s V i).1∧HS g h' (aN x v l bad mt (zy s V i).2.1 err (if false=true then 3 else 0) left (s.pc+1)::ag v (zy s V i).2.2::R):=by
   refine qF H1 (b:=b) (off:=0) .here rfl omQ (l:=xW i) rfl ?_;rw[← mJ];refine qG (qq4 omQ P.aH ro ct FI Dm P.c HB) ?_;rintro _ h3 ⟨rfl,H3⟩;exact qx (qW ⟨rfl,H3.pk [0,0] 1⟩)
  by_cases t8:i.1=8
  ·refine qk t8 (qX (qX ?_));exact key
  refine qj t8 (qJ ?_);by_cases t9:i.1=9
  ·refine qk t9 (qX (qX ?_));exact key
  refine qj t9 (qJ ?_);by_cases t10:i.1=10
  ·refine qk t10 (qX (qX ?_));exact key
  refine qj t10 (qJ ?_);refine qk omQ (qX ?_);exact key
 ·have e:bK mt s V i=Q5 mt s V i.1:=by simp_all[bK]
  rw[e];refine qj omQ (qJ ?_);refine qj omQ (qJ ?_);refine qj omQ (qJ ?_);refine qj omQ (qJ ?_);refine qF H1 (b:=b) (off:=0) .here rfl omQ (l:=xW i) rfl<|qG (qx0 omQ P.aH P.lo P.out P.told P.ways P.pc P.ne P.mt HB) ?_;rintro _ h3 ⟨rfl,H3⟩;exact qx (qW ⟨rfl,H3.pk [0,0] 1⟩)
end
end
section
variable {g h:AH} {L R:List SP}
theorem Qv {a:List Int} {k:Nat} (h:k<a.length):a[k]? =some (qC a (k:Int)):=by simp_all[qC,Int.toNat_natCast]
theorem FK {x:qa} (h:Xg x=true) (hx:x.1≠23):(1≤x.1∧x.1<23)∧(0≤x.2.1∧x.2.1≤7)∧(0≤x.2.2.1∧x.2.2.1≤7)∧(0≤x.2.2.2.1∧x.2.2.2.1≤40)∧(3≤x.1∧x.1≤7→x.2.2.2.1≤7):=by
 unfold Xg Qb at h;simp only[Bool.and_eq_true,decide_eq_true_eq]at h;obtain⟨⟨⟨⟨h1,h2⟩,h3⟩,h4⟩,_⟩:=h;unfold zD at h2 h3 h4;by_cases c1:x.1=1∨x.1=11∨x.1=21
 ·grind
 rw[iQ c1]at h2 h3 h4;by_cases c2:x.1=2∨x.1=10
 ·grind
 rw[iQ c2]at h2 h3 h4;by_cases c3:x.1=3∨x.1=4∨x.1=5∨x.1=6∨x.1=7
 ·grind
 rw[iQ c3]at h2 h3 h4;by_cases c4:x.1=8∨x.1=9
 all_goals grind
theorem qJR {l:List qa} (F:Fit l) {k:Nat} (hk:k<l.length) (ho:(qf l k).1=14∨(qf l k).1=17∨(qf l k).1=18∨(qf l k).1=16):fm (qT l) (k:Int):=by
 have hl:=F.le;refine⟨k,rfl,_,Qv (by grind[qq9]),?_⟩;by_cases h:(qf l k).1=16
 ·grind[MS]
 ·obtain⟨e,e1,_,e2,_⟩:=YC F hk omQ;grind
theorem jKt {l:List qa} {s:IM} {V:VM} (F:Fit l) (G:GI l s V) {i:Nat} (hi:s.pc=i) (aw:i<l.length) (hx:(qf l i).1≠23):DoP l (qT l) s V (qf l i):=by
 have hw:=kR (F.ok i aw);have IP:=yN (F.ok i aw);have hb:=FK hw.1 hx;have fV:=VO G;have h5:=Mj F i omQ;have hl:=F.le;rw[hi,Int.toNat_natCast]at fV;refine⟨G.aH,G.gb.aC,G.gb.out,by omega,G.told,?_,by omega,hb.1,hb.2.1,hb.2.2.1,by omega,hb.2.2.2.2,?_,?_⟩
 ·intro p hp mT;obtain⟨q,hq,RC⟩:=(G.mM p hp).pc;have:=(G.mM p hp).op.2;simp_all[qJR,omQ]
 ·intro ho h0;rw[h0]at fV;have he:0<zU (qf l i).1∨(qf l i).1=16:=by
   rcases ho with h |h |h |h
   ·exact .inl (by rw[h];decide)
   ·exact .inl (by rw[h];decide)
   ·exact .inl (by rw[h];decide)
   grind
  grind
 simp_all[qJR,omQ]
def Quiet (l:List qa):Prop:=∀x∈l,x.1≠23∧0≤x.2.2.2.2∧x.2.2.2.2<18446744073709551616
theorem Quiet.at {l:List qa} (Q:Quiet l) {i:Nat} (h:i<l.length):(qf l i).1≠23∧0≤(qf l i).2.2.2.2∧(qf l i).2.2.2.2<18446744073709551616:=by rw[wS h];exact Q _ (List.getElem_mem h)
structure RN (V:VM) (r:RM):Prop where
  gb:GB r.s
  aH:ji r.v
  sz:r.v.sz=V.sz
  K:r.v.K=V.K
  most:r.v.most=V.most
theorem qkF {l:List qa} (F:Fit l) (Q:Quiet l):∀(n:Nat) {s:IM} {V:VM},GI l s V→bO V.lv+n<9000→RN V (jr l (qT l) n s V)∧bO (jr l (qT l) n s V).v.lv≤bO V.lv+n∧
  ((jr l (qT l) n s V).kind=2→(jr l (qT l) n s V).v.lv.length=1)∧
  ((jr l (qT l) n s V).kind=1→GI l (jr l (qT l) n s V).s (jr l (qT l) n s V).v∧1≤(jr l (qT l) n s V).v.aB∧(jr l (qT l) n s V).v.aB<V.sz∧jO (jr l (qT l) n s V).v.aB V.K=none)∧
  ((jr l (qT l) n s V).kind=1∨(jr l (qT l) n s V).kind=2∨(jr l (qT l) n s V).kind=3∨(jr l (qT l) n s V).kind=4):=by
 intro n
 induction n with
 |zero=>
  intro s V G hf;rw[Js]
  split
  ·rename_i h0;refine⟨⟨G.gb,G.aH,rfl,rfl,rfl⟩,by simp,λ_=>?_,λh=>(by grind),by simp⟩;have:=VO G;rw[h0,Int.toNat_natCast,F.nil]at this;have hl:=G.lv;grind
  ·exact⟨⟨G.gb,G.aH,rfl,rfl,rfl⟩,by simp,λh=>(by grind),λh=>(by grind),by simp⟩
 |succ n ih=>
  intro s V G hf;rw[JI]
  split
  ·rename_i h0;refine⟨⟨G.gb,G.aH,rfl,rfl,rfl⟩,by simp,λ_=>?_,λh=>(by cases h),by simp⟩;have:=VO G;rw[h0,Int.toNat_natCast,F.nil]at this;have hl:=G.lv;simp_all
  ·rename_i h0;obtain⟨i,hi,oT⟩:=G.pc;have aw:i<l.length:=by omega
   rw[hi];have S:=UK F G hi aw omQ (Q.at aw).2 (Q.at aw).1;generalize bK (qT l) s V (qf l i)=D at*
   split
   ·rename_i h1
    split
    ·exact⟨⟨⟨S.gb.aC,S.gb.out,S.gb.its⟩,S.aH,S.sz,S.K,S.most⟩,by have:=S.fr;simp;omega,λh=>(by cases h),λh=>(by cases h),by simp⟩
    ·rename_i h2;have G2:=S.next h1 (by simp_all);have Dj:=S.fr;obtain⟨a,b,c,d,e⟩:=ih G2 omQ;refine⟨⟨a.gb,a.aH,a.sz.trans S.sz,a.K.trans S.K,a.most.trans S.most⟩,by omega,c,λh=>?_,e⟩;have:=d h;rw[S.sz,S.K]at this;omega
   ·split
    ·rename_i dy;obtain⟨n1,n2,n3,n4,n5⟩:=S.aB dy;refine⟨⟨S.gb,S.aH,S.sz,S.K,S.most⟩,by simp_all,λh=>(by cases h),λ_=>⟨?_,n3,n4,n5⟩,by simp⟩;show GI l D.s D.v;rw[n1];exact⟨G.gb,G.pc,G.mM,G.told,G.FD,by rw[n2];exact G.lv,S.aH⟩
    ·exact⟨⟨S.gb,S.aH,S.sz,S.K,S.most⟩,by have:=S.fr;simp;omega,λh=>(by cases h),λh=>(by cases h),by simp⟩
section
variable {x v:Nat} {l:List qa} {bad:Int} {mt:List Int} {s:IM} {err fin left nx:Int}
theorem jZi {n:Nat} (hn:14≤n) (F:Fit l) (Q:Quiet l) {left:Nat} {V:VM} (G:GI l s V) (hf:bO V.lv+left<9000) (hl:left≤1000) (H:HS g h (aN x v l 0 (qT l) s 0 0 left nx::ag v V::R)) :
  aE n 122 [.ptr x 0] h λr h'=>r=.int .i64 (jr l (qT l) left s V).kind∧
   ∃BZ,HS g h' (aN x v l 0 (qT l) (jr l (qT l) left s V).s (jr l (qT l) left s V).err (if(jr l (qT l) left s V).kind=1 then 0 else(jr l (qT l) left s V).kind) ((jr l (qT l) left s V).left:Int) BZ::ag v (jr l (qT l) left s V).v::R):=by
 refine aF rfl omQ λk hk=>?_;unfold S122;try simp only[iZ]
 generalize mu:jr l (qT l) left s V=RM
 refine zQ (λm st h'=>st=(.ptr x 0,())∧((∃(s':IM) (V':VM) (nC:Nat) (BZ:Int),m=nC+1∧nC≤1000∧GI l s' V'∧bO V'.lv+nC<9000∧jr l (qT l) nC s' V'=RM∧HS g h' (aN x v l 0 (qT l) s' 0 0 nC BZ::ag v V'::R))∨
   (m=0∧RM.kind≠0∧RM.kind≠1∧∃BZ,HS g h' (aN x v l 0 (qT l) RM.s RM.err RM.kind RM.left BZ::ag v RM.v::R))))
  ?_ (by grind) ⟨rfl,.inl ⟨s,V,left,nx,rfl,hl,G,hf,mu,H⟩⟩
 clear H G hf mu hl;rintro m ih st h2 bQ ⟨rfl,⟨s,V,left,nx,rfl,hl,G,hf,mu,H⟩ |⟨rfl,mc,nh,nx,H⟩⟩
 rotate_left
 ·obtain⟨c,mv,ov,q,H1⟩:=aN.E H;refine qK (qQ (qZ H1 .here rfl ?_));refine qj mc (qJ ?_);refine qK (qQ (qZ H1 .here rfl ?_));refine qx (qW ⟨rfl,nx,?_⟩);grind
 obtain⟨i,hi,oT⟩:=G.pc;have hlen:=F.le;obtain⟨c,mv,ov,q,H1⟩:=aN.E H;refine qK (qQ (qZ H1 .here rfl ?_));refine qk rfl (qX ?_);refine qY ?_
 try dsimp only
 refine qK (qQ (qZ H1 .here rfl ?_));refine jI rfl (qJ ?_);refine qK (qQ (qZ H1 .here rfl ?_));refine qK (qQ (qQ (qZ H1 .here rfl ?_)));refine jQ H1 e_1 ?_;by_cases h0:s.pc=l.length
 ·refine qk h0 (qX ?_);rw[Jg h0]at mu;subst mu;refine qK (qQ ?_);refine qy H1 .here ⟨rfl,rfl⟩ (by show 5<19;omega) λh3 H3=>?_;exact bQ 0 _ _ omQ ⟨rfl,.inr ⟨rfl,by simp,by simp,nx,aN.I (mv:=mv) (ov:=ov) H3⟩⟩
 refine qj h0 (qJ ?_);refine qK (qQ (qZ H1 .here rfl ?_));cases left with
 |zero=>refine qk rfl (qX ?_);rw[Js,iQ h0]at mu;subst mu;refine qG (qJn omQ H) ?_;intro _ h3 H3;exact bQ 0 _ _ omQ ⟨rfl,.inr ⟨rfl,by simp,by simp,nx,H3⟩⟩
 |succ left=>
  refine qj omQ (qJ ?_);rw[JI,iQ h0]at mu;have aw:i<l.length:=by omega
  have S:=UK F G hi aw omQ (Q.at aw).2 (Q.at aw).1;have P:=jKt F G hi aw (Q.at aw).1;refine qK (qQ (qZ H1 .here rfl ?_));rw[hi];refine qi omQ (qK (qQ ?_));refine qy H1 .here ⟨rfl,rfl⟩ (by show 16<19;omega) λh3 H3=>?_;refine qK (qQ (qQ (qZ H3 .here rfl ?_)));refine qK (qQ (qZ H3 .here rfl ?_));rw[hi];refine xV (H3.sl e_1) aw omQ (Gy aw) ?_;have H4:HS g h3 (aN x v l 0 (qT l) s 0 0 ((left+1:Nat):Int) (s.pc+1)::ag v V::R):=aN.I (mv:=mv) (ov:=ov) (by rw[hi]at H3 ⊢;exact H3);clear H H1 H3;rw[← wS aw];refine qG (jVB omQ P H4) ?_;rintro _ h5 ⟨rfl,H5⟩;rw[hi]at mu;generalize bK (qT l) s V (qf l i)=D at*;refine qY ?_
  try dsimp only
  obtain⟨c,mv,ov,q,H6⟩:=aN.E H5;by_cases h1:D.e=0
  ·refine qk h1 (qX ?_);rw[iJ h1]at mu;refine qK (qQ (qZ H6 .here rfl ?_));refine qK (qQ ?_);refine qy H6 .here ⟨rfl,rfl⟩ (by show 15<19;omega) λh7 H7=>?_;refine qK (qQ (qZ H7 .here rfl ?_));refine zu omQ (qK (qQ ?_));rw[show((left+1:Nat):Int)-((1:Nat):Int)=(left:Int) by omega];refine qy H7 .here ⟨rfl,rfl⟩ (by show 17<19;omega) λh8 H8=>?_;have H9:HS g h8 (aN x v l 0 (qT l) { D.s with pc:=D.nx } 0 (if D.bp=true then 3 else 0) left D.nx::ag v D.v::R):=aN.I (mv:=mv) (ov:=ov) H8;clear H6 H7 H8 H5;cases h2:D.bp with
   |true=>rw[h2,iJ rfl]at mu;rw[h2,iJ rfl]at H9;subst mu;exact bQ 0 _ _ omQ ⟨rfl,.inr ⟨rfl,by simp,by simp,D.nx,H9⟩⟩
   |false=>rw[h2,iQ aS]at mu;rw[h2,iQ aS]at H9;have:=S.fr;exact bQ (left+1) _ _ omQ ⟨rfl,.inl ⟨_,D.v,left,D.nx,rfl,by omega,S.next h1 h2,by omega,mu,H9⟩⟩
  ·refine qj h1 (qJ ?_);rw[iQ h1]at mu;have hb:D.bp=false:=by
    cases hb:D.bp with
    |false=>rfl
    |true=>exact absurd (S.bl hb) h1
   rw[hb,iQ aS]at H5;by_cases dy:D.e=11
   ·rw[iJ dy]at mu;subst mu;refine qk dy (qX ?_);refine qx (qW ⟨rfl,D.nx,?_⟩);grind
   ·rw[iQ dy]at mu;subst mu;refine qj dy (qJ ?_);refine qG (qJn omQ H5) ?_;intro _ h7 H7;exact bQ 0 _ _ omQ ⟨rfl,.inr ⟨rfl,by simp,by simp,D.nx,H7⟩⟩
end
end
section
variable {g h:AH} {L R:List SP}
def Vu (l:List qa):List Int:=if(zi l).2=0 then qT l else[]
theorem qKN {n:Nat} (hn:7≤n) {l:List qa} {sv:AV} (H:HS g h R) (S:Rd g R 5 l.length sv (l.flatMap xW)) (hl:l.length≤100) :
  aE n 120 [.agg [sv]] h λv h'=>HS g h' (qB 3 1 (Vu l).length v ((Vu l).map (.int .i64))::R):=by
 refine aF (S:=S120) rfl omQ λk hk=>?_;unfold S120;try simp only[iZ]
 refine qP H (gY (JO (S.sl H))) λb0 h1 H1=>?_;have IJ:=(S.sl H).ul;clear H;refine qF H1 (b:=b0) (off:=0) .here rfl omQ rfl<|qG (ZD omQ H1 S.more hl) ?_;rintro _ h2 ⟨rfl,H2⟩;clear H1;refine qD rfl<|qD rfl ?_;by_cases c0:(zi l).2=0
 rotate_left
 ·refine jH c0<|qX ?_;unfold Vu;rw[iQ c0];exact qW H2.drop.ak
 have hG:=Ml c0;have F:=Mb c0;have hnr:=λ{j:Nat} (h:j<l.length)=>kb F h;have hrg:=λ{j:Nat} (h:j<l.length)=>F.tI j h;unfold Vu;rw[iJ c0];have hM:qT l=lC l (gi l 0 []) l.length:=rfl;rw[hM];clear hM;refine jI c0<|qJ (qF H2 (b:=b0) (off:=0) .here rfl omQ rfl ?_);refine qG (Ut omQ H2 S.more hG hl) ?_;intro av h3 H3;clear H2;refine qQ (qZ ‹_› e_1 rfl ?_);refine vX ‹_›<|Xv (n:=l.length) H3 omQ λev h4 H4=>?_;refine jQ H4 .here ?_;clear H3;have hA:(gi l 0 []).length=l.length:=Vf;have eI:=λ{i:Nat}=>jVL (i:=i) hG;generalize gi l 0 []=A at*
 refine zQ (λm s h'=>∃(i:Nat),s=(.int .i64 (i:Int),.int .i64 (l.length:Int),ev,av,.ptr b0 0,())∧i≤l.length∧m=l.length-i∧
  HS g h' (qB 3 1 l.length ev ((List.replicate i (-1:Int)++List.replicate (l.length-i) 0).map (.int .i64))::qB 3 1 l.length av (A.map (.int .i64))::qw b0 [sv]::R))
  ?_ (m:=l.length) (by grind) ⟨0,rfl,by omega,by rfl,by simp_all⟩
 clear H4;rintro m ih s h5 bQ ⟨i,rfl,hi,rfl,H⟩;by_cases aw:i<l.length
 ·refine jt omQ<|qX (XL H aw ⟨rfl,rfl⟩ λh6 H6=>?_);refine qi omQ ?_;have h0:(AV.int .i64 (Int.negSucc 0))=.int .i64 (-1):=rfl;rw[h0,← List.map_set]at H6;have es:(List.replicate i (-1:Int)++List.replicate (l.length-i) 0).set i (-1)=List.replicate (i+1) (-1:Int)++List.replicate (l.length-(i+1)) 0:=by
   rw[show l.length-i=(l.length-(i+1))+1 by omega,List.replicate_succ,List.set_append_right _ _ aS,List.length_replicate,Nat.sub_self,List.set_cons_zero,List.replicate_succ' (n:=i),List.append_assoc];rfl
  rw[es]at H6;exact bQ (l.length-(i+1)) _ _ omQ ⟨i+1,rfl,by omega,rfl,H6⟩
 obtain rfl:i=l.length:=by omega
 clear bQ;rw[Nat.sub_self,List.replicate_zero,List.append_nil]at H;have hL1:∀i,(nB l A i).length=l.length:=λi=>Rz i;have hL2:∀i,(lC l A i).length=l.length:=λi=>Z1 i;refine jP omQ<|qJ (qQ (qZ ‹_› e_2 rfl ?_));refine vX ‹_›<|zQ (λm s h'=>∃(i:Nat),s=(.int .i64 (i:Int),.int .i64 (l.length:Int),sv,ev,av,.ptr b0 0,())∧i≤l.length∧m=l.length-i∧
  HS g h' (qB 3 1 l.length ev ((nB l A i).map (.int .i64))::qB 3 1 l.length av (A.map (.int .i64))::qw b0 [sv]::R))
  ?_ (m:=l.length) (by grind) ⟨0,rfl,by omega,by rfl,H⟩
 clear H;rintro m ih s h6 bQ ⟨i,rfl,hi,rfl,H⟩;by_cases aw:i<l.length
 ·have iC:=Gy aw;have B3:=eI aw;have hrgi:=hrg aw;have hnri:=hnr aw;have eD:nB l A (i+1)=if 0<zU (qf l (i:Int)).1 then(nB l A i).set (qC A (i:Int)).toNat i else nB l A i:=rfl
  rw[wS aw]at eD;generalize l[i]=x at*;refine jt omQ (qX ?_)
  refine zb [] (λs h'=>s=(.int .i64 (i:Int),.int .i64 (l.length:Int),sv,ev,av,.ptr b0 0,())∧
   HS g h' (qB 3 1 l.length ev ((nB l A (i+1)).map (.int .i64))::qB 3 1 l.length av (A.map (.int .i64))::qw b0 [sv]::R)) ?_ ?_
  rotate_left
  ·rintro s h7 ⟨rfl,H7⟩;refine qi omQ<|bQ (l.length-(i+1)) _ _ omQ ⟨i+1,rfl,by omega,rfl,H7⟩
  intro j hj;refine xV (S.sl H.drop.drop.drop) aw omQ iC<|qP H rfl λb h7 H7=>?_;refine qm H7 (b:=b) .here rfl (by simp) rfl λh8 H8=>?_;have H8:HS g h8 (qw b [.int .i64 x.1,.int .i64 x.2.1,.int .i64 x.2.2.1,.int .i64 x.2.2.2.1,.int .u64 x.2.2.2.2]::qB 3 1 l.length ev ((nB l A i).map (.int .i64))::qB 3 1 l.length av (A.map (.int .i64))::qw b0 [sv]::R):=H8;clear H H7;refine qQ (qZ ‹_› .here rfl ?_);refine qG (K3 omQ) ?_;rintro _ h8 ⟨rfl,rfl⟩;by_cases he:0<zU x.1
  ·obtain⟨p,hp,pu⟩:=B3 (.inl he);refine vr he (qX ?_);refine zj (H8.sl e_2) (x:=.int .i64 (p:Int)) (by grind)<|XL (H8.aM e_1) pu ⟨rfl,rfl⟩ λh9 H9=>?_;rw[← List.map_set]at H9;have RO:qC A (i:Int)=p:=by grind
   rw[iJ he,RO,Int.toNat_natCast]at eD;rw[← eD]at H9;exact hj _ _ ⟨rfl,H9.pk [0,1,1] 1⟩
  ·refine vE he (qJ ?_);rw[iQ he]at eD;exact hj _ _ ⟨rfl,by rw[eD];exact H8.drop⟩
 obtain rfl:i=l.length:=by omega
 clear bQ;refine jP omQ<|qJ (qQ (qZ ‹_› e_2 rfl ?_));refine vX ‹_›<|zQ (λm s h'=>∃(i:Nat),s=(.int .i64 (i:Int),.int .i64 (l.length:Int),sv,ev,av,())∧i≤l.length∧m=l.length-i∧
  HS g h' (qB 3 1 l.length ev ((lC l A i).map (.int .i64))::qB 3 1 l.length av (A.map (.int .i64))::qw b0 [sv]::R))
  ?_ (m:=l.length) (by grind) ⟨0,rfl,by omega,by rfl,H⟩
 clear H;rintro m ih s h6 bQ ⟨i,rfl,hi,rfl,H⟩;by_cases aw:i<l.length
 ·have iC:=Gy aw;have B3:=eI aw;have eD:lC l A (i+1)=if(qf l (i:Int)).1=16 then(lC l A i).set i (qC (lC l A i) (qC A (i:Int)))else lC l A i:=rfl
  rw[wS aw]at eD;generalize l[i]=x at*;refine jt omQ (qX ?_)
  refine zb [] (λs h'=>s=(.int .i64 (i:Int),.int .i64 (l.length:Int),sv,ev,av,())∧
   HS g h' (qB 3 1 l.length ev ((lC l A (i+1)).map (.int .i64))::qB 3 1 l.length av (A.map (.int .i64))::qw b0 [sv]::R)) ?_ ?_
  rotate_left
  ·rintro s h7 ⟨rfl,H7⟩;refine qi omQ<|bQ (l.length-(i+1)) _ _ omQ ⟨i+1,rfl,by omega,rfl,H7⟩
  intro j hj;refine xV (S.sl H.drop.drop.drop) aw omQ iC<|qP H rfl λb h7 H7=>?_;refine qm H7 (b:=b) .here rfl (by simp) rfl λh8 H8=>?_;have H8:HS g h8 (qw b [.int .i64 x.1,.int .i64 x.2.1,.int .i64 x.2.2.1,.int .i64 x.2.2.2.1,.int .u64 x.2.2.2.2]::qB 3 1 l.length ev ((lC l A i).map (.int .i64))::qB 3 1 l.length av (A.map (.int .i64))::qw b0 [sv]::R):=H8;clear H H7;refine qQ (qZ ‹_› .here rfl ?_);by_cases he:x.1=16
  ·obtain⟨p,hp,pu⟩:=B3 (.inr he);refine qk he (qX ?_);refine zj (H8.sl e_2) (x:=.int .i64 (p:Int)) (by grind)<|zj (H8.sl e_1) (x:=.int .i64 (qC (lC l A i) (p:Int))) (by rw[List.getElem?_map,Qv (by grind)];rfl)<|XL (H8.aM e_1) aw ⟨rfl,rfl⟩ λh9 H9=>?_;rw[← List.map_set]at H9;have RO:qC A (i:Int)=p:=by grind
   rw[iJ he,RO]at eD;rw[← eD]at H9;exact hj _ _ ⟨rfl,H9.pk [0,1,1] 1⟩
  ·refine qj he (qJ ?_);rw[iQ he]at eD;exact hj _ _ ⟨rfl,by rw[eD];exact H8.drop⟩
 obtain rfl:i=l.length:=by omega
 refine jP omQ<|qJ (qx (qW ?_));rw[hL2];exact H.pk [0] 2
def Q4:IM:=⟨[0,0,0,0,0,0,0,0],[],0,[]⟩
theorem VP {l:List qa} {V:VM} (h1:V.lv.length=1) (G:ji V):GI l Q4 V :=
 ⟨⟨⟨rfl,by trivial⟩,Nat.zero_le _,λx hx=>by cases hx⟩,⟨0,rfl,Nat.zero_le _⟩,(λp hp=>by cases hp),trivial,rfl,h1,G⟩
def kN (fuel:Int):Nat:=(max 0 (min fuel 400)).toNat
theorem jZS {n:Nat} (hn:8≤n) {l:List qa} {sv:AV} {v:Nat} {fuel:Int} (H:HS g h R) (S:Rd g R 5 l.length sv (l.flatMap xW)) (hl:l.length≤100) :
  aE n 97 [.agg [sv],.ptr v 0,.int .i64 fuel] h λr h'=>∃x,r=.ptr x 0∧HS g h' (aN x v l (zi l).2 (Vu l) Q4 0 0 (kN fuel:Nat) 0 ::R):=by
 refine cX (S:=S97) rfl omQ λk hk=>?_;unfold S97;try simp only[iZ]
 refine qP H (gY (JO (S.sl H))) λb0 h1 H1=>?_;refine qQ (qZ ‹_› .here rfl ?_);refine zw (H1.ak) (S.sl H1.drop) omQ omQ (qZF l) λcv h2 H2=>?_;rw[List.nil_append,Nat.zero_add]at H2;have oc:=H2.one .here;refine qQ (qy H2 (b:=b0) e_1 oc aS λh3 H3=>?_);have H3:HS g h3 (qw b0 [cv]::qB 32 5 l.length cv (l.flatMap xW)::R):=H3;refine qF H3 (b:=b0) (off:=0) .here rfl omQ rfl<|qG (ZD omQ H3 (Rd.own e_1) hl) ?_;rintro _ h4 ⟨rfl,H4⟩;refine qD rfl<|qD rfl<|qY ?_;(try dsimp only)
 refine qF H4 (b:=b0) (off:=0) .here rfl omQ rfl<|qF H4 (b:=b0) (off:=0) .here rfl omQ rfl<|qG (qKN omQ H4 (Rd.own e_1) hl) ?_;intro mv h5 H5;have om:=H5.one .here;refine qG (Q':=λr h'=>∃o,r=.ptr o 0∧HS g h' (qw o [.ak]::qB 3 1 (Vu l).length mv ((Vu l).map (.int .i64))::qw b0 [cv]::qB 32 5 l.length cv (l.flatMap xW)::R)) ?_ ?_
 ·refine BJ (S:=S121) rfl omQ λk hk=>?_;unfold S121;try simp only
  refine qR rfl<|qP H5 rfl λo h6 H6=>qW ⟨o,rfl,H6⟩
 rintro _ h6 ⟨o,rfl,H6⟩;refine zt (xg ?_);rw[show max ((0:Nat):Int) (min fuel ((400:Nat):Int))=((kN fuel:Nat):Int) by simp[kN]]
 refine qR (l:=we cv mv .ak v o (zi l).2 0 0 (kN fuel:Nat) 0 0 [0,0,0,0,0,0,0,0]) (by
  have e:(AV.agg (List.take 1 (List.drop 0 [cv]))).cells=[cv]:=rfl
  simp only[vj,e,om.1];rfl) ?_
 refine qP H6 (by unfold we;simp only[jY,List.all_cons,oc.2,om.2];rfl) λx h7 H7=>?_;refine xy H5 (b:=b0) e_1 rfl H6 e_2 rfl rfl omQ (HS.lt H4 .here)<|xy H4 (b:=b0) .here rfl H5 e_1 rfl rfl omQ (HS.lt H4 .here) ?_
 skip
 refine qW ⟨x,rfl,?_⟩;have H8:=(H7.ak (e:=20) (sz:=1)).ak (e:=294) (sz:=11)
 have H9:HS g h7 (bG o []::qB 294 11 0 .ak []::qw x (we cv mv .ak v o (zi l).2 0 0 (kN fuel:Nat) 0 0 [0,0,0,0,0,0,0,0])::qB 3 1 (Vu l).length mv ((Vu l).map (.int .i64))::qw b0 [cv]::
  qB 32 5 l.length cv (l.flatMap xW)::R):=bG.I (l:=[]) (sv:=.ak) (H8.pk [3,1,0,0] 0)
 exact aN.I (s:=Q4) (c:=cv) (mv:=mv) (ov:=.ak) (o:=o) (H9.pk [2,4,2,0,0] 1)
section
variable {x v:Nat} {l:List qa} {bad:Int} {mt:List Int} {s:IM} {err fin left nx:Int}
end
end
end Go.Proofs.YtolpbdncppeohaaGreatDoor
