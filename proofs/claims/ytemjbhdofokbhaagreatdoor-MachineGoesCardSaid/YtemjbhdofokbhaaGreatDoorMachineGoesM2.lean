/- Lemmas for 'quietus/quietuslaw28.MachineGoes': Blocks of words: by the program;Blocks of words: by the documents own text;Numbers brought into bounds;Are two lists of numbers the same?;Are two lists of ... No condition. -/
import Derived.Test.YtemjbhdofokbhaaGreatDoorMachineGoesM1
import Derived.Test.YtemjbhdofokbhaaGreatDoorMachineGoesAe7
import Derived.Test.YtemjbhdofokbhaaGreatDoorMachineGoesT
import Derived.KernelRfl
import Derived.Lib.ItoaLen
import Derived.Lib.Join
namespace Go.Proofs.YtemjbhdofokbhaaGreatDoor
open Go Go.Ae
set_option maxRecDepth 100000
variable {A mt st:List Int} {K:AV→Go.Ae.R} {M V:VM} {P:Int→Prop} {Q:AV→AH→Prop} {a i j k m most n o u v:Nat} {aw lv:List bM} {b c hi lo op p x z:Int} {cs:List Cl} {e t:TypeId} {k1 k2:IntKind} {l:List qR} {sv:AV}
section
variable {g h:AH} {L R:List SP}
def wy (x:Int):Int:=if x=1 then 2 else if x=2 then 4 else if x=3 then 8 else if x=4 then 16 else 0
def yg (x:Int):Int:=if x<1 then 0 else if x≤2 then 1 else if x≤4 then 2 else if x≤8 then 3 else if x≤16 then 4 else 0
theorem Zp (x:Int):0≤wy x∧wy x≤16:=by grind[wy]
theorem qXe (x:Int):0≤yg x∧yg x≤4:=by grind[yg]
structure pJ (M:VM):Prop where
  k:∀c∈M.K,0≤c.2∧c.2<18446744073709551616
  l:∀x∈M.lv,∀c∈x.1,0≤c.2∧c.2<18446744073709551616
theorem OF:∀{l:List Cl},(∀c∈l,P c.2)→zk p l=some x→P x:=by
 intro l
 induction l with
 |nil=>nofun
 |cons c l ih=>
  intro h e;unfold zk at e
  grind
theorem qzi:∀{lv:List bM},(∀y∈lv,∀c∈y.1,P c.2)→UQ p lv=some x→P x:=by
 intro lv
 induction lv with
 |nil=>nofun
 |cons y r ih=>
  intro h e;unfold UQ at e
  split at e
  ·rename_i v hv;cases e;exact OF (h y (iK ..)) hv
  ·exact ih (λz hz=>h z (iX _ hz)) e
theorem pJ.read (W:pJ M):0≤(qs M p).1.1∧(qs M p).1.1<18446744073709551616:=by
 unfold qs
 split
 ·split
  ·rename_i x hx;exact qzi (P:=λx=>0≤x∧x<18446744073709551616) W.l hx
  ·split
   ·rename_i x hx;exact OF (P:=λx=>0≤x∧x<18446744073709551616) W.k hx
   simp
 simp
theorem pJ.nS (W:pJ M):pJ (qs M p).2:=by
 unfold qs
 repeat' split
 all_goals exact⟨W.k,W.l⟩
def lp (cs:List Cl):Prop:=∀c∈cs,0≤c.2∧c.2<18446744073709551616
theorem lp.put {l:List Cl} {v:Int} (h:lp l) (hv:0≤v∧v<18446744073709551616):lp (gJ p v l):=by
 induction l with
 |nil=>intro c hc;grind[gJ]
 |cons a l ih=>
  unfold gJ
  split
  ·intro c hc;rcases List.mem_cons.1 hc with rfl |hc
   ·grind
   ·exact h c (iX _ hc)
  ·intro c hc;rcases List.mem_cons.1 hc with rfl |hc
   ·exact h _ (iK ..)
   ·exact ih (λc hc=>h c (iX _ hc)) c hc
theorem lp.oR:∀{cs l:List Cl},lp l→lp cs→lp (vN l cs):=by
 intro cs
 induction cs with
 |nil=>intro l h _;exact h
 |cons c cs ih=>intro l h hc;exact ih (h.put (hc c (iK ..))) λd hd=>hc d (iX _ hd)
theorem qvN (hw:∀x∈aw,lp x.1):∀{cs:List Cl} {lv:List bM},lp cs→(∀x∈lv,lp x.1)→∀x∈(wV most aw lv cs).2,lp x.1:=by
 intro cs
 induction cs with
 |nil=>intro lv _ h;exact h
 |cons c cs ih=>
  intro lv hc h;rw[wP]
  split
  ·refine ih (λd hd=>hc d (iX _ hd)) ?_;cases lv with
   |nil=>nofun
   |cons y r=>
    unfold wM;dsimp only
    split
    ·grind
    ·split
     ·grind
     ·intro x hx;rcases List.mem_cons.1 hx with rfl |hx
      ·exact(show lp y.1 from h y (iK ..)).put (hc c (iK ..))
      grind
  grind
theorem pJ.take (W:pJ M) (hc:lp cs):pJ (zf M cs).2:=by
 unfold zf
 split
 ·exact⟨W.k,qvN W.l hc W.l⟩
 grind
def yl (M:VM) (c b:Int):(Int×Int)×VM :=
 if 2147483648≤b then((0,2),M)else
 if(qs M b).1.2=0 then
  (if(zf (qs M b).2 [(c,(qs M b).1.1),(b-1,c+8)]).1=0 then((b,0),(zf (qs M b).2 [(c,(qs M b).1.1),(b-1,c+8)]).2)
   else((0,(zf (qs M b).2 [(c,(qs M b).1.1),(b-1,c+8)]).1),(zf (qs M b).2 [(c,(qs M b).1.1),(b-1,c+8)]).2))
 else((0,(qs M b).1.2),(qs M b).2)
def yf (M:VM) (c:Int):(Int×Int)×VM :=
 if(qs M 5).1.2=0 then
  (if(qs M 5).1.1<14∨2147483648≤(qs M 5).1.1∨(M.sz:Int)<(qs M 5).1.1+1+wy c then((0,4),(qs M 5).2)
   else if(zf (qs M 5).2 [(5,(qs M 5).1.1+1+wy c),((qs M 5).1.1,c+8)]).1=0 then(((qs M 5).1.1+1,0),(zf (qs M 5).2 [(5,(qs M 5).1.1+1+wy c),((qs M 5).1.1,c+8)]).2)
   else((0,(zf (qs M 5).2 [(5,(qs M 5).1.1+1+wy c),((qs M 5).1.1,c+8)]).1),(zf (qs M 5).2 [(5,(qs M 5).1.1+1+wy c),((qs M 5).1.1,c+8)]).2))
 else((0,(qs M 5).1.2),(qs M 5).2)
def xP (M:VM) (n:Int):(Int×Int)×VM :=
 if yg n=0 then((0,3),M)else
 if(qs M (yg n)).1.2=0 then
  (if(qs M (yg n)).1.1=0 then yf (qs M (yg n)).2 (yg n)else yl (qs M (yg n)).2 (yg n) (qs M (yg n)).1.1)
 else((0,(qs M (yg n)).1.2),(qs M (yg n)).2)
def Gi (w:Int):Int×Bool:=if 1≤w∧w≤4 then(w,false)else if 9≤w∧w≤12 then(w-8,true)else(0,false)
def zH (M:VM) (b:Int):(Int×Bool×Int)×VM :=
 if b≤14∨M.sz≤b then((0,false,2),M)else
 if(qs M (b-1)).1.2=0 then
  (if(Gi (qs M (b-1)).1.1).1=0 then((0,false,2),(qs M (b-1)).2)else(((Gi (qs M (b-1)).1.1).1,(Gi (qs M (b-1)).1.1).2,0),(qs M (b-1)).2))
 else((0,false,(qs M (b-1)).1.2),(qs M (b-1)).2)
def wZ (M:VM) (b:Int):Int×VM :=
 if(zH M b).1.2.2=0 then
  (if(zH M b).1.2.1=true then
   (if(zf (zH M b).2 [(b-1,(zH M b).1.1)]).1=0 then(0,fU (zf (zH M b).2 [(b-1,(zH M b).1.1)]).2 b)else zf (zH M b).2 [(b-1,(zH M b).1.1)])
  else(2,(zH M b).2))
 else((zH M b).1.2.2,(zH M b).2)
def yC (M:VM) (b:Int):Int×VM :=
 if(zH M b).1.2.2=0 then
  (if(zH M b).1.2.1=true then(2,(zH M b).2)else
   if(qs (zH M b).2 (zH M b).1.1).1.2=0 then zf (qs (zH M b).2 (zH M b).1.1).2 [(b,(qs (zH M b).2 (zH M b).1.1).1.1),((zH M b).1.1,b)]
   else((qs (zH M b).2 (zH M b).1.1).1.2,(qs (zH M b).2 (zH M b).1.1).2))
 else((zH M b).1.2.2,(zH M b).2)
theorem qvD:(qs M p).2.sz=M.sz:=by
 grind[qs]
theorem qy6 (w:Int):0≤(Gi w).1∧(Gi w).1≤4:=by
 grind[Gi]
theorem Ln (M:VM) (b:Int):0≤(zH M b).1.1∧(zH M b).1.1≤4∧((zH M b).1.2.2=0→14<b∧b<M.sz):=by
 unfold zH
 split
 ·simp
 ·split
  ·split
   all_goals simp_all[qy6,qs]
  grind
theorem GY (O:dT M):dT (zH M b).2:=by
 grind[zH,yT]
theorem jZP (O:pJ M):pJ (zH M b).2:=by
 unfold zH
 split
 ·grind
 ·split
  ·split<;>exact O.nS
  ·exact O.nS
theorem qgU (O:dT M) (hf:∀x∈M.lv,x.2.length+1<100000):dT (fU M b):=by
 refine⟨O.lo,O.hi,qvE O.lm,O.ins,O.un,?_⟩;show∀x∈YN M.lv b,x.2.length<100000;cases hl:M.lv with
 |nil=>nofun
 |cons y r=>
  rw[hl]at hf;intro x hx;rcases List.mem_cons.1 hx with rfl |hx
  all_goals grind
theorem UB (hn:1≤n):aH n 336 [.int .i64 x] h λv h'=>v=.int .i64 (wy x)∧h'=h:=by
 refine aG rfl omQ λk hk=>?_;unfold S336;try simp only[iZ]
 repeat' (first |refine qZ ?_ |refine qJ ?_ |(refine qb ?_;try dsimp only) |(refine jG ?_;try dsimp only) |(refine qS ?_;try dsimp only) |(refine qp ?_;try dsimp only) |(with_reducible refine ze ?_;try dsimp only) |with_reducible refine qB ?_ |with_reducible refine qH ?_ |(with_reducible refine qX ?_;try dsimp only) |with_reducible refine qx ?_ |with_reducible refine jR ?_ |with_reducible refine je ?_ |refine qa omQ ?_ |refine zL omQ ?_ |refine gK omQ ?_ |refine wC omQ ?_ |refine zi ?_ |refine xR ?_ |refine xp (λhc=>?_) (λhc=>?_) |refine km (λhc=>?_) (λhc=>?_) |refine QQ (λhc=>?_) (λhc=>?_) |refine vW (λhc=>?_) (λhc=>?_) |refine wE (λhc=>?_) (λhc=>?_) |refine gP (λhc=>?_) (λhc=>?_) |refine kV (λhc=>?_) (λhc=>?_))
 ·refine qY ⟨?_,rfl⟩;grind[wy]
 ·refine qY ⟨?_,rfl⟩;grind[wy]
 ·refine jK5 omQ<|qY ⟨?_,rfl⟩;rcases(show x=1∨x=2∨x=3∨x=4 by omega)with rfl |rfl |rfl |rfl<;>rfl
theorem qjP (hn:2≤n):aH n 298 [.int .i64 x] h λv h'=>v=.int .i64 (yg x)∧h'=h:=by
 refine aG rfl omQ λk hk=>?_;unfold S298;try simp only[iZ]
 repeat' (first |with_reducible refine qZ ?_ |with_reducible refine qJ ?_ |(with_reducible refine qb ?_;try dsimp only) |(with_reducible refine jG ?_;try dsimp only) |(with_reducible refine qS ?_;try dsimp only) |(with_reducible refine qp ?_;try dsimp only) |(with_reducible refine ze ?_;try dsimp only) |with_reducible refine qB ?_ |with_reducible refine qH ?_ |(with_reducible refine qX ?_;try dsimp only) |with_reducible refine qx ?_ |with_reducible refine jR ?_ |with_reducible refine je ?_ |with_reducible refine qa omQ ?_ |with_reducible refine zL omQ ?_ |with_reducible refine gK omQ ?_ |with_reducible refine wC omQ ?_ |with_reducible refine zi ?_ |with_reducible refine xR ?_ |with_reducible refine xp (λhc=>?_) (λhc=>?_) |with_reducible refine km (λhc=>?_) (λhc=>?_) |with_reducible refine QQ (λhc=>?_) (λhc=>?_) |with_reducible refine vW (λhc=>?_) (λhc=>?_) |with_reducible refine wE (λhc=>?_) (λhc=>?_) |with_reducible refine gP (λhc=>?_) (λhc=>?_) |with_reducible refine kV (λhc=>?_) (λhc=>?_))
 ·refine qY ⟨?_,rfl⟩;grind[yg]
 ·refine jS (λm s g=>∃i:Int,s=(.int .i64 i,.int .i64 x,())∧1≤i∧i≤5∧(m:Int)=5-i∧g=h∧(1<i→2<x)∧(2<i→4<x)∧(3<i→8<x)∧(4<i→16<x)) ?_ (m:=4) od ⟨1,rfl,by omega,by omega,by rfl,rfl,by omega,by omega,by omega,by omega⟩;rintro m ih s g bN ⟨i,rfl,h1,h2,h3,rfl,h4,h5,h6,h7⟩;dsimp only
  repeat' (first |with_reducible refine qZ ?_ |with_reducible refine qJ ?_ |(with_reducible refine qb ?_;try dsimp only) |(with_reducible refine jG ?_;try dsimp only) |(with_reducible refine qS ?_;try dsimp only) |(with_reducible refine qp ?_;try dsimp only) |(with_reducible refine ze ?_;try dsimp only) |with_reducible refine qB ?_ |with_reducible refine qH ?_ |(with_reducible refine qX ?_;try dsimp only) |with_reducible refine qx ?_ |with_reducible refine jR ?_ |with_reducible refine je ?_ |with_reducible refine qa omQ ?_ |with_reducible refine zL omQ ?_ |with_reducible refine gK omQ ?_ |with_reducible refine wC omQ ?_ |with_reducible refine zi ?_ |with_reducible refine xR ?_ |with_reducible refine xp (λhc=>?_) (λhc=>?_) |with_reducible refine km (λhc=>?_) (λhc=>?_) |with_reducible refine QQ (λhc=>?_) (λhc=>?_) |with_reducible refine vW (λhc=>?_) (λhc=>?_) |with_reducible refine wE (λhc=>?_) (λhc=>?_) |with_reducible refine gP (λhc=>?_) (λhc=>?_) |with_reducible refine kV (λhc=>?_) (λhc=>?_))
  ·refine qW (UB omQ) ?_;rintro v g' ⟨rfl,rfl⟩
   repeat' (first |with_reducible refine qZ ?_ |with_reducible refine qJ ?_ |(with_reducible refine qb ?_;try dsimp only) |(with_reducible refine jG ?_;try dsimp only) |(with_reducible refine qS ?_;try dsimp only) |(with_reducible refine qp ?_;try dsimp only) |(with_reducible refine ze ?_;try dsimp only) |with_reducible refine qB ?_ |with_reducible refine qH ?_ |(with_reducible refine qX ?_;try dsimp only) |with_reducible refine qx ?_ |with_reducible refine jR ?_ |with_reducible refine je ?_ |with_reducible refine qa omQ ?_ |with_reducible refine zL omQ ?_ |with_reducible refine gK omQ ?_ |with_reducible refine wC omQ ?_ |with_reducible refine zi ?_ |with_reducible refine xR ?_ |with_reducible refine xp (λhc=>?_) (λhc=>?_) |with_reducible refine km (λhc=>?_) (λhc=>?_) |with_reducible refine QQ (λhc=>?_) (λhc=>?_) |with_reducible refine vW (λhc=>?_) (λhc=>?_) |with_reducible refine wE (λhc=>?_) (λhc=>?_) |with_reducible refine gP (λhc=>?_) (λhc=>?_) |with_reducible refine kV (λhc=>?_) (λhc=>?_))
   ·refine qY ⟨?_,rfl⟩;grind[wy,yg]
   ·refine bN (m-1) _ _ omQ ⟨i+1,rfl,by omega,by omega,by omega,rfl,?_,?_,?_,?_⟩<;>(grind[wy])
  ·refine qY ⟨?_,rfl⟩;grind[yg]
theorem Ko (hn:1≤n) (hc:0≤c∧c≤4):aH n 169 [.int .i64 c] h λv h'=>v=.int .i64 c∧h'=h:=by
 refine aG rfl omQ λk hk=>?_;unfold S169;try simp only[iZ]
 refine qa omQ<|qY ⟨by simp,rfl⟩
theorem qVM (hn:1≤n) {w:Int}:aH n 200 [.int .u64 w] h λv h'=>v=.cn [.int .i64 (Gi w).1,.bool (Gi w).2]∧h'=h:=by
 refine aG rfl omQ λk hk=>?_;unfold S200;try simp only[iZ]
 unfold Gi;by_cases h1:1≤w∧w≤4
 ·rw[iJ h1];refine z8 omQ<|qX<|qb<|Jr omQ<|qB (qZ (yz omQ ?_))
  exact qY ⟨rfl,rfl⟩
 ·rw[iQ h1];by_cases h2:9≤w∧w≤12
  ·rw[iJ h2];refine z8 omQ<|qX<|qb<|Xc omQ<|qB (qJ (z8 omQ ?_));refine qX<|qb<|Jr omQ<|qB (qZ (wC omQ ?_));refine yz omQ ?_
   exact qY ⟨rfl,rfl⟩
  ·rw[iQ h2]
   repeat' (first |refine qZ ?_ |refine qJ ?_ |(refine qb ?_;try dsimp only) |(refine jG ?_;try dsimp only) |(refine qS ?_;try dsimp only) |(refine qp ?_;try dsimp only) |(refine ze ?_;try dsimp only) |refine qB ?_ |refine qH ?_ |(with_reducible refine qX ?_;try dsimp only) |with_reducible refine qx ?_ |with_reducible refine jR ?_ |with_reducible refine je ?_ |with_reducible refine qa omQ ?_ |with_reducible refine zL omQ ?_ |with_reducible refine gK omQ ?_ |with_reducible refine wC omQ ?_ |with_reducible refine zi ?_ |with_reducible refine xR ?_ |refine qz omQ ?_ |refine qV omQ ?_ |refine jg omQ ?_ |refine jB omQ ?_ |refine jc omQ ?_ |refine jH omQ ?_ |refine Jr omQ ?_ |refine Xc omQ ?_ |refine yc omQ ?_ |refine yj omQ ?_ |refine z8 omQ ?_ |refine z7 omQ ?_ |refine xp (λhc=>?_) (λhc=>?_) |refine km (λhc=>?_) (λhc=>?_) |refine QQ (λhc=>?_) (λhc=>?_) |refine vW (λhc=>?_) (λhc=>?_) |refine wE (λhc=>?_) (λhc=>?_) |refine gP (λhc=>?_) (λhc=>?_) |refine kV (λhc=>?_) (λhc=>?_))
   all_goals exact qY ⟨rfl,rfl⟩
theorem Zf (hn:10≤n) (H:HS g h (aj v M::R)) (O:dT M) :
  aH n 167 [.ptr v 0,.int .i64 b] h λr h'=>r=.cn [.int .i64 (zH M b).1.1,.bool (zH M b).1.2.1,.int .i64 (zH M b).1.2.2]∧HS g h' (aj v (zH M b).2::R):=by
 refine bw rfl omQ λk hk=>?_;unfold S167;try simp only[iZ]
 unfold zH;by_cases h1:b≤14
 ·rw[iJ (.inl h1)];refine Jr omQ<|qX<|jG<|qB (qZ ?_)
  exact qY ⟨rfl,H⟩
 ·refine Xc omQ<|qX<|qp ?_;(try dsimp only)
  refine qW (Mo omQ H) ?_;rintro _ _ ⟨rfl,rfl⟩;by_cases h2:(M.sz:Int)≤b
  ·rw[iJ (.inr h2)];refine z8 omQ<|qH (qZ ?_);exact qY ⟨rfl,H⟩
  ·rw[iQ omQ];refine z7 omQ<|qH (qJ ?_);have:=O.hi;refine zL omQ (qW (XH omQ H O) ?_);rintro _ h3 ⟨rfl,H3⟩;simp only[show((1:Nat):Int)=1 from rfl]at H3 ⊢;refine qy rfl<|qy rfl ?_;by_cases h4:(qs M (b-1)).1.2=0
   ·rw[iJ h4];refine jB omQ<|qJ (qW (qVM omQ) ?_);rintro _ _ ⟨rfl,rfl⟩;refine qy rfl<|qy rfl ?_;by_cases h5:(Gi (qs M (b-1)).1.1).1=0
    ·rw[iJ h5];refine qz omQ<|qZ<|qY ⟨rfl,H3⟩
    ·rw[iQ h5];refine qV omQ<|qJ<|qY ⟨rfl,H3⟩
   ·rw[iQ h4];refine jg omQ<|qZ<|qY ⟨rfl,H3⟩
theorem qxR (hn:11≤n) (H:HS g h (aj v M::R)) (O:dT M) :
  aH n 233 [.ptr v 0,.int .i64 b] h λr h'=>r=.int .i64 (wZ M b).1∧HS g h' (aj v (wZ M b).2::R):=by
 refine bw rfl omQ λk hk=>?_;unfold S233;try simp only[iZ]
 refine qW (Zf omQ H O) ?_;rintro _ h1 ⟨rfl,H1⟩;have hb:=Ln M b;have hO:=GY (b:=b) O;have:=O.hi;unfold wZ;refine qy rfl<|qy rfl<|qy rfl<|qX ?_;(try dsimp only)
 by_cases h2:(zH M b).1.2.2=0
 ·rw[iJ h2];refine qz omQ<|qX<|qb ?_;(try dsimp only)
  cases h3:(zH M b).1.2.1
  ·rw[iQ aW];refine je (qB (qZ (qX ?_)));refine qV omQ<|qJ (qX ?_);refine qV omQ<|qJ (qx ?_)
   exact qY ⟨rfl,H1⟩
  ·rw[iJ rfl];refine jR (qB (qJ (qX ?_)));refine qz omQ<|qZ (zL omQ ?_);refine Q7 omQ<|qI rfl ?_
   simp;refine(qh (l:=[.int .i64 (b-1),.int .u64 (zH M b).1.1]) (sz:=2) H1 rfl rfl rfl rfl λv3 h3 H3=>?_);refine qW (Uw (cs:=[(b-1,(zH M b).1.1)]) omQ (H3.aM e_1) hO (.own .here) aW) ?_;rintro _ h4 ⟨rfl,H4⟩;by_cases h5:(zf (zH M b).2 [(b-1,(zH M b).1.1)]).1=0
   ·rw[iJ h5];refine qX<|qz omQ<|qZ ?_
    refine qW (qvA omQ H4 (qZB hO)) ?_;intro _ h6 H6;refine qx<|qY ⟨by rw[h5],H6.pk [0] 1⟩
   ·rw[iQ h5];refine qX<|qV omQ<|qJ (qx ?_)
    exact qY ⟨rfl,H4.pk [0] 1⟩
 ·rw[iQ h2];refine qV omQ<|qX<|qS<|qH (qJ (qX ?_));refine qV omQ<|qJ (qX ?_);refine qV omQ<|qJ (qx ?_)
  exact qY ⟨rfl,H1⟩
theorem qxa (hn:11≤n) (H:HS g h (aj v M::R)) (O:dT M) :
  aH n 141 [.ptr v 0,.int .i64 b] h λr h'=>r=.int .i64 (yC M b).1∧HS g h' (aj v (yC M b).2::R):=by
 refine bw rfl omQ λk hk=>?_;unfold S141;try simp only[iZ]
 refine qW (Zf omQ H O) ?_;rintro _ h1 ⟨rfl,H1⟩;have hb:=Ln M b;have hO:=GY (b:=b) O;have:=O.hi;unfold yC;refine qy rfl<|qy rfl<|qy rfl<|qX ?_;(try dsimp only)
 by_cases h2:(zH M b).1.2.2=0
 ·rw[iJ h2];refine qz omQ<|qX<|qb<|qB ?_
  cases h3:(zH M b).1.2.1
  ·rw[iQ aW];refine qJ (jB omQ ?_);refine qJ (qW (Ko omQ omQ) ?_);rintro _ _ ⟨rfl,rfl⟩;refine qW (XH omQ H1 hO) ?_;rintro _ h4 ⟨rfl,H4⟩;refine qy rfl<|qy rfl ?_;by_cases h5:(qs (zH M b).2 (zH M b).1.1).1.2=0
   ·rw[iJ h5];refine jB omQ<|qJ (qI rfl ?_);refine qW (Ko omQ omQ) ?_;rintro _ _ ⟨rfl,rfl⟩;refine Q7 omQ<|qI rfl (qh (l:=[.int .i64 b,.int .u64 (qs (zH M b).2 (zH M b).1.1).1.1,.int .i64 (zH M b).1.1,.int .u64 b]) (sz:=2) H4 rfl rfl rfl rfl λv5 h5 H5=>?_);refine qW (Uw (cs:=[(b,(qs (zH M b).2 (zH M b).1.1).1.1),((zH M b).1.1,b)]) omQ (H5.aM e_1) (yT hO) (.own .here) aW) ?_;rintro _ h6 ⟨rfl,H6⟩;refine qx<|qY ⟨rfl,H6.pk [0] 1⟩
   ·rw[iQ h5];refine jg omQ<|qZ (qx ?_);exact qY ⟨rfl,H4⟩
  ·rw[iJ rfl];refine qZ (jg omQ ?_);refine qZ (qx ?_);exact qY ⟨rfl,H1⟩
 ·rw[iQ h2];refine qV omQ<|qX<|qS<|qH (qJ (jg omQ ?_));refine qZ (qx ?_)
  exact qY ⟨rfl,H1⟩
theorem qqN (hn:10≤n) (H:HS g h (aj v M::R)) (O:dT M) (hc:1≤c∧c≤4) (hb:0≤b) :
  aH n 299 [.ptr v 0,.int .i64 c,.int .u64 b] h λr h'=>r=.cn [.int .i64 (yl M c b).1.1,.int .i64 (yl M c b).1.2]∧HS g h' (aj v (yl M c b).2::R):=by
 refine cY rfl omQ λk hk=>?_;unfold S299;try simp only[iZ]
 unfold yl;by_cases h1:2147483648≤b
 ·rw[iJ h1];refine z8 omQ<|qZ<|qY ⟨rfl,H⟩
 ·rw[iQ h1];refine z7 omQ<|qJ (yz omQ ?_);refine qW (XH omQ H O) ?_;rintro _ h3 ⟨rfl,H3⟩;refine qy rfl<|qy rfl<|qX ?_;(try dsimp only)
  by_cases h4:(qs M b).1.2=0
  ·rw[iJ h4];refine qz omQ<|qZ (qW (Ko omQ omQ) ?_);rintro _ _ ⟨rfl,rfl⟩;refine qI rfl (zL omQ (qa omQ (Q7 omQ (qI rfl ?_))));refine qh (sz:=2) H3 rfl rfl rfl rfl λv5 h5 H5=>?_;refine qW (Uw (cs:=[(c,(qs M b).1.1),(b-1,c+8)]) omQ (H5.aM e_1) (yT O) (.own .here) aW) ?_;rintro _ h6 ⟨rfl,H6⟩;by_cases h7:(zf (qs M b).2 [(c,(qs M b).1.1),(b-1,c+8)]).1=0
   ·rw[iJ h7];refine jB omQ<|qJ (qx ?_);exact qY ⟨rfl,H6.pk [0] 1⟩
   ·rw[iQ h7];refine jg omQ<|qZ (qx ?_);exact qY ⟨rfl,H6.pk [0] 1⟩
  ·rw[iQ h4];refine qV omQ<|qJ (jg omQ ?_);refine qZ (qx ?_);exact qY ⟨rfl,H3⟩
theorem qqR (hn:10≤n) (H:HS g h (aj v M::R)) (O:dT M) (W:pJ M) (hc:1≤c∧c≤4) :
  aH n 300 [.ptr v 0,.int .i64 c] h λr h'=>r=.cn [.int .i64 (yf M c).1.1,.int .i64 (yf M c).1.2]∧HS g h' (aj v (yf M c).2::R):=by
 refine bw rfl omQ λk hk=>?_;unfold S300;try simp only[iZ]
 unfold yf;refine qW (XH omQ H O) ?_;rintro _ h3 ⟨rfl,H3⟩;have hw:=W.read (p:=5);simp only[show((5:Nat):Int)=5 from rfl]at H3 ⊢;have hs:=Zp c;have hO:=O.hi;refine qy rfl<|qy rfl ?_;by_cases h4:(qs M 5).1.2=0
 ·rw[iJ h4];refine jB omQ<|qJ ?_;have bP:(qs M 5).2.sz=M.sz:=qvD;by_cases h5:(qs M 5).1.1<14∨2147483648≤(qs M 5).1.1∨(M.sz:Int)<(qs M 5).1.1+1+wy c
  ·rw[iJ h5];by_cases h6:(qs M 5).1.1<14
   ·refine jc omQ<|qX<|jG<|qB (qX ?_);refine jG<|qB (qZ ?_)
    exact qY ⟨rfl,H3⟩
   ·by_cases h7:2147483648≤(qs M 5).1.1
    ·refine jH omQ<|qX<|qp<|z8 omQ<|qH (qX ?_);refine jG<|qB (qZ ?_)
     exact qY ⟨rfl,H3⟩
    ·refine jH omQ<|qX<|qp<|z7 omQ<|qH (qX ?_);refine qp<|yz omQ<|qa omQ ?_
     refine qW (UB omQ) ?_;rintro _ _ ⟨rfl,rfl⟩;refine qa omQ<|qW (Mo omQ H3) ?_;rintro _ _ ⟨rfl,rfl⟩;rw[bP];refine yc omQ<|qH (qZ ?_);exact qY ⟨rfl,H3⟩
  ·rw[iQ h5];refine jH omQ<|qX<|qp<|z7 omQ<|qH (qX ?_);refine qp<|yz omQ<|qa omQ ?_
   refine qW (UB omQ) ?_;rintro _ _ ⟨rfl,rfl⟩;refine qa omQ<|qW (Mo omQ H3) ?_;rintro _ _ ⟨rfl,rfl⟩;rw[bP];refine yj omQ<|qH (qJ (yz omQ ?_));refine qa omQ<|qW (UB omQ) ?_;rintro _ _ ⟨rfl,rfl⟩;refine qa omQ (Q7 omQ (qI rfl (qa omQ (Q7 omQ (qI rfl ?_)))));refine qh (l:=[.int .i64 5,.int .u64 ((qs M 5).1.1+1+wy c),.int .i64 (qs M 5).1.1,.int .u64 (c+8)]) (sz:=2) H3 rfl rfl rfl rfl λv5 h5 H5=>?_;refine qW (Uw (cs:=[(5,(qs M 5).1.1+1+wy c),((qs M 5).1.1,c+8)]) omQ (H5.aM e_1) (yT O) (.own .here) aW) ?_;rintro _ h6 ⟨rfl,H6⟩;by_cases h7:(zf (qs M 5).2 [(5,(qs M 5).1.1+1+wy c),((qs M 5).1.1,c+8)]).1=0
   ·rw[iJ h7];refine jB omQ<|qJ (qa omQ ?_);exact qY ⟨rfl,H6.pk [0] 1⟩
   ·rw[iQ h7];refine jg omQ<|qZ<|qY ⟨rfl,H6.pk [0] 1⟩
 ·rw[iQ h4];refine jg omQ<|qZ<|qY ⟨rfl,H3⟩
theorem qYu (hn:11≤n) (H:HS g h (aj v M::R)) (O:dT M) (W:pJ M) :
  aH n 232 [.ptr v 0,.int .i64 x] h λr h'=>r=.cn [.int .i64 (xP M x).1.1,.int .i64 (xP M x).1.2]∧HS g h' (aj v (xP M x).2::R):=by
 refine bw rfl omQ λk hk=>?_;unfold S232;try simp only[iZ]
 refine qW (qjP omQ) ?_;rintro _ _ ⟨rfl,rfl⟩;have hc:=qXe x;unfold xP;by_cases h1:yg x=0
 ·rw[iJ h1];refine qz omQ<|qZ<|qY ⟨rfl,H⟩
 ·rw[iQ h1];refine qV omQ<|qJ (qW (Ko omQ hc) ?_);rintro _ _ ⟨rfl,rfl⟩;refine qW (XH omQ H O) ?_;rintro _ h3 ⟨rfl,H3⟩;have hw:=W.read (p:=yg x);refine qy rfl<|qy rfl ?_;by_cases h4:(qs M (yg x)).1.2=0
  ·rw[iJ h4];by_cases h5:(qs M (yg x)).1.1=0
   ·rw[iJ h5];refine jB omQ<|qJ (jB omQ ?_);refine qJ (qW (qqR omQ H3 (yT O) W.nS omQ) ?_);rintro _ h6 ⟨rfl,H6⟩;refine qy rfl<|qy rfl<|qY ⟨rfl,H6⟩
   ·rw[iQ h5];refine jB omQ<|qJ (jg omQ ?_);refine qZ (qW (qqN omQ H3 (yT O) omQ hw.1) ?_);rintro _ h6 ⟨rfl,H6⟩;refine qy rfl<|qy rfl<|qY ⟨rfl,H6⟩
  ·rw[iQ h4];refine jg omQ<|qZ<|qY ⟨rfl,H3⟩
def MH (n:Int):List Int:=(List.replicate (fV n) (0:Int)).set 5 14
theorem qqf (hn:1≤n) (H:HS g h R):aH n 26 [.int .i64 x] h λv h'=>∃e,HS g h' (aa e 1 (fV x) v ((MH x).map (.int .u64))::R):=by
 refine aG rfl omQ λk hk=>?_;unfold S26;try simp only[iZ]
 have hb:=Fv x;refine zi (xR ?_);rw[show max ((32:Nat):Int) (min x ((256:Nat):Int))=((fV x:Nat):Int) by grind[fV]];refine Ye H omQ λv h2 H2=>?_;refine G5 H2 omQ ⟨rfl,rfl⟩ λh3 H3=>?_;unfold MH;rw[List.map_set,List.map_replicate];exact qY ⟨_,H3⟩
end
section
def zQ (x lo hi:Int):Int:=lo+(if x.tmod (hi-lo+1)<0 then x.tmod (hi-lo+1)+(hi-lo+1)else x.tmod (hi-lo+1))
theorem Yq (x:Int) {m:Int} (hm:0<m):-m<x.tmod m∧x.tmod m<m:=by refine⟨?_,Int.tmod_lt_of_pos x hm⟩;have:=Int.tmod_lt_of_pos (-x) hm;simp at*;omega
theorem zu (x:Int) (h:lo≤hi):lo≤zQ x lo hi∧zQ x lo hi≤hi:=by
 have:=Yq x (show 0<hi-lo+1 by omega);grind[zQ]
theorem xV (hn:1≤n) {h:AH} (h1:lo≤hi) (h2:-1000000000≤lo) (h3:hi≤1000000000) :
  aH n 9 [.int .i64 x,.int .i64 lo,.int .i64 hi] h λv h'=>v=.int .i64 (zQ x lo hi)∧h'=h:=by
 refine cY rfl omQ λk hk=>?_;unfold S9;try simp only[iZ]
 simp;have hb:=Yq x (show 0<hi-lo+1 by omega);unfold zQ
 repeat' (first |(first |with_reducible refine qZ ?_ |with_reducible refine qJ ?_ |(with_reducible refine qb ?_;try dsimp only) |(with_reducible refine jG ?_;try dsimp only) |(with_reducible refine qS ?_;try dsimp only) |(with_reducible refine qp ?_;try dsimp only) |(with_reducible refine ze ?_;try dsimp only) |with_reducible refine qB ?_ |with_reducible refine qH ?_ |(with_reducible refine qX ?_;try dsimp only) |with_reducible refine qx ?_ |with_reducible refine jR ?_ |with_reducible refine je ?_ |refine qa omQ ?_ |refine zL omQ ?_ |refine gK omQ ?_ |refine wC omQ ?_ |refine zi ?_ |refine xR ?_) |refine QD omQ ?_ |(first |refine xp (λhc=>?_) (λhc=>?_) |refine km (λhc=>?_) (λhc=>?_) |refine QQ (λhc=>?_) (λhc=>?_) |refine vW (λhc=>?_) (λhc=>?_) |refine wE (λhc=>?_) (λhc=>?_) |refine gP (λhc=>?_) (λhc=>?_) |refine kV (λhc=>?_) (λhc=>?_)))
 all_goals refine qY ⟨?_,rfl⟩
 all_goals grind
end
section
theorem qYM {l:List ES} {a b:List AV} {neg:Bool} {p:Prop} [Decidable p] (e:yK l a b=some (decide p)) (h1:p→wp (K (.bool (!neg))) Q) (h2:¬p→wp (K (.bool neg)) Q):wp (UW l neg (.agg a) (.agg b) K) Q:=by
 unfold UW;simp only[e,ob];by_cases h:p
 ·have:=h1 h;simpa[h]using this
 ·have:=h2 h;simpa[h]using this
end
section
variable {g h:AH} {L R:List SP}
def uQ (M M':VM):Prop:=M'.sz=M.sz∧M'.K=M.K∧M'.most=M.most∧(M'.aC=M.aC∨M'.lv=M.lv∧1≤M'.aC∧M'.aC<M.sz∧zk M'.aC M.K=none)
theorem uQ.refl (M:VM):uQ M M:=⟨rfl,rfl,rfl,.inl rfl⟩
theorem VQ (h:(qs M p).1.2=0):(qs M p).2=M:=by
 unfold qs at h ⊢
 grind
theorem Mq (M:VM) (p:Int):uQ M (qs M p).2:=by
 unfold qs
 split
 ·rename_i h1
  split
  ·exact .refl M
  ·split
   ·exact .refl M
   ·rename_i h3;exact⟨rfl,rfl,rfl,.inr ⟨rfl,h1.1,h1.2,h3⟩⟩
 ·exact .refl M
theorem jZL (M:VM) (b:Int):uQ M (zH M b).2∧((zH M b).1.2.2=0→(zH M b).2=M):=by
 unfold zH
 split
 ·exact⟨.refl M,λ_=>rfl⟩
 grind[Mq,VQ,absurd]
theorem uR {v:Int}:bX (wM most lv p v).2=bX lv:=by
 cases lv with
 |nil=>rfl
 |cons x r=>obtain⟨c,hc⟩:=Uo (most:=most) (x:=x) (r:=r) (p:=p) (v:=v);grind[JD]
theorem qz6:∀{cs:List Cl} {lv:List bM},bX lv=bX aw→bX (wV most aw lv cs).2=bX aw:=by
 intro cs
 induction cs with
 |nil=>intro lv h;exact h
 |cons c cs ih=>
  intro lv h;rw[wP]
  split
  ·exact ih (uR.trans h)
  rfl
theorem kj:bX (zf M cs).2.lv=bX M.lv:=by
 unfold zf
 split
 ·exact qz6 rfl
 rfl
theorem yU:bX (qs M p).2.lv=bX M.lv:=by
 grind[qs]
theorem Qs:bX (zH M b).2.lv=bX M.lv:=by
 grind[zH,yU]
theorem qje:bX (YN lv b)≤bX lv+1:=by
 cases lv with
 |nil=>simp[YN]
 |cons x r=>show bX ((x.1,x.2++[b])::r)≤_;grind[JD,List.length_append]
theorem jXl:∀{lv:List bM} {x:bM},x∈lv→x.2.length≤bX lv:=by
 intro l
 induction l with
 |nil=>simp
 |cons y r ih=>
  intro x hx;rw[JD];grind
structure zK (M:VM):Prop where
  ok:dT M
  wd:pJ M
theorem zK.read (G:zK M):zK (qs M p).2:=⟨yT G.ok,G.wd.nS⟩
theorem zK.take {M:VM} {cs:List Cl} (G:zK M) (h:lp cs):zK (zf M cs).2:=⟨qZB G.ok,G.wd.take h⟩
theorem zK.ask (G:zK M):zK (zH M b).2:=⟨GY G.ok,jZP G.wd⟩
theorem lp.two {a b:Cl} (ha:0≤a.2∧a.2<18446744073709551616) (hb:0≤b.2∧b.2<18446744073709551616):lp [a,b]:=by
 intro c hc;grind
theorem lp.Fw {a:Cl} (ha:0≤a.2∧a.2<18446744073709551616):lp [a]:=by intro c hc;grind
theorem zK.fU {M:VM} {b:Int} (G:zK M) (hf:bX M.lv<90000):zK (fU M b):=by
 refine⟨qgU G.ok λx hx=>by have:=jXl hx;omega,G.wd.k,?_⟩;show∀x∈YN M.lv b,∀c∈x.1,0≤c.2∧c.2<18446744073709551616;have:=G.wd.l;cases hl:M.lv with
 |nil=>nofun
 |cons y r=>
  rw[hl]at this;intro x hx;rcases List.mem_cons.1 hx with rfl |hx
  all_goals grind
theorem zK.free (G:zK M) (hf:bX M.lv<90000):zK (wZ M b).2∧bX (wZ M b).2.lv≤bX M.lv+1:=by
 have hb:=Ln M b;have hc:lp [(b-1,(zH M b).1.1)]:=.Fw ⟨hb.1,by grind⟩;unfold wZ
 repeat' split
 ·refine⟨(G.ask.take hc).fU (by grind[kj,Qs]),?_⟩;have:=qje (lv:=(zf (zH M b).2 [(b-1,(zH M b).1.1)]).2.lv) (b:=b);rw[kj,Qs]at this;trivial
 ·exact⟨G.ask.take hc,by simp[kj,Qs]⟩
 ·exact⟨G.ask,by simp[Qs]⟩
 ·exact⟨G.ask,by simp[Qs]⟩
theorem zK.mR (G:zK M):zK (yC M b).2∧bX (yC M b).2.lv=bX M.lv:=by
 have hb:=Ln M b;have hO:=G.ok.hi;unfold yC
 split
 ·rename_i h1;have sf:=hb.2.2 h1
  split
  ·exact⟨G.ask,Qs⟩
  ·split
   ·refine⟨(G.ask.read).take (.two G.ask.wd.read ⟨by grind,by grind⟩),by rw[kj,yU,Qs]⟩
   ·exact⟨G.ask.read,by rw[yU,Qs]⟩
 ·exact⟨G.ask,Qs⟩
theorem zK.again (G:zK M) (hc:0≤c∧c≤4):zK (yl M c b).2∧bX (yl M c b).2.lv=bX M.lv:=by
 have ht:lp [(c,(qs M b).1.1),(b-1,c+8)]:=.two G.wd.read ⟨by grind,by grind⟩;unfold yl
 repeat' split
 ·grind
 ·exact⟨G.read.take ht,by rw[kj,yU]⟩
 ·exact⟨G.read.take ht,by rw[kj,yU]⟩
 ·exact⟨G.read,yU⟩
theorem zK.grown (G:zK M) (hc:0≤c∧c≤4):zK (yf M c).2∧bX (yf M c).2.lv=bX M.lv:=by
 have hs:=Zp c;unfold yf
 split
 ·split
  ·exact⟨G.read,yU⟩
  ·rename_i h1;have ht:lp [(5,(qs M 5).1.1+1+wy c),((qs M 5).1.1,c+8)]:=.two ⟨by grind,by grind⟩ ⟨by grind,by grind⟩
   split
   ·exact⟨G.read.take ht,by rw[kj,yU]⟩
   ·exact⟨G.read.take ht,by rw[kj,yU]⟩
 ·exact⟨G.read,yU⟩
theorem zK.alloc (G:zK M):zK (xP M x).2∧bX (xP M x).2.lv=bX M.lv:=by
 have hc:=qXe x;unfold xP
 repeat' split
 ·grind
 ·exact⟨(G.read.grown hc).1,by rw[(G.read.grown hc).2,yU]⟩
 ·exact⟨(G.read.again hc).1,by rw[(G.read.again hc).2,yU]⟩
 ·exact⟨G.read,yU⟩
theorem zK.tg (G:zK M):zK (gG M).2∧bX (gG M).2.lv=bX M.lv:=by
 have e:(JF M.lv).2=M.lv∨(JF M.lv).2=([],[])::M.lv:=by grind[JF]
 refine⟨⟨⟨G.ok.lo,G.ok.hi,qwo G.ok.lm,G.ok.ins,G.ok.un,?_⟩,G.wd.k,?_⟩,?_⟩
 ·show∀x∈(JF M.lv).2,_;rcases e with e |e
  ·rw[e];exact G.ok.fr
  ·rw[e];intro x hx;rcases List.mem_cons.1 hx with rfl |hx
   ·simp
   ·exact G.ok.fr x hx
 ·show∀x∈(JF M.lv).2,_;rcases e with e |e
  ·rw[e];exact G.wd.l
  ·rw[e];intro x hx;rcases List.mem_cons.1 hx with rfl |hx
   ·simp
   ·exact G.wd.l x hx
 ·show bX (JF M.lv).2=_;grind[JD]
theorem zK.dU (G:zK M):zK (yA M).2∧bX (yA M).2.lv≤bX M.lv:=by
 have e:(JE M.lv).2=M.lv∨(JE M.lv).2=M.lv.tail:=by grind[JE]
 have hs:∀x∈(JE M.lv).2,x∈M.lv:=by
  grind[List.mem_of_mem_tail]
 refine⟨⟨⟨G.ok.lo,G.ok.hi,qgS G.ok.lm,G.ok.ins,G.ok.un,λx hx=>G.ok.fr x (hs x hx)⟩,G.wd.k,λx hx=>G.wd.l x (hs x hx)⟩,?_⟩;show bX (JE M.lv).2≤_;rcases e with e |e
 ·grind
 ·rw[e];cases M.lv with
  |nil=>simp
  |cons x r=>simp[bX]
theorem zK.AU (G:zK M) (hf:bX M.lv<90000):zK (gi M).2∧bX (gi M).2.lv=bX M.lv:=by
 have hd:=qwU G.ok.lm;have Dj:=λx (hx:x∈(Xx M.lv).2)=>jXl hx;obtain⟨sz,K,most,lv,aC⟩:=M;rcases lv with _ |⟨x,_ |⟨y,r⟩⟩
 ·trivial
 ·trivial
 ·have e:=qxn (x:=x) (y:=y) (r:=r);refine⟨⟨⟨G.ok.lo,G.ok.hi,hd,G.ok.ins,G.ok.un,λz hz=>?_⟩,G.wd.k,λz hz=>?_⟩,e⟩
  ·have:=Dj z hz;grind
  ·have hl:=G.wd.l;have hx:lp x.1:=hl x aW;have hy:lp y.1:=hl y aW;have hz:z∈(vN y.1 x.1,y.2++x.2)::r:=hz;rcases List.mem_cons.1 hz with rfl |hz
   ·exact hy.oR hx
   grind
end
section
variable {g h:AH} {L R:List SP}
abbrev mC:Type:=Int×Int
def rA (x:mC):List UInt8:=if x.1=1 then Lib.decDigits x.2.toNat else if x.1=2 then(if x.2=1 then[121,101,115]else[110,111])else[110,111,110,101]
def Jn (x:mC):AV:=if x.1=1 then .iface 22 (.int .u64 x.2)else if x.1=2 then .iface 4 (.bool (decide (x.2=1)))else .iface 365 (.agg [])
def Fx (x:mC):Prop:=0≤x.2∧x.2<18446744073709551616
def uS (l:List mC):List UInt8:=Lib.join (l.map rA) [32]
theorem Gg (x:mC):One (Jn x):=by unfold Jn;(repeat' split)<;>exact⟨rfl,rfl⟩
theorem NB (l:List mC):qt (l.map Jn)=true:=by unfold qt;rw[List.all_eq_true];intro v hv;obtain⟨x,_,rfl⟩:=List.mem_map.1 hv;exact(Gg x).2
theorem O6 {s:List UInt8} {lo hi:Nat} (h1:lo≤hi) (h2:hi≤s.length) (w:wp (K (.str ((s.drop lo).take (hi-lo)))) Q):wp (wB (.str s) (some (.int k1 (lo:Int))) (some (.int k2 (hi:Int))) K) Q:=by unfold wB;simp only[gO h2,gO h1,ob,Qy];rw[w6 (by grind)];exact w
theorem qyS (hn:1≤n) (hi:i<100):aH n 255 [.int .i64 (i:Int)] h λr h'=>r=.str (Lib.decDigits i)∧h'=h:=by
 (refine qA rfl omQ λk hk=>?_;show wp (S255 (callT tab qj k) _ _) _;unfold S255;try simp only[iI,iZ])
 by_cases h1:i<10
 ·refine jc omQ (qZ ?_);refine qa omQ ?_;rw[show(i:Int)+((1:Nat):Int)=((i+1:Nat):Int) by rfl];refine O6 omQ (by simp;omega) (qY ⟨?_,rfl⟩);rw[← Lib.digits36_piece h1]
  rfl
 ·refine jH omQ (qJ ?_);refine Vl omQ (Vl omQ (qa omQ ?_));rw[show(i:Int)*((2:Nat):Int)+((2:Nat):Int)=((i*2+2:Nat):Int) by rfl,show(i:Int)*((2:Nat):Int)=((i*2:Nat):Int) by rfl];refine O6 omQ (by simp;omega) (qY ⟨?_,rfl⟩);rw[← Lib.smalls_piece h1 hi]
  congr 2
theorem Fy (hn:1≤n) (h1:1≤u) (h2:u<18446744073709551616):aH n 256 [.int .u64 (u:Int)] h λr h'=>r=.int .i64 (Lib.nDigits u:Int)∧h'=h:=by refine qA rfl omQ λk hk=>?_;show wp (Fi _ [.int .u64 (.ofNat u)] h) _;unfold Fi;dsimp only;rw[iY h1,iY (show u+1≤18446744073709551616 by omega)];exact⟨_,_,rfl,rfl,rfl⟩
theorem qgb:∀(bs:List UInt8),Df (bs.map λc=>.int .u8 (.ofNat c.toNat))=some bs:=by
 intro bs
 induction bs with
 |nil=>rfl
 |cons b bs ih=>rw[List.map_cons];unfold Df;rw[ih,iY (show b.toNat+1≤256 from b.toNat_lt)];simp
theorem Fz (hn:1≤n) {b nd:Nat} {bs:List UInt8} {ys:List AV} (H:HS g h (qk b ((bs.map λc=>.int .u8 (.ofNat c.toNat))++ys)::R)) (hb:bs.length=nd) (h1:u<10 ^ nd) (h2:u<18446744073709551616) (h3:nd≤100) (_:qt ys=true) :
  aH n 257 [.slice b 0 nd 24 false,.int .u64 (u:Int)] h λ_ h'=>HS g h' (qk b (tX nd u++ys)::R):=by
 refine qA rfl omQ λk hk=>?_;show wp (Fj _ [.slice b 0 nd 24 false,.int .u64 (.ofNat u)] h) _;obtain⟨D,⟨hD,e,A⟩,fb,kk⟩:=H.act;obtain⟨c,c1,c2,c3⟩:=A.bG;unfold Fj;simp only[c1,c2];rw[List.take_append_of_le_length (by grind),List.take_of_length_le (by grind),qgb];simp only[];rw[show Nat.beq bs.length nd=true from by simp_all,iY (show u+1≤10 ^ nd by omega),iY (show u+1≤18446744073709551616 by omega),iY h3];simp;rw[List.drop_append_of_le_length (by grind),List.drop_of_length_le (by grind),List.nil_append];refine⟨_,_,rfl,kk _ (qk b (tX nd u++ys)) D ⟨by simp,λa ha hn=>AH.bE h _ λe=>hn ((hD a).2 e.symm)⟩ ⟨hD,e,by simp_all,CT.ofList _,AH.bi ..,CT.aP _,CT.bI _⟩ λa ha=>⟨.inl ha,by simp_all⟩⟩
theorem qG3:∀(xs:List (List UInt8)),VZ (xs.map .str)=some xs:=by
 intro xs
 induction xs with
 |nil=>rfl
 |cons x xs ih=>simp_all[List.map_cons,VZ]
theorem jZo (hn:1≤n) {b:Nat} {xs:List (List UInt8)} {sep:List UInt8} (H:HS g h (Cell b (xs.map .str) e false::R)) (hm:xs.length=m) (h1:m≤1000000) (h2:(Lib.join xs sep).length≤1000000) :
  aH n 154 [.slice b 0 m m false,.str sep] h λr h'=>r=.str (Lib.join xs sep)∧h'=h:=by
 refine qA rfl omQ λk hk=>?_;show wp (Fk _ [.slice b 0 m m false,.str sep] h) _;obtain⟨D,hD,A⟩:=H.p .here;obtain⟨c,c1,c2,c3⟩:=A.bG;unfold Fk;simp only[c1,c2,List.drop_zero];rw[List.take_of_length_le (by grind),qG3];simp only[];rw[show Nat.beq xs.length m=true from by simp_all,iY (Nat.le_refl m),iY h1,iY h2];exact⟨_,_,rfl,rfl,rfl⟩
theorem qzD (nd u:Nat):Jo (tX nd u)=some ((List.range nd).map λt=>Lib.dg u (nd-1-t)):=by
 unfold tX;have key:∀l:List Nat,Jo (l.map λt=>AV.int .u8 (.ofNat (Lib.dg u (nd-1-t)).toNat))=some (l.map λt=>Lib.dg u (nd-1-t)):=by
  intro l
  induction l with
  |nil=>rfl
  |cons a l ih=>simp_all[List.map_cons,Jo]
 grind
theorem qqM (hn:2≤n) (h2:u<18446744073709551616) (H:HS g h R):aH n 209 [.int .u64 (u:Int),.int .i64 10] h λr h'=>r=.str (Lib.decDigits u)∧HS g h' R:=by
 refine bw rfl omQ λk hk=>?_;unfold S209;try simp only[iZ]
 refine qz rfl (qZ ?_);by_cases h1:u<100
 ·refine jc omQ (qZ ?_);refine yz omQ<|qW (qyS omQ h1) ?_;rintro _ _ ⟨rfl,rfl⟩;exact qY ⟨rfl,H⟩
 ·refine jH omQ (qJ ?_);refine qM H rfl λb h3 H3=>?_;have hnd:=Lib.nDigits_le20 u h2;have PA:=Lib.nDigits_pos u;have ax:=Lib.lt_pow_nDigits u;have Sr:=Lib.decDigits_eq u;refine qW (Fy omQ omQ h2) ?_;generalize Lib.nDigits u=nd at*;have H4:HS g h3 (qk b (((List.replicate nd (0:UInt8)).map λc=>.int .u8 (.ofNat c.toNat))++List.replicate (24-nd) (.int .u8 (.ofNat 0)))::R):=by
   have e:(List.replicate nd (0:UInt8)).map (λc=>AV.int .u8 (.ofNat c.toNat))++List.replicate (24-nd) (AV.int .u8 (.ofNat 0))=List.replicate 24 (AV.int .u8 (.ofNat 0)):=by grind[List.map_replicate,List.replicate,List.replicate_append_replicate]
   simp_all
  rintro _ _ ⟨rfl,rfl⟩;have nJ:∀(K:AV→Go.Ae.R) (Q:AV→AH→Prop),wp (K (.slice b 0 nd 24 false)) Q→wp (wI 24 1 (.ptr b 0) none (some (.int .i64 (nd:Int))) K) Q:=by intro K Q w;unfold wI;simp only[gO (show nd≤24 by omega),ob,show gQ none nd 0=some 0 from rfl];exact w
  refine nJ _ _<|qW (Fz omQ H4 aW ax h2 omQ (by unfold qt;rw[List.all_eq_true];intro y hy;rw[List.eq_of_mem_replicate hy];rfl)) ?_;intro _ h5 H5;refine nJ _ _ ?_;obtain⟨e,A⟩:=H5.obj .here;unfold KZ;dsimp only;rw[NY A (by simp[XS]),List.drop_zero,List.take_append_of_le_length (by simp[XS]),List.take_of_length_le (by simp[XS])];simp only[ob,qzD];exact qY ⟨by rw[Sr],H5.drop⟩
theorem qGh (hn:3≤n) {u:Int} (h0:0≤u) (h2:u<18446744073709551616) (H:HS g h R):aH n 185 [.int .u64 u,.int .i64 10] h λr h'=>r=.str (Lib.decDigits u.toNat)∧HS g h' R:=by
 refine bw rfl omQ λk hk=>?_;unfold S185;try simp only
 obtain⟨m,rfl⟩:∃m:Nat,u=m:=⟨u.toNat,by omega⟩;refine qW (qqM omQ omQ H) ?_;rintro _ h3 ⟨rfl,H3⟩;exact qY ⟨rfl,H3⟩
theorem qWA {z x:AV} (w:wp (K (.cn [x,.bool true])) Q):wp (yM t z (.iface t x) K) Q:=by show wp (bif Nat.beq t t then _ else _) Q;rw[Nat.beq_refl];exact w
theorem Ss {u:TypeId} {z x:AV} (h:Nat.beq u t=false) (w:wp (K (.cn [z,.bool false])) Q):wp (yM t z (.iface u x) K) Q:=by show wp (bif Nat.beq u t then _ else _) Q;rw[h];exact w
theorem jJP (hn:4≤n) {x:mC} (hx:Fx x) (H:HS g h R):aH n 153 [Jn x] h λr h'=>r=.str (rA x)∧HS g h' R:=by
 (refine qA rfl omQ λk hk=>?_;show wp (S153 (callT tab qj k) _ _) _;unfold S153;try simp only[iI,uU,iZ])
 unfold Jn rA;by_cases h1:x.1=1
 ·rw[iJ h1,iJ h1];refine qWA (qy rfl (qy rfl (qZ ?_)));refine qW (qGh omQ hx.1 hx.2 H) ?_;rintro _ h3 ⟨rfl,H3⟩;exact qY ⟨rfl,H3⟩
 ·rw[iQ h1,iQ h1];by_cases h2:x.1=2
  ·rw[iJ h2,iJ h2];refine Ss rfl<|qy rfl (qy rfl (qJ ?_));refine qWA (qy rfl (qy rfl (qZ ?_)));by_cases h3:x.2=1
   ·rw[iG h3,iJ h3];exact qZ (qY ⟨rfl,H⟩)
   ·rw[iV h3,iQ h3];exact qJ (qY ⟨rfl,H⟩)
  ·rw[iQ h2,iQ h2];refine Ss rfl<|qy rfl (qy rfl (qJ ?_));refine Ss rfl<|qy rfl (qy rfl (qJ (qY ⟨rfl,H⟩)))
theorem jQP (x:mC) (hx:Fx x):(rA x).length≤20:=by
 unfold rA;have h2:=hx.2
 split
 ·simp_all[Lib.decDigits_length,Lib.nDigits_le20,omQ]
 grind
theorem qvf:∀(xs:List (List UInt8)),(∀x∈xs,x.length≤m)→(Lib.join xs [32]).length≤xs.length*(m+1):=by
 intro xs hx;cases xs with
 |nil=>simp[Lib.join_nil]
 |cons x r=>
  rw[Lib.join_cons,List.length_append];have h2:∀r:List (List UInt8),(∀x∈r,x.length≤m)→(Lib.joinTail [32] r).length≤r.length*(m+1):=by
   intro r
   induction r with
   |nil=>simp[Lib.joinTail]
   |cons y r ih=>intro h;have a:=h y (iK ..);have b:=ih λz hz=>h z (iX _ hz);unfold Lib.joinTail at*;simp only[List.map_cons,List.flatten_cons,List.length_append,List.length_cons,List.length_nil,Nat.add_mul];omega
  have h3:=h2 r λz hz=>hx z (iX _ hz);grind[List.length_cons,Nat.add_mul]
theorem qyh {l:List mC} (hl:l.length≤1000) (hi:∀x∈l,Fx x):(uS l).length≤1000000:=by unfold uS;have:=qvf (m:=20) (l.map rA) (λy hy=>by obtain⟨x,hx,rfl⟩:=List.mem_map.1 hy;grind[jQP]);grind
theorem qkL {z:AV} {K2:AV→AH→Go.Ae.R} (H:HS g h L) (h2:n≤1073741824)
  (w:∀b h',HS g h' (Cell b (List.replicate n z) e false::L)→wp (K2 (.slice b 0 n n false) h') Q):wp (JY h e [z] (.int k1 (n:Int)) (.int k2 (n:Int)) K2) Q:=by
 refine qYF (Nat.le_refl n) h2 λb h' hb A F=>w b h' (H.add (D':=λa=>a=b) F.none ⟨λa=>Iff.rfl,by grind[qZS]⟩ ?_);rintro a rfl;exact⟨hb,A.lt⟩
def bL (o:Nat) (l:List mC):SP:=.ex λsv=>.all [qk o [sv],aa 20 1 l.length sv (l.map Jn)]
theorem bL.E {l:List mC} (H:HS g h (bL o l::R)):∃sv,HS g h (qk o [sv]::aa 20 1 l.length sv (l.map Jn)::R):=by obtain⟨sv,H⟩:=H.fh;exact⟨sv,H.cI⟩
theorem bL.I {l:List mC} (H:HS g h (qk o [sv]::aa 20 1 l.length sv (l.map Jn)::R)):HS g h (bL o l::R):=HS.fH sv H.allI
theorem jZa (hn:5≤n) {l:List mC} (H:HS g h (bL o l::R)) (hl:l.length≤1000) (hi:∀x∈l,Fx x) :
  aH n 126 [.ptr o 0] h λr h'=>r=.str (uS l)∧HS g h' (bL o l::R):=by
 (refine qA rfl omQ λk hk=>?_;show wp (S126 (callT tab qj k) _ _) _;unfold S126;try simp only[iI,iZ])
 obtain⟨sv,H⟩:=bL.E H;refine qG (qQ (qK ‹_› .here rfl ?_));refine qu ‹_› e_1<|qkL H omQ λb h2 H2=>?_;refine qG (qQ (qK ‹_› e_1 rfl ?_));refine qu ‹_› e_2<|jS (λm s h'=>∃i:Nat,s=(.int .i64 (i:Int),.int .i64 (l.length:Int),sv,.slice b 0 l.length l.length false,())∧i≤l.length∧m=l.length-i∧
  HS g h' (Cell b (((l.take i).map λx=>.str (rA x))++List.replicate (l.length-i) (.str [])) 9 false::qk o [sv]::aa 20 1 l.length sv (l.map Jn)::R))
  ?_ (m:=l.length) (by show _<1000000000;omega) ⟨0,rfl,by omega,by rfl,H2⟩
 clear H H2;rintro m ih s h3 bN ⟨i,rfl,h1,rfl,H⟩;by_cases ax:i<l.length
 ·refine jc omQ (qZ ?_);refine zY (H.sl e_2) (x:=Jn l[i]) (by grind)<|qW (jJP omQ (hi _ (List.getElem_mem ax)) H) ?_;rintro _ h4 ⟨rfl,H4⟩;refine UM (k:=.i64) ax<|qva H4 rfl (by grind) rfl λh5 H5=>?_;refine qa omQ (bN (l.length-(i+1)) _ _ omQ ⟨i+1,rfl,by omega,rfl,?_⟩);have e:Jz (((l.take i).map λx=>AV.str (rA x))++List.replicate (l.length-i) (.str [])) (0+i*1) (AV.str (rA l[i])).cells=((l.take (i+1)).map λx=>AV.str (rA x))++List.replicate (l.length-(i+1)) (.str []):=by
   rw[Nat.zero_add,Nat.mul_one];show Jz _ i [AV.str (rA l[i])]=_;rw[UA (by grind),List.take_add_one,iW ax,List.map_append,show l.length-i=(l.length-(i+1))+1 by omega,List.replicate_succ,List.set_append_right _ _ (by grind)];have hz:i-((l.take i).map λx=>AV.str (rA x)).length=0:=by grind
   grind
  grind
 ·obtain rfl:i=l.length:=by omega
  refine jH omQ (qJ ?_);rw[Nat.sub_self,List.take_length,List.replicate_zero,List.append_nil]at H;have H2:HS g h3 (Cell b ((l.map rA).map .str) 9 false::qk o [sv]::aa 20 1 l.length sv (l.map Jn)::R):=by rw[List.map_map];exact H
  refine qW (jZo omQ H2 aW omQ (qyh hl hi)) ?_;rintro _ _ ⟨rfl,rfl⟩;exact qx (qY ⟨rfl,bL.I H.drop⟩)
end
section
structure eZ where
  op:Int
  pc:Int
  az:List Int
  told:Nat
structure IM where
  az:List Int
  out:List mC
  pc:Int
  aS:List eZ
structure SM where
  e:Int
  nx:Int
  bG:Bool
  s:IM
  v:VM
def di (s:IM) (i v:Int):IM:={ s with az:=s.az.set i.toNat v }
def vO (b off:Int):Int×Int:=if 2147483648≤b∨2147483648≤b+off∨b+off<6 then(0,2)else(b+off,0)
def G0 (p:Prop) [Decidable p]:Int:=if p then 1 else 0
def zq (s:IM) (V:VM) (x:qR):Int×IM×VM :=
 if x.1=8 then
  (if(vO (qg s.az x.2.2.1) x.2.2.2.1).2=0 then
   (if(qs V (vO (qg s.az x.2.2.1) x.2.2.2.1).1).1.2=0 then(0,di s x.2.1 (qs V (vO (qg s.az x.2.2.1) x.2.2.2.1).1).1.1,(qs V (vO (qg s.az x.2.2.1) x.2.2.2.1).1).2)
    else((qs V (vO (qg s.az x.2.2.1) x.2.2.2.1).1).1.2,s,(qs V (vO (qg s.az x.2.2.1) x.2.2.2.1).1).2))
  else(2,s,V))
 else if x.1=9 then
  (if(vO (qg s.az x.2.1) x.2.2.2.1).2=0 then((zf V [((vO (qg s.az x.2.1) x.2.2.2.1).1,qg s.az x.2.2.1)]).1,s,(zf V [((vO (qg s.az x.2.1) x.2.2.2.1).1,qg s.az x.2.2.1)]).2)
  else(2,s,V))
 else if x.1=10 then
  (if 2147483648≤qg s.az x.2.2.1 then(3,s,V)
  else if(xP V (qg s.az x.2.2.1)).1.2=0 then(0,di s x.2.1 (xP V (qg s.az x.2.2.1)).1.1,(xP V (qg s.az x.2.2.1)).2)
  else((xP V (qg s.az x.2.2.1)).1.2,s,(xP V (qg s.az x.2.2.1)).2))
 else
  (if 2147483648≤qg s.az x.2.1 then(2,s,V)else((wZ V (qg s.az x.2.1)).1,s,(wZ V (qg s.az x.2.1)).2))
def zo (op at_ nx:Int) (s:IM) (V:VM):SM :=
 if(gG V).1=0 then⟨0,nx,false,{ s with aS:=⟨op,at_,s.az,s.out.length⟩::s.aS },(gG V).2⟩else⟨(gG V).1,nx,false,s,(gG V).2⟩
def Jp (s:IM) (p:eZ):IM:={ s with az:=p.az,out:=s.out.take p.told }
def vt (mt:List Int):List eZ→IM→VM→SM
 |[],s,V=>⟨0,s.pc,true,{ s with aS:=[] },V⟩
 |p::o,s,V=>
  if(yA V).1=0 then
   (if p.op=17 then zo 18 (qg mt p.pc) (qg mt p.pc+1) { Jp s p with aS:=o } (yA V).2
   else vt mt o s (yA V).2)
  else⟨(yA V).1,s.pc+1,false,{ s with aS:=o },(yA V).2⟩
def M3 (o:List eZ):eZ:=(o.head?).getD ⟨0,0,[0,0,0,0,0,0,0,0],0⟩
def kg (mt:List Int) (s:IM) (V:VM) (op:Int):SM :=
 if op=14∨op=17 then zo op s.pc (s.pc+1) s V
 else if op=15∨op=19 then⟨(gi V).1,s.pc+1,false,{ s with aS:=s.aS.tail },(gi V).2⟩
 else if op=18 then⟨(gi V).1,qg mt s.pc+1,false,{ s with aS:=s.aS.tail },(gi V).2⟩
 else if op=16 then⟨(yA V).1,qg mt s.pc+1,false,{ Jp s (M3 s.aS)with aS:=s.aS.tail },(yA V).2⟩
 else vt mt s.aS s V
def cm (mt:List Int) (s:IM) (V:VM) (x:qR):SM :=
 if x.1=1 then⟨0,s.pc+1,false,di s x.2.1 x.2.2.2.2,V⟩
 else if x.1=2 then⟨0,s.pc+1,false,di s x.2.1 (qg s.az x.2.2.1),V⟩
 else if x.1=3 then⟨0,s.pc+1,false,di s x.2.1 (xy .u64 (qg s.az x.2.2.1+qg s.az x.2.2.2.1)),V⟩
 else if x.1=4 then⟨0,s.pc+1,false,di s x.2.1 (xy .u64 (qg s.az x.2.2.1-qg s.az x.2.2.2.1)),V⟩
 else if x.1=5 then⟨0,s.pc+1,false,di s x.2.1 (xy .u64 (qg s.az x.2.2.1*qg s.az x.2.2.2.1)),V⟩
 else if x.1=6 then⟨0,s.pc+1,false,di s x.2.1 (G0 (qg s.az x.2.2.1<qg s.az x.2.2.2.1)),V⟩
 else if x.1=7 then⟨0,s.pc+1,false,di s x.2.1 (G0 (qg s.az x.2.2.1=qg s.az x.2.2.2.1)),V⟩
 else if x.1=12 then⟨0,x.2.2.2.1,false,s,V⟩
 else if x.1=13 then⟨0,if qg s.az x.2.1=0 then x.2.2.2.1 else s.pc+1,false,s,V⟩
 else if x.1=21 then(if 16≤s.out.length then⟨5,s.pc+1,false,s,V⟩else⟨0,s.pc+1,false,{ s with out:=s.out++[(1,qg s.az x.2.1)] },V⟩)
 else if x.1=22 then⟨13,s.pc+1,false,s,V⟩
 else if x.1=8∨x.1=9∨x.1=10∨x.1=11 then⟨(zq s V x).1,s.pc+1,false,(zq s V x).2.1,(zq s V x).2.2⟩
 else kg mt s V x.1
structure RM where
  kind:Int
  err:Int
  left:Nat
  s:IM
  v:VM
def zD (l:List qR) (mt:List Int):Nat→IM→VM→RM
 | 0,s,V=>if s.pc=l.length then⟨2,0,0,s,V⟩else⟨4,6,0,s,V⟩
 |n+1,s,V=>
  if s.pc=l.length then⟨2,0,n+1,s,V⟩
  else if(cm mt s V (qO l s.pc)).e=0 then
   (if(cm mt s V (qO l s.pc)).bG=true then⟨3,0,n,{ (cm mt s V (qO l s.pc)).s with pc:=(cm mt s V (qO l s.pc)).nx },(cm mt s V (qO l s.pc)).v⟩
   else zD l mt n { (cm mt s V (qO l s.pc)).s with pc:=(cm mt s V (qO l s.pc)).nx } (cm mt s V (qO l s.pc)).v)
  else if(cm mt s V (qO l s.pc)).e=11 then⟨1,0,n+1,(cm mt s V (qO l s.pc)).s,(cm mt s V (qO l s.pc)).v⟩
  else⟨4,(cm mt s V (qO l s.pc)).e,n+1,(cm mt s V (qO l s.pc)).s,(cm mt s V (qO l s.pc)).v⟩
theorem JJ {s:IM}:zD l mt 0 s V=if s.pc=l.length then⟨2,0,0,s,V⟩else⟨4,6,0,s,V⟩:=rfl
theorem JT {s:IM}:zD l mt (n+1) s V=if s.pc=l.length then⟨2,0,n+1,s,V⟩
  else if(cm mt s V (qO l s.pc)).e=0 then
   (if(cm mt s V (qO l s.pc)).bG=true then⟨3,0,n,{ (cm mt s V (qO l s.pc)).s with pc:=(cm mt s V (qO l s.pc)).nx },(cm mt s V (qO l s.pc)).v⟩
   else zD l mt n { (cm mt s V (qO l s.pc)).s with pc:=(cm mt s V (qO l s.pc)).nx } (cm mt s V (qO l s.pc)).v)
  else if(cm mt s V (qO l s.pc)).e=11 then⟨1,0,n+1,(cm mt s V (qO l s.pc)).s,(cm mt s V (qO l s.pc)).v⟩
  else⟨4,(cm mt s V (qO l s.pc)).e,n+1,(cm mt s V (qO l s.pc)).s,(cm mt s V (qO l s.pc)).v⟩:=rfl
theorem qwb {s:IM} (h0:s.pc=l.length):∀n,zD l mt n s V=⟨2,0,n,s,V⟩:=by
 intro n;cases n with
 |zero=>rw[JJ,iJ h0]
 |succ n=>rw[JT,iJ h0]
def qE (l:List qR):Nat→List Int
 | 0=>[]
 |i+1=>jE (qE l i) i (qO l i).1
theorem yN (h:i<l.length):qO l (i:Int)=l[i]:=by simp_all[qO,Int.toNat_natCast]
theorem jU:qE l (i+1)=jE (qE l i) i (qO l i).1:=rfl
theorem qvn:∀(d i:Nat) {st':List Int},i+d=l.length→mB l (l.drop i) i (qE l i)=.inr st'→(∀j,i≤j→j<l.length→xW l (qE l j) (qO l j)=0)∧qE l l.length=st':=by
 intro d
 induction d with
 |zero=>
  intro i st' hi h;obtain rfl:i=l.length:=by omega
  rw[List.drop_length]at h;cases h;grind
 |succ d ih=>
  intro i st' hi h;have ax:i<l.length:=by omega
  rw[Uz ax]at h
  split at h
  ·rename_i hw;obtain⟨a,b⟩:=ih (i+1) (st':=st') omQ (by grind[jU,yN]);refine⟨λj h1 h2=>?_,b⟩;by_cases hj:j=i
   ·grind[yN]
   grind
  grind
theorem OR:∀(d i:Nat),i+d=l.length→∀k,i+k<l.length→(gr (l.drop i) i (qE l i))[k]? =some (jq (qE l (i+k))):=by
 intro d
 induction d with
 |zero=>grind
 |succ d ih=>
  intro i hi k hk;have ax:i<l.length:=by omega
  rw[O0 ax];cases k with
  |zero=>rfl
  |succ k=>rw[List.getElem?_cons_succ];have:=ih (i+1) omQ k omQ;grind[jU,yN]
structure Fit (l:List qR):Prop where
  pos:0<l.length
  le:l.length≤40
  ok:∀j,j<l.length→xW l (qE l j) (qO l j)=0
  nil:qE l l.length=[]
  tZ:∀j,j<l.length→(gr l 0 [])[j]? =some (jq (qE l j))
  jump:∀j,j<l.length→¬YE l (gr l 0 []) j (qO l j)
theorem qqE {a:List Int}:∀(d i:Nat),i+d=l.length→(YM l a (l.drop i) i).2=0→∀j,i≤j→j<l.length→¬YE l a j (qO l j):=by
 intro d
 induction d with
 |zero=>grind
 |succ d ih=>
  intro i hi h j h1 h2;have ax:i<l.length:=by omega
  rw[KV ax]at h
  split at h
  ·grind
  ·rename_i hn;by_cases hj:j=i
   ·grind[yN]
   ·exact ih (i+1) omQ h j omQ h2
theorem U1 (h:(xO l).2=0):Fit l:=by
 have hg:=NK h;obtain⟨a,b⟩:=qvn l.length 0 (st':=[]) omQ hg;unfold xO at h
 split at h
 ·grind
 ·rename_i h0;rw[hg]at h;dsimp only at h;rw[iJ rfl]at h
  exact⟨by omega,by omega,λj hj=>a j (Nat.zero_le _) hj,b,λj hj=>by
   have:=OR (l:=l) l.length 0 omQ j omQ;rw[Nat.zero_add]at this
   trivial,λj hj=>qqE l.length 0 omQ h j (Nat.zero_le _) hj⟩
def FA (i:Nat) (st:List Int):Prop:=cL i st∧st.Pairwise (· < ·)
theorem VI:∀i,FA i (qE l i):=by
 intro i
 induction i with
 |zero=>exact⟨cL.nil,List.Pairwise.nil⟩
 |succ i ih=>
  refine⟨ih.1.behind,?_⟩;rw[jU];have hd:(qE l i).dropLast.Pairwise (· < ·):=ih.2.sublist (List.dropLast_sublist _);have hp:∀st:List Int,cL i st→st.Pairwise (· < ·)→(st++[(i:Int)]).Pairwise (· < ·):=by intro st h1 h2;rw[List.pairwise_append];refine⟨h2,List.pairwise_singleton ..,λa ha b hb=>?_⟩;rw[List.mem_singleton]at hb;subst hb;exact(h1 a ha).2
  unfold jE
  repeat' split
  ·exact hp _ ih.1.dropLast hd
  ·exact hp _ ih.1 ih.2
  ·grind
  ·exact ih.2
theorem Zq:∀(i k p:Nat),(qE l i)[k]? =some (p:Int)→qE l (p+1)=(qE l i).take (k+1):=by
 intro i
 induction i with
 |zero=>nofun
 |succ i ih=>
  intro k p h;have key:∀st:List Int,(∀k p:Nat,st[k]? =some (p:Int)→qE l (p+1)=st.take (k+1))→qE l (i+1)=st++[(i:Int)]→qE l (p+1)=(qE l (i+1)).take (k+1):=by
   grind
  have AW:∀k p:Nat,(qE l i).dropLast[k]? =some (p:Int)→qE l (p+1)=(qE l i).dropLast.take (k+1):=by
   intro k p h;have nG:k+1≤(qE l i).length-1:=by grind
   have h2:(qE l i)[k]? =some (p:Int):=by
    grind
   rw[ih k p h2,List.dropLast_eq_take,List.take_take,Nat.min_eq_left nG]
  by_cases hb:xf (qO l i).1=true∨(qO l i).1=18
  ·by_cases he:0<zA (qO l i).1
   ·exact key _ AW (by simp_all[jU,jE])
   ·exact key _ ih (by rw[jU];simp_all[jE,iQ])
  grind[zA,qO,qE,jU,jE]
theorem gF (h:qE l i≠[]):∃p:Nat,jq (qE l i)=p∧p<i∧(qE l i)[(qE l i).length-1]? =some (p:Int)∧qE l (p+1)=qE l i:=by
 have hb:=(VI (l:=l) i).1.eP h;obtain⟨p,hp⟩:∃p:Nat,jq (qE l i)=p:=⟨(jq (qE l i)).toNat,by omega⟩;have hl:0<(qE l i).length:=List.length_pos_iff.2 h;have hk:(qE l i)[(qE l i).length-1]? =some (p:Int):=by rw[← hp];unfold jq;grind
 refine⟨p,hp,by omega,hk,?_⟩;rw[Zq i _ p hk,List.take_of_length_le omQ]
theorem qke (h:jq (qE l i)=jq (qE l j)):qE l i=qE l j:=by
 by_cases hi:qE l i=[]
 ·grind[qE,gF,KW]
 ·obtain⟨p,h1,_,_,h2⟩:=gF hi;by_cases hj:qE l j=[]
  all_goals grind[KW,gF]
def nT (l:List qR) (A:List Int):Nat→List Int
 | 0=>List.replicate l.length (-1)
 |i+1=>if 0<zA (qO l i).1 then(nT l A i).set (qg A i).toNat i else nT l A i
def lM (l:List qR) (A:List Int):Nat→List Int
 | 0=>nT l A l.length
 |i+1=>if(qO l i).1=16 then(lM l A i).set i (qg (lM l A i) (qg A i))else lM l A i
def qU (l:List qR):List Int:=lM l (gr l 0 []) l.length
theorem jXr:nT l A (i+1)=if 0<zA (qO l i).1 then(nT l A i).set (qg A i).toNat i else nT l A i:=rfl
theorem Su:lM l A (i+1)=if(qO l i).1=16 then(lM l A i).set i (qg (lM l A i) (qg A i))else lM l A i:=rfl
theorem Sv:∀i,(nT l A i).length=l.length:=by
 intro i
 induction i with
 |zero=>simp[nT]
 |succ i ih=>grind[jXr]
theorem Sw:∀i,(lM l A i).length=l.length:=by
 intro i
 induction i with
 |zero=>exact Sv _
 |succ i ih=>grind[Su]
theorem qjb (l:List qR):(qU l).length=l.length:=Sw _
theorem kH (F:Fit l) (h:j<l.length):qg (gr l 0 []) (j:Int)=jq (qE l j):=by unfold qg;rw[Int.toNat_natCast,F.tZ j h];rfl
theorem qw9 {p:Nat}:∀(d i:Nat),p<i→(p:Int)∉qE l i→(p:Int)∉qE l (i+d):=by
 intro d
 induction d with
 |zero=>simp
 |succ d ih=>
  intro i hp h;have h2:=ih i hp h;rw[show i+(d+1)=i+d+1 by rfl,jU];have hd:(p:Int)∉(qE l (i+d)).dropLast:=λhm=>h2 ((List.dropLast_sublist _).subset hm);unfold jE
  grind
theorem VS (h:st.Pairwise (· < ·)) (hn:st≠[]) (hp:jq st=p):p∉st.dropLast:=by
 have e:st=st.dropLast++[p]:=by grind[List.dropLast_concat_getLast,jq,List.getLast?_eq_some_getLast]
 rw[e,List.pairwise_append]at h;grind[List.mem_singleton_self]
theorem qgI {p:Nat} (he:0<zA (qO l j).1) (hn:qE l j≠[]) (hp:jq (qE l j)=p):(p:Int)∉qE l (j+1):=by
 have h1:=VS (VI (l:=l) j).2 hn hp;have h2:=(VI (l:=l) j).1.eP hn;rw[jU];unfold jE;grind
theorem y9 {x:qR} (h:xW l st x=0):wq x=true∧(0<zA x.1→cU l st=zA x.1)∧(x.1=16→cU l st=14)∧(xf x.1=true→st.length<5):=by
 unfold xW at h;grind
theorem Ni {p:Nat} (hn:qE l i≠[]) (hp:jq (qE l i)=p):cU l (qE l i)=(qO l p).1:=by simp_all[cU]
theorem Vu (F:Fit l) {p:Nat} (hp:p<l.length) (ho:(qO l p).1=14∨(qO l p).1=17∨(qO l p).1=18) :
  ∃e:Nat,p<e∧e<l.length∧zA (qO l e).1=(qO l p).1∧qE l e≠[]∧jq (qE l e)=p∧
   ∀j,j<l.length→0<zA (qO l j).1→jq (qE l j)=p→j=e:=by
 have dY:(p:Int)∈qE l (p+1):=by rw[jU];unfold jE;rw[iJ (by grind[xf])];simp
 have key:∀d i,p<i→i+d=l.length→(p:Int)∈qE l i→∃e,i≤e∧e<l.length∧(p:Int)∈qE l e∧(p:Int)∉qE l (e+1):=by
  intro d
  induction d with
  |zero=>
   intro i _ hi hm;obtain rfl:i=l.length:=by omega
   rw[F.nil]at hm;grind
  |succ d ih=>
   grind
 obtain⟨e,h1,h2,h3,h4⟩:=key (l.length-(p+1)) (p+1) omQ omQ dY;have bJ:qE l e≠[]:=λh=>by grind
 have oS:0<zA (qO l e).1:=by
  apply Classical.not_not.1;intro hn;apply h4;rw[jU];unfold jE;grind
 have FB:jq (qE l e)=p:=by
  apply Classical.not_not.1;intro hn;apply h4;have hd:(p:Int)∈(qE l e).dropLast:=by
   have hd:=List.dropLast_concat_getLast bJ;rw[← hd]at h3;rcases List.mem_append.1 h3 with h |h
   all_goals grind[List.mem_singleton,jq,List.getLast?_eq_some_getLast]
  rw[jU];unfold jE;grind
 have hw:=(y9 (F.ok e h2)).2.1 oS;rw[Ni bJ FB]at hw;refine⟨e,by omega,h2,hw.symm,bJ,FB,λj hj AY hjp=>?_⟩;have Dk:qE l j≠[]:=(x9 (F.ok j hj)).2.1 (.inl AY);have hpj:p<j:=by have:=(VI j).1.eP Dk;omega
 rcases Nat.lt_trichotomy j e with h |h |h
 ·exfalso;have:=qw9 (e-(j+1)) (j+1) omQ (qgI AY Dk hjp);grind
 ·grind
 ·exfalso;have h5:=qw9 (l:=l) (j-(e+1)) (e+1) omQ h4;grind[jq,List.getLast?_eq_some_getLast,List.getLast_mem]
theorem qgP (F:Fit l) {p e:Nat} (hp:p<l.length) (he:e<l.length) (hee:0<zA (qO l e).1) (hi:jq (qE l e)=p)
  (hu:∀j,j<l.length→0<zA (qO l j).1→jq (qE l j)=p→j=e):∀i,e<i→i≤l.length→(nT l (gr l 0 []) i)[p]? =some (e:Int):=by
 intro i
 induction i with
 |zero=>simp
 |succ i ih=>
  intro h1 h2;rw[jXr];by_cases Lo:i=e
  ·subst Lo;simp_all[kH,Int.toNat_natCast,Sv]
  ·split
   ·rename_i hx;rw[kH F omQ,List.getElem?_set_ne]
    ·grind
    ·intro hh;have Dk:qE l i≠[]:=(x9 (F.ok i omQ)).2.1 (.inl hx);have:=(VI i).1.eP Dk;grind
   grind
theorem qyE (_:Fit l) {p:Nat} (hp:(qO l p).1≠16):∀i,(lM l (gr l 0 []) i)[p]? =(nT l (gr l 0 []) l.length)[p]?:=by
 intro i
 induction i with
 |zero=>rfl
 |succ i ih=>
  rw[Su]
  grind
theorem qkb (F:Fit l) (hu:u<l.length) (ho:(qO l u).1=16):∀i,u<i→(lM l (gr l 0 []) i)[u]? =some (qg (lM l (gr l 0 []) u) (jq (qE l u))):=by
 intro i
 induction i with
 |zero=>simp
 |succ i ih=>
  intro h;rw[Su];by_cases hi:i=u
  ·simp_all[Sw,kH]
  grind
theorem wU (F:Fit l) {p:Nat} (hp:p<l.length) (ho:(qO l p).1=14∨(qO l p).1=17∨(qO l p).1=18) :
  ∃e:Nat,qg (qU l) (p:Int)=e∧p<e∧e<l.length∧zA (qO l e).1=(qO l p).1∧qE l e=qE l (p+1):=by
 obtain⟨e,h1,h2,h3,h4,h5,h6⟩:=Vu F hp ho;refine⟨e,?_,h1,h2,h3,?_⟩
 ·unfold qg qU;rw[Int.toNat_natCast,qyE F (by grind),qgP F hp h2 (by grind) h5 h6 l.length h2 (Nat.le_refl _)];rfl
 grind[gF]
theorem Jx (F:Fit l) (hu:u<l.length) (ho:(qO l u).1=16) :
  ∃e:Nat,qg (qU l) (u:Int)=e∧e<l.length∧(qO l e).1=15∧qE l e=qE l u∧qE l u≠[]:=by
 have hn:qE l u≠[]:=(x9 (F.ok u hu)).2.1 (.inr ho);obtain⟨q,g1,g2,_,g3⟩:=gF hn;have hw:=(y9 (F.ok u hu)).2.2.1 ho;rw[Ni hn g1]at hw;obtain⟨e,h1,h2,h3,h4,h5,h6⟩:=Vu F omQ (.inl hw);have e0:qg (lM l (gr l 0 []) u) (q:Int)=e:=by unfold qg;rw[Int.toNat_natCast,qyE F (by grind),qgP F omQ h2 (by grind) h5 h6 l.length h2 (Nat.le_refl _)];rfl
 refine⟨e,?_,h2,?_,?_,hn⟩
 ·grind[qU,qg,Int.toNat_natCast,qkb]
 ·rw[hw]at h3;unfold zA at h3
  grind
 grind[gF]
end
section
structure X7 (M M':VM):Prop where
  sz:M'.sz=M.sz
  K:M'.K=M.K
  most:M'.most=M.most
  len:M'.lv.length=M.lv.length
def YJ (M M':VM):Prop:=M'.lv=M.lv∧1≤M'.aC∧M'.aC<M.sz∧zk M'.aC M.K=none
theorem X7.refl (M:VM):X7 M M:=⟨rfl,rfl,rfl,rfl⟩
theorem X7.trans {M N Q:VM} (a:X7 M N) (b:X7 N Q):X7 M Q:=⟨b.sz.trans a.sz,b.K.trans a.K,b.most.trans a.most,b.len.trans a.len⟩
theorem x8 (M:VM) (p:Int):X7 M (qs M p).2:=by
 unfold qs
 repeat' split
 all_goals exact⟨rfl,rfl,rfl,rfl⟩
theorem Q6 (h:(qs M p).1.2=11):YJ M (qs M p).2:=by
 unfold qs at h ⊢
 split
 ·rename_i h1;rw[iJ h1]at h
  split
  ·grind
  ·rename_i h2;rw[h2]at h;dsimp only at h ⊢
   split
   ·grind
   ·rename_i h3;exact⟨rfl,h1.1,h1.2,h3⟩
 grind
theorem jZd {v:Int}:(wM most lv p v).1=0∨(wM most lv p v).1=2∨(wM most lv p v).1=5:=by
 unfold wM
 grind
theorem qzF:∀{cs:List Cl} {lv:List bM},(wV most aw lv cs).1=0∨(wV most aw lv cs).1=2∨(wV most aw lv cs).1=5:=by
 intro cs
 induction cs with
 |nil=>intro lv;exact .inl rfl
 |cons c cs ih=>
  grind[wP,jZd]
theorem qxo:(zf M cs).1=0∨(zf M cs).1=2∨(zf M cs).1=5:=by
 unfold zf
 split
 ·exact qzF
 simp
theorem UV (h:(zf M cs).1=11):False:=by grind[qxo]
theorem wT (O:dT M):X7 M (zf M cs).2:=by
 unfold zf
 split
 ·exact⟨rfl,rfl,rfl,(qZm O.lm O.lm rfl).2⟩
 ·exact .refl M
theorem qZM (M:VM) (b:Int):X7 M (zH M b).2:=by
 unfold zH
 repeat' split
 all_goals first |exact .refl M |simp[x8]
theorem qXr (h:(zH M b).1.2.2=11):YJ M (zH M b).2:=by
 unfold zH at h ⊢
 split
 ·grind
 ·rename_i h1;rw[iQ h1]at h
  split
  ·grind
  simp_all[Q6]
theorem rB:(YN lv b).length=lv.length:=by cases lv<;>rfl
theorem qq4 (O:dT M):X7 M (wZ M b).2:=by
 have ha:=qZM M b;unfold wZ
 repeat' split
 ·have ht:=ha.trans (wT (cs:=[(b-1,(zH M b).1.1)]) (GY (b:=b) O));exact⟨ht.sz,ht.K,ht.most,rB.trans ht.len⟩
 ·exact ha.trans (wT (GY O))
 all_goals grind
theorem qqO (h:(wZ M b).1=11):YJ M (wZ M b).2:=by
 unfold wZ at h ⊢
 split
 ·rename_i h1;rw[iJ h1]at h
  split
  ·rename_i h2;rw[iJ h2]at h
   split
   ·grind
   ·rename_i h3;rw[iQ h3]at h;grind[UV]
  grind
 simp_all[qXr]
theorem qVP (O:dT M):X7 M (yl M c b).2:=by
 unfold yl
 repeat' split
 ·exact .refl M
 ·exact(x8 M _).trans (wT (yT O))
 ·exact(x8 M _).trans (wT (yT O))
 simp[x8]
theorem qGC (h:(yl M c b).1.2=11):YJ M (yl M c b).2:=by
 unfold yl at h ⊢
 split
 ·grind
 ·rename_i h1;rw[iQ h1]at h
  split
  ·rename_i h2;rw[iJ h2]at h
   split
   ·grind
   ·rename_i h3;rw[iQ h3]at h;grind[UV]
  simp_all[Q6]
theorem qK2 (O:dT M):X7 M (yf M c).2:=by
 unfold yf
 repeat' split
 ·simp[x8]
 ·exact(x8 M _).trans (wT (yT O))
 ·exact(x8 M _).trans (wT (yT O))
 simp[x8]
theorem qV2 (h:(yf M c).1.2=11):YJ M (yf M c).2:=by
 unfold yf at h ⊢
 split
 ·rename_i h1;rw[iJ h1]at h
  split
  ·grind
  ·rename_i h2;rw[iQ h2]at h
   split
   ·grind
   ·rename_i h3;rw[iQ h3]at h;grind[UV]
 simp_all[Q6]
theorem Ng (O:dT M):X7 M (xP M x).2:=by
 unfold xP
 repeat' split
 ·exact .refl M
 ·exact(x8 M _).trans (qK2 (yT O))
 ·exact(x8 M _).trans (qVP (yT O))
 simp[x8]
theorem qVH (h:(xP M x).1.2=11):YJ M (xP M x).2:=by
 unfold xP at h ⊢
 split
 ·grind
 ·rename_i h1;rw[iQ h1]at h
  split
  ·rename_i h2;rw[iJ h2]at h;have e:=VQ h2
   split
   all_goals simp_all[qV2,qGC]
  simp_all[Q6]
theorem qW5 (W:pJ M) (h:(xP M x).1.2=0):0≤(xP M x).1.1∧(xP M x).1.1≤2147483648:=by
 unfold xP at h ⊢
 split
 ·simp
 ·rename_i h1;rw[iQ h1]at h
  split
  ·rename_i h2;rw[iJ h2]at h;have hr:=W.read (p:=yg x)
   split
   ·rename_i h3;rw[iJ h3]at h;unfold yf at h ⊢
    grind
   ·rename_i h3;rw[iQ h3]at h;unfold yl at h ⊢
    grind
  simp
structure Xu (r:List Int):Prop where
  len:r.length=8
  bd:∀z∈r,0≤z∧z<18446744073709551616
theorem Xu.at {r:List Int} (h:Xu r) (i:Int):0≤qg r i∧qg r i<18446744073709551616:=by
 unfold qg;cases hi:r[i.toNat]? with
 |none=>simp
 |some z=>exact h.bd z (List.mem_of_getElem? hi)
theorem Xu.set {r:List Int} {i v:Int} (h:Xu r) (hv:0≤v∧v<18446744073709551616):Xu (r.set i.toNat v) :=
 ⟨by rw[List.length_set];exact h.len,λz hz=>by
  rcases List.mem_or_eq_of_mem_set hz with hz |rfl
  ·exact h.bd z hz
  grind⟩
structure uV (l:List qR) (p:eZ):Prop where
  az:Xu p.az
  pc:∃k:Nat,p.pc=k∧k<l.length
  op:(p.op=14∨p.op=17∨p.op=18)∧(qO l p.pc).1=p.op
def dA:Nat→List eZ→Prop
 |_,[]=>True
 |n,p::r=>p.told≤n∧dA p.told r
theorem dA.mono:∀{o:List eZ} {n n':Nat},n≤n'→dA n o→dA n' o:=by
 intro o;cases o with
 |nil=>intro _ _ _ _;trivial
 |cons p r=>intro n n' h h2;exact⟨Nat.le_trans h2.1 h,h2.2⟩
structure GB (s:IM):Prop where
  az:Xu s.az
  out:s.out.length≤16
  its:∀x∈s.out,Fx x
structure GI (l:List qR) (s:IM) (V:VM):Prop where
  gb:GB s
  pc:∃k:Nat,s.pc=k∧k≤l.length
  nm:∀p∈s.aS,uV l p
  told:dA s.out.length s.aS
  iN:s.aS.map (·.pc)=(qE l s.pc.toNat).reverse
  lv:V.lv.length=s.aS.length+1
  aJ:zK V
theorem Lp (z:Int):0≤xy .u64 z∧xy .u64 z<18446744073709551616:=by
  cases z with
  | ofNat a => show (0 : Int) ≤ Int.ofNat (a % 18446744073709551616) ∧ Int.ofNat (a % 18446744073709551616) < 18446744073709551616
               grind
  | negSucc a => show (0 : Int) ≤ Int.ofNat (18446744073709551615 - a % 18446744073709551616) ∧ Int.ofNat (18446744073709551615 - a % 18446744073709551616) < 18446744073709551616
                 grind
theorem qWT (p:Prop) [Decidable p]:0≤G0 p∧G0 p<18446744073709551616:=by grind[G0]
theorem GB.di {s:IM} {i v:Int} (h:GB s) (hv:0≤v∧v<18446744073709551616):GB (di s i v):=⟨h.az.set hv,h.out,h.its⟩
structure Kd (l:List qR) (s:IM) (V:VM) (r:SM):Prop where
  gb:GB r.s
  aJ:zK r.v
  fr:bX r.v.lv≤bX V.lv+1
  sz:r.v.sz=V.sz
  K:r.v.K=V.K
  most:r.v.most=V.most
  next:r.e=0→r.bG=false→GI l { r.s with pc:=r.nx } r.v
  aC:r.e=11→r.s=s∧YJ V r.v
  bl:r.bG=true→r.e=0
theorem qV1 (h1:xf (qO l i).1=false) (h2:(qO l i).1≠18) (h3:zA (qO l i).1=0):qE l (i+1)=qE l i:=by simp_all[jU,jE,omQ]
theorem GI.plain {s s':IM} {V':VM} (G:GI l s V) (hi:s.pc=i) (ax:i<l.length) (h1:xf (qO l i).1=false) (h2:(qO l i).1≠18) (h3:zA (qO l i).1=0)
  (gb:GB s') (ho:s'.aS=s.aS) (hl:s.out.length≤s'.out.length) (hv:V'.lv.length=V.lv.length) (hg:zK V'):GI l { s' with pc:=s.pc+1 } V':=by
 refine⟨⟨gb.az,gb.out,gb.its⟩,⟨i+1,by grind,by omega⟩,by rw[ho];exact G.nm,by rw[ho];exact G.told.mono hl,?_,by rw[ho,hv];exact G.lv,hg⟩;rw[ho,hi,show((i:Int)+1).toNat=i+1 by rfl,qV1 h1 h2 h3,G.iN,hi,Int.toNat_natCast]
theorem Nn {s:IM} {p:Nat} (gb:GB s) (hp:p<l.length) (ho:(op=14∨op=17∨op=18)∧(qO l (p:Int)).1=op) (nm:∀p∈s.aS,uV l p) (told:dA s.out.length s.aS)
  (cd:s.aS.map (·.pc)=st.reverse) (IX:qE l (p+1)=st++[(p:Int)]) (lv:V.lv.length=s.aS.length+1) (hd:s.aS.length<5) (G:zK V) :
  (zo op p ((p:Int)+1) s V).e=0∧(zo op p ((p:Int)+1) s V).bG=false∧(zo op p ((p:Int)+1) s V).nx=(p:Int)+1∧GI l { (zo op p ((p:Int)+1) s V).s with pc:=(p:Int)+1 } (zo op p ((p:Int)+1) s V).v∧
   (zo op p ((p:Int)+1) s V).v=(gG V).2:=by
 have h0:(gG V).1=0∧(gG V).2.lv=([],[])::V.lv:=by unfold gG JF;grind
 unfold zo;rw[iJ h0.1];refine⟨rfl,rfl,rfl,⟨⟨gb.az,gb.out,gb.its⟩,⟨p+1,rfl,by omega⟩,?_,⟨Nat.le_refl _,told⟩,?_,?_,G.tg.1⟩,rfl⟩
 ·intro q hq;rcases List.mem_cons.1 hq with rfl |hq
  ·exact⟨gb.az,⟨p,rfl,hp⟩,ho⟩
  grind
 all_goals grind
theorem O1 (h:2≤V.lv.length):(yA V).1=0∧(yA V).2.lv=V.lv.tail:=by unfold yA JE;grind
theorem OP (h:2≤V.lv.length):(gi V).1=0∧(gi V).2.lv.length+1=V.lv.length:=by
 unfold gi
 match hl:V.lv,h with
 |[],h=>grind
 |[x],h=>grind
 |x::y::r,_=>trivial
theorem dA.tail {p:eZ} {o:List eZ} (h:dA n (p::o)):dA n o:=h.2.mono h.1
theorem Kd.plain {l:List qR} {s s':IM} {V V':VM} {i:Nat} {e:Int} (G:GI l s V) (hi:s.pc=i) (ax:i<l.length) (h1:xf (qO l i).1=false) (h2:(qO l i).1≠18) (h3:zA (qO l i).1=0)
  (gb:GB s') (ho:s'.aS=s.aS) (hl:s.out.length≤s'.out.length) (hk:X7 V V') (hg:zK V') (hf:bX V'.lv≤bX V.lv+1) (hn:e=11→s'=s∧YJ V V'):Kd l s V ⟨e,s.pc+1,false,s',V'⟩ :=
 ⟨gb,hg,hf,hk.sz,hk.K,hk.most,λ_ _=>G.plain hi ax h1 h2 h3 gb ho hl hk.len hg,hn,λh=>(by grind)⟩
theorem qK7 (F:Fit l) (ax:i<l.length) (ho:(qO l i).1=12∨(qO l i).1=13):∃c:Nat,(qO l i).2.2.2.1=c∧c≤l.length∧qE l c=qE l i:=by
 have hm:=(y9 (F.ok i ax)).1;have hj:=F.jump i ax;generalize qO l i=x at*;have hc:0≤x.2.2.2.1∧x.2.2.2.1≤40:=by
  unfold wq zJ wW at hm;grind
 obtain⟨c,dS⟩:∃c:Nat,x.2.2.2.1=c:=⟨x.2.2.2.1.toNat,by omega⟩;refine⟨c,dS,?_⟩;unfold YE at hj;rw[dS]at hj;have hle:c≤l.length:=by
  grind
 refine⟨hle,?_⟩;by_cases he:c=l.length
 ·subst he;rw[F.nil];have:qg (gr l 0 []) (i:Int)= -1:=Classical.not_not.1 λh=>hj ⟨ho,.inr (.inl ⟨rfl,h⟩)⟩;rw[kH F ax]at this
  exact(Classical.not_not.1 λh=>by
   have:=(VI i).1.eP (λh'=>h h'.symm)
   omega:[]=qE l i)
 ·have:qg (gr l 0 []) (c:Int)=qg (gr l 0 []) (i:Int):=Classical.not_not.1 λh=>hj ⟨ho,.inr (.inr ⟨by omega,h⟩)⟩;rw[kH F ax,kH F omQ]at this;grind[qke]
theorem Md (F:Fit l):∀i,i≤l.length→(qE l i).length≤5:=by
 intro i
 induction i with
 |zero=>simp[qE]
 |succ i ih=>
  intro h;have hw:=y9 (F.ok i omQ);rw[jU];unfold jE
  repeat' split
  ·grind
  ·rename_i hb he;rcases hb with hb |hb
   ·grind
   ·exact absurd (by rw[hb];decide) he
  all_goals grind
theorem Yz {o:List eZ} {p:eZ} (h:(p::o).map (·.pc)=st.reverse):st=st.dropLast++[p.pc]∧o.map (·.pc)=st.dropLast.reverse:=by
 have e:st=o.reverse.map (·.pc)++[p.pc]:=by have:=congrArg List.reverse h;rw[List.reverse_reverse]at this;rw[← this,List.map_cons,List.reverse_cons,List.map_reverse]
 grind
def tj (l:List qR) (st:List Int):Prop:=∀k p:Nat,st[k]? =some (p:Int)→qE l (p+1)=st.take (k+1)
theorem tj.dropLast {l:List qR} {st:List Int} (h:tj l st):tj l st.dropLast:=by
 intro k p hk;have h2:k+1≤st.length-1:=by grind
 rw[List.getElem?_dropLast]at hk
 split at hk
 ·rw[h k p hk,List.dropLast_eq_take,List.take_take,Nat.min_eq_left h2]
 grind
theorem GB.back {s:IM} {p:eZ} (g:GB s) (h:uV l p):GB (Jp s p):=⟨h.az,by
 show(s.out.take p.told).length≤16;have:=g.out
 grind,λx hx=>g.its x (List.mem_of_mem_take hx)⟩
theorem qyN (hp:tj l st) {o:List eZ} {p:eZ} {q:Nat} (h:(p::o).map (·.pc)=st.reverse) (hq:p.pc=q):qE l (q+1)=st:=by
 have e:=(Yz h).1;have hl:st.length=st.dropLast.length+1:=by grind
 have:=hp st.dropLast.length q (by grind);grind
theorem qVS (F:Fit l) {s0:IM} {V0:VM}:∀(o:List eZ) (s:IM) (V:VM) (st:List Int),tj l st→o.map (·.pc)=st.reverse→GB s→(∀p∈o,uV l p)→dA s.out.length o→V.lv.length=o.length+1→zK V→
  bX V.lv≤bX V0.lv→V.sz=V0.sz→V.K=V0.K→V.most=V0.most→Kd l s0 V0 (vt (qU l) o s V):=by
 intro o
 induction o with
 |nil=>intro s V st hp hm gb _ _ uW G hf h1 h2 h3;exact⟨⟨gb.az,gb.out,gb.its⟩,G,by show bX V.lv≤_;omega,h1,h2,h3,λ_ h=>(by cases h),λh=>(by cases h),λ_=>rfl⟩
 |cons p o ih=>
  intro s V st hp hm gb nm told uW G hf h1 h2 h3;have hd:=O1 (V:=V) (by grind);have FC:=G.dU;have FD:(yA V).2.lv.length=o.length+1:=by grind
  have mD:=Yz hm;unfold vt;rw[iJ hd.1]
  split
  ·rename_i lD;have P:=nm p (iK ..);obtain⟨q,hq,Sx⟩:=P.pc;have hqo:(qO l (q:Int)).1=17:=by rw[← hq,P.op.2,lD]
   obtain⟨e,e1,e2,e3,e4,e5⟩:=wU F Sx (.inr (.inl hqo));have cd:=qyN hp hm hq;have Dl:(qO l (e:Int)).1=18:=by
    grind[zA]
   have FE:qE l (e+1)=st.dropLast++[(e:Int)]:=by rw[jU,e5,cd];unfold jE;grind
   have h5:=Md F e omQ;rw[e5,cd]at h5;have hl5:st.length=st.dropLast.length+1:=by grind
   have eu:o.length=st.dropLast.length:=by have:=congrArg List.length mD.2;grind
   have AZ:GB { Jp s p with aS:=o }:=⟨(gb.back P).az,(gb.back P).out,(gb.back P).its⟩;have FF:dA (s.out.take p.told).length o:=by rw[List.length_take,Nat.min_eq_left told.1];exact told.2
   have key:=Nn (l:=l) (s:={ Jp s p with aS:=o }) (V:=(yA V).2) (op:=18) (p:=e) (st:=st.dropLast) AZ e3 ⟨.inr (.inr rfl),Dl⟩ (λr hr=>nm r (iX _ hr)) FF mD.2 FE FD (by grind) FC.1;rw[hq,e1];obtain⟨k1,k2,k3,k4,k5⟩:=key;have Sy:=FC.1.tg;refine⟨k4.gb |> λg=>⟨g.az,g.out,g.its⟩,k4.aJ,?_,?_,?_,?_,λ_ _=>?_,λh=>(by grind),λh=>(by grind)⟩
   ·grind
   ·rw[k5];exact h1
   ·rw[k5];exact h2
   ·rw[k5];exact h3
   grind
  ·exact ih s (yA V).2 st.dropLast hp.dropLast mD.2 gb (λr hr=>nm r (iX _ hr)) told.tail FD FC.1 (by grind) h1 h2 h3
theorem qGH {s:IM} {x:qR} (G:GI l s V) (hf:bX V.lv<10000) :
  GB (zq s V x).2.1∧(zq s V x).2.1.aS=s.aS∧(zq s V x).2.1.out=s.out∧(zq s V x).2.1.pc=s.pc∧X7 V (zq s V x).2.2∧zK (zq s V x).2.2∧bX (zq s V x).2.2.lv≤bX V.lv+1∧
   ((zq s V x).1=11→(zq s V x).2.1=s∧YJ V (zq s V x).2.2):=by
 have gb:=G.gb;have aJ:=G.aJ;have hr:=λi=>gb.az.at i;have same:∀e:Int,e≠11→GB s∧s.aS=s.aS∧s.out=s.out∧s.pc=s.pc∧X7 V V∧zK V∧bX V.lv≤bX V.lv+1∧(e=11→s=s∧YJ V V) :=
  λe he=>⟨gb,rfl,rfl,rfl,.refl V,aJ,by omega,λh=>absurd h he⟩
 unfold zq
 split
 ·split
  ·split
   ·refine⟨gb.di ?_,rfl,rfl,rfl,x8 V _,aJ.read,by simp[yU],λh=>by grind⟩;exact aJ.wd.read
   ·exact⟨gb,rfl,rfl,rfl,x8 V _,aJ.read,by simp[yU],λh=>⟨rfl,Q6 h⟩⟩
  ·exact same 2 omQ
 ·split
  ·split
   ·exact⟨gb,rfl,rfl,rfl,wT aJ.ok,aJ.take (lp.Fw (hr _)),by simp[kj],λh=>(UV h).elim⟩
   ·exact same 2 omQ
  ·split
   ·split
    ·exact same 3 omQ
    ·split
     ·rename_i h0;have hb:=qW5 (x:=qg s.az x.2.2.1) aJ.wd h0;exact⟨gb.di omQ,rfl,rfl,rfl,Ng aJ.ok,(aJ.alloc).1,by rw[(aJ.alloc).2];omega,λh=>by grind⟩
     ·exact⟨gb,rfl,rfl,rfl,Ng aJ.ok,(aJ.alloc).1,by rw[(aJ.alloc).2];omega,λh=>⟨rfl,qVH h⟩⟩
   ·split
    ·exact same 2 omQ
    ·exact⟨gb,rfl,rfl,rfl,qq4 aJ.ok,(aJ.free omQ).1,(aJ.free omQ).2,λh=>⟨rfl,qqO h⟩⟩
theorem V3 {s:IM} (G:GI l s V):s.aS.length=(qE l s.pc.toNat).length:=by have:=congrArg List.length G.iN;grind
theorem UF (F:Fit l) {s:IM} (G:GI l s V) (hi:s.pc=i) (ax:i<l.length) (hf:bX V.lv<10000) (hN:0≤(qO l i).2.2.2.2∧(qO l i).2.2.2.2<18446744073709551616) (_:(qO l i).1≠23) :
  Kd l s V (cm (qU l) s V (qO l i)):=by
 have hw:=y9 (F.ok i ax);have Lq:=x9 (F.ok i ax);have lD:1≤(qO l i).1∧(qO l i).1≤23:=by simp_all[wq,Bool.and_eq_true,decide_eq_true_eq]
 have C1:xf (qO l i).1=decide ((qO l i).1=14∨(qO l i).1=17):=rfl;have oS:zA (qO l i).1=if(qO l i).1=15 then 14 else if(qO l i).1=18 then 17 else if(qO l i).1=19 then 18 else 0:=rfl
 have Sz:=λh=>qK7 F ax h;have fW:=G.iN;rw[hi,Int.toNat_natCast]at fW;have eu:=V3 G;rw[hi,Int.toNat_natCast]at eu;have hr:=λi=>G.gb.az.at i;have hmb:=λh=>wU F ax h;have hmu:=λh=>Jx F ax h;have SA:qE l (i+1)=jE (qE l i) i (qO l i).1:=jU;have plain:(qO l i).1≠14→(qO l i).1≠17→(qO l i).1≠15→(qO l i).1≠18→(qO l i).1≠19→xf (qO l i).1=false∧(qO l i).1≠18∧zA (qO l i).1=0:=by grind
 have keep:∀{s':IM} {V':VM} {e:Int},(qO l i).1≠14→(qO l i).1≠17→(qO l i).1≠15→(qO l i).1≠18→(qO l i).1≠19→GB s'→s'.aS=s.aS→s.out.length≤s'.out.length→X7 V V'→zK V'→bX V'.lv≤bX V.lv+1→
   (e=11→s'=s∧YJ V V')→Kd l s V ⟨e,s.pc+1,false,s',V'⟩:=λa b c d e gb ho hl hk hg hf hn=>
  Kd.plain G hi ax (plain a b c d e).1 (plain a b c d e).2.1 (plain a b c d e).2.2 gb ho hl hk hg hf hn
 generalize hxe:qO l i=x at*;obtain⟨iy,iO,oT,ie⟩:=s;dsimp only at hi fW eu hr keep ⊢;unfold cm;have tZ:∀v:Int,x.1≠14→x.1≠17→x.1≠15→x.1≠18→x.1≠19→0≤v∧v<18446744073709551616→Kd l ⟨iy,iO,oT,ie⟩ V ⟨0,oT+1,false,di ⟨iy,iO,oT,ie⟩ x.2.1 v,V⟩ :=
  λv a b c d e hv=>keep a b c d e (G.gb.di hv) rfl (Nat.le_refl _) (.refl V) G.aJ omQ λh=>by grind
 have jump:∀n:Int,(x.1=12∨x.1=13)→(n=x.2.2.2.1∨n=oT+1)→Kd l ⟨iy,iO,oT,ie⟩ V ⟨0,n,false,⟨iy,iO,oT,ie⟩,V⟩:=by
  intro n ho hn;rcases hn with rfl |rfl
  ·obtain⟨c,c1,c2,c3⟩:=Sz ho;refine⟨G.gb,G.aJ,Nat.le_succ _,rfl,rfl,rfl,λ_ _=>⟨⟨G.gb.az,G.gb.out,G.gb.its⟩,⟨c,c1,c2⟩,G.nm,G.told,?_,G.lv,G.aJ⟩,λh=>(by grind),λh=>(by rfl)⟩;grind
  ·exact keep omQ omQ omQ omQ omQ G.gb rfl (Nat.le_refl _) (.refl V) G.aJ omQ λh=>by grind
 by_cases c1:x.1=1
 ·grind
 rw[iQ c1];by_cases c2:x.1=2
 ·grind
 rw[iQ c2];by_cases c3:x.1=3
 ·rw[iJ c3];exact tZ _ omQ omQ omQ omQ omQ (Lp _)
 rw[iQ c3];by_cases c4:x.1=4
 ·rw[iJ c4];exact tZ _ omQ omQ omQ omQ omQ (Lp _)
 rw[iQ c4];by_cases c5:x.1=5
 ·rw[iJ c5];exact tZ _ omQ omQ omQ omQ omQ (Lp _)
 rw[iQ c5];by_cases c6:x.1=6
 ·rw[iJ c6];exact tZ _ omQ omQ omQ omQ omQ (qWT _)
 rw[iQ c6];by_cases c7:x.1=7
 ·rw[iJ c7];exact tZ _ omQ omQ omQ omQ omQ (qWT _)
 rw[iQ c7];by_cases mE:x.1=12
 ·grind
 rw[iQ mE];by_cases mF:x.1=13
 ·grind
 rw[iQ mF];by_cases l9:x.1=21
 ·rw[iJ l9];have hk:∀e:Int,e≠11→Kd l ⟨iy,iO,oT,ie⟩ V ⟨e,oT+1,false,⟨iy,iO,oT,ie⟩,V⟩:=λe he=>
   keep omQ omQ omQ omQ omQ G.gb rfl (Nat.le_refl _) (.refl V) G.aJ (Nat.le_succ _) λh=>absurd h he
  by_cases hlen:16≤iO.length
  ·grind
  ·rw[iQ hlen];refine keep omQ omQ omQ omQ omQ ⟨G.gb.az,?_,?_⟩ rfl ?_ (.refl V) G.aJ (Nat.le_succ _) λh=>by grind
   ·grind
   ·intro y hy;rcases List.mem_append.1 hy with hy |hy
    ·exact G.gb.its y hy
    ·rw[List.mem_singleton]at hy;subst hy;exact hr _
   simp
 rw[iQ l9];by_cases mS:x.1=22
 ·rw[iJ mS];exact keep omQ omQ omQ omQ omQ G.gb rfl (Nat.le_refl _) (.refl V) G.aJ (Nat.le_succ _) λh=>by grind
 rw[iQ mS];by_cases c8:x.1=8∨x.1=9∨x.1=10∨x.1=11
 ·rw[iJ c8];obtain⟨t1,t2,t3,t4,t5,t6,t7,t8⟩:=qGH (x:=x) G hf;grind
 rw[iQ c8];unfold kg;by_cases h:x.1=14∨x.1=17
 ·rw[iJ h];subst hi;have hb:xf x.1=true:=by grind
  have he:¬0<zA x.1:=by grind
  have key:=Nn (l:=l) (s:=⟨iy,iO,(i:Int),ie⟩) (V:=V) (op:=x.1) (p:=i) (st:=qE l i) G.gb ax ⟨by omega,by grind⟩ G.nm G.told fW (by rw[SA];unfold jE;grind) G.lv (by grind) G.aJ;obtain⟨k1,k2,k3,k4,k5⟩:=key;have Sy:=G.aJ.tg;refine⟨k4.gb |> λg=>⟨g.az,g.out,g.its⟩,k4.aJ,?_,?_,?_,?_,λ_ _=>?_,λh=>(by grind),λh=>(by grind)⟩
  ·grind
  ·rw[k5];rfl
  ·rw[k5];rfl
  ·rw[k5];rfl
  grind
 rw[iQ h];clear h;by_cases h:x.1=15∨x.1=19
 ·rw[iJ h];have he:0<zA x.1:=by grind
  have bJ:=Lq.2.1 (.inl he)
  match ie,eu,fW,G with
  |[],eu,_,_=>grind
  |p::o,eu,fW,G=>
   have hk:=OP (V:=V) (by rw[G.lv];simp);have tn:=G.aJ.AU omQ;have uW:=G.lv
   refine⟨⟨G.gb.az,G.gb.out,G.gb.its⟩,tn.1,by grind,rfl,rfl,rfl,λ_ _=>⟨⟨G.gb.az,G.gb.out,G.gb.its⟩,⟨i+1,by grind,by omega⟩,λq hq=>G.nm q (iX _ hq),G.told.tail,?_,?_,tn.1⟩,λh0=>(by
    grind),λh=>(by grind)⟩
   ·show o.map _=(qE l (oT+1).toNat).reverse;rw[hi,show((i:Int)+1).toNat=i+1 by rfl,SA];unfold jE;grind
   grind
 rw[iQ h];clear h;by_cases h:x.1=18
 ·rw[iJ h];have he:0<zA x.1:=by grind
  have bJ:=Lq.2.1 (.inl he);obtain⟨e,e1,e2,e3,e4,e5⟩:=hmb (.inr (.inr h));have Dl:(qO l (e:Int)).1=19:=by
   grind[zA]
  match ie,eu,fW,G with
  |[],eu,_,_=>grind
  |p::o,eu,fW,G=>
   have hk:=OP (V:=V) (by rw[G.lv];simp);have tn:=G.aJ.AU omQ;have uW:=G.lv
   refine⟨⟨G.gb.az,G.gb.out,G.gb.its⟩,tn.1,by grind,rfl,rfl,rfl,λ_ _=>⟨⟨G.gb.az,G.gb.out,G.gb.its⟩,⟨e+1,by grind,by omega⟩,λq hq=>G.nm q (iX _ hq),G.told.tail,?_,?_,tn.1⟩,λh0=>(by
    grind),λh=>(by grind)⟩
   ·show o.map _=(qE l (qg (qU l) oT+1).toNat).reverse;rw[hi,e1,show((e:Int)+1).toNat=e+1 by rfl,jU,e5,SA];unfold jE;rw[iQ (by rw[Dl];decide),iJ (by grind),iJ (.inr h),iJ he,List.dropLast_concat];grind
   grind
 rw[iQ h];clear h;by_cases h:x.1=16
 ·rw[iJ h];obtain⟨e,e1,e2,e3,e4,bJ⟩:=hmu h
  match ie,eu,fW,G with
  |[],eu,_,_=>grind
  |p::o,eu,fW,G=>
   have hk:=O1 (V:=V) (by rw[G.lv];simp);have tn:=G.aJ.dU;have uW:=G.lv;have P:=G.nm p (iK ..);have told:=G.told;have AZ:=G.gb.back P
   refine⟨⟨AZ.az,AZ.out,AZ.its⟩,tn.1,by grind,rfl,rfl,rfl,λ_ _=>⟨⟨AZ.az,AZ.out,AZ.its⟩,⟨e+1,by grind,by omega⟩,λq hq=>G.nm q (iX _ hq),?_,?_,?_,tn.1⟩,λh0=>(by
    grind),λh=>(by grind)⟩
   ·show dA (iO.take p.told).length o;rw[List.length_take,Nat.min_eq_left told.1];exact told.2
   ·show o.map _=(qE l (qg (qU l) oT+1).toNat).reverse;rw[hi,e1,show((e:Int)+1).toNat=e+1 by rfl,jU,e4];unfold jE;rw[iQ (by rw[e3];decide),iJ (by rw[e3];decide)];grind
   grind
 ·rw[iQ h];exact qVS F ie _ V (qE l i) (Zq i) fW G.gb G.nm G.told G.lv G.aJ (Nat.le_refl _) rfl rfl rfl
end
section
variable {g h:AH} {L R:List SP}
theorem SB {b off sz:Nat} {k:IntKind} (ha:a<n) (w:wp (K (.ptr b (off+a*sz))) Q):wp (Jg (.ptr b off) (.int k (a:Int)) n sz K) Q:=by unfold Jg;show wp (bif Nat.ble (a+1) n then _ else none) Q;rw[iY (show a+1≤n from ha)];exact w
theorem SC (h0:0≤z):∃a:Nat,z.tmod ((8:Nat):Int)=a∧a<8∧(z<8→z=a):=by refine⟨(z%8).toNat,?_,by omega,λh=>by omega⟩;grind
def jXn (r:List Int):List AV:=[.int .u64 (qg r 0),.int .u64 (qg r 1),.int .u64 (qg r 2),.int .u64 (qg r 3),.int .u64 (qg r 4),.int .u64 (qg r 5),.int .u64 (qg r 6),.int .u64 (qg r 7)]
def x7 (p:eZ):List AV:=[.int .i64 p.op,.int .i64 p.pc,.int .u64 (qg p.az 0),.int .u64 (qg p.az 1),.int .u64 (qg p.az 2),.int .u64 (qg p.az 3),.int .u64 (qg p.az 4),.int .u64 (qg p.az 5),.int .u64 (qg p.az 6),.int .u64 (qg p.az 7),.int .i64 (p.told:Int)]
def wm (c mv ov:AV) (v o:Nat) (bad err fin left nx pc:Int) (r:List Int):List AV :=
 [c,.ptr v 0,mv,.int .i64 bad,.int .i64 err,.int .i64 fin,.int .u64 (qg r 0),.int .u64 (qg r 1),.int .u64 (qg r 2),.int .u64 (qg r 3),.int .u64 (qg r 4),.int .u64 (qg r 5),.int .u64 (qg r 6),.int .u64 (qg r 7),
  .ptr o 0,.int .i64 pc,.int .i64 nx,.int .i64 left,ov]
section
variable {c mv ov:AV} {bad err fin left nx pc:Int} {r:List Int}
theorem Kg (ha:a<8):(wm c mv ov v o bad err fin left nx pc r)[6+a*1]? =some (.int .u64 (qg r (a:Int))):=by
 rcases(show a=0∨a=1∨a=2∨a=3∨a=4∨a=5∨a=6∨a=7 by omega)with rfl |rfl |rfl |rfl |rfl |rfl |rfl |rfl<;>rfl
theorem qjB (hi:i<r.length):qg (r.set i z) (k:Int)=if i=k then z else qg r (k:Int):=by
 unfold qg;grind
theorem jXH (hr:r.length=8) (ha:a<8):(wm c mv ov v o bad err fin left nx pc r).set (6+a*1) (.int .u64 z)=wm c mv ov v o bad err fin left nx pc (r.set a z):=by have hs:=λk:Nat=>qjB (r:=r) (i:=a) (k:=k) (z:=z) omQ;have e0:=hs 0;have e1:=hs 1;have e2:=hs 2;have e3:=hs 3;have e4:=hs 4;have e5:=hs 5;have e6:=hs 6;have e7:=hs 7;simp only[show((0:Nat):Int)=0 from rfl,show((1:Nat):Int)=1 from rfl,show((2:Nat):Int)=2 from rfl,show((3:Nat):Int)=3 from rfl,show((4:Nat):Int)=4 from rfl,show((5:Nat):Int)=5 from rfl,show((6:Nat):Int)=6 from rfl,show((7:Nat):Int)=7 from rfl]at e0 e1 e2 e3 e4 e5 e6 e7;unfold wm;rw[e0,e1,e2,e3,e4,e5,e6,e7];rcases(show a=0∨a=1∨a=2∨a=3∨a=4∨a=5∨a=6∨a=7 by omega)with rfl |rfl |rfl |rfl |rfl |rfl |rfl |rfl<;>rfl
end
def aO (x v:Nat) (l:List qR) (bad:Int) (mt:List Int) (s:IM) (err fin left nx:Int):SP:=.ex λc=>.ex λmv=>.ex λov=>.ex λo=>.all
 [qk x (wm c mv ov v o bad err fin left nx s.pc s.az),aa 46 5 l.length c (l.flatMap jM),aa 3 1 mt.length mv (mt.map (.int .i64)),bL o s.out,aa 304 11 s.aS.length ov (s.aS.reverse.flatMap x7)]
section
variable {x:Nat} {bad:Int} {s:IM} {err fin left nx:Int}
theorem aO.E (H:HS g h (aO x v l bad mt s err fin left nx::R)):∃c mv ov o,HS g h (qk x (wm c mv ov v o bad err fin left nx s.pc s.az)::aa 46 5 l.length c (l.flatMap jM)::aa 3 1 mt.length mv (mt.map (.int .i64))::bL o s.out::
  aa 304 11 s.aS.length ov (s.aS.reverse.flatMap x7)::R):=by
 obtain⟨c,H⟩:=H.fh;obtain⟨mv,H⟩:=H.fh;obtain⟨ov,H⟩:=H.fh;obtain⟨o,H⟩:=H.fh;exact⟨c,mv,ov,o,H.cI⟩
theorem aO.I {c mv ov:AV} (H:HS g h (qk x (wm c mv ov v o bad err fin left nx s.pc s.az)::aa 46 5 l.length c (l.flatMap jM)::aa 3 1 mt.length mv (mt.map (.int .i64))::bL o s.out::
  aa 304 11 s.aS.length ov (s.aS.reverse.flatMap x7)::R)):HS g h (aO x v l bad mt s err fin left nx::R) :=
 HS.fH c (HS.fH mv (HS.fH ov (HS.fH o H.allI)))
theorem jZ7 (hn:1≤n) {l:List mC} (H:HS g h (bL o l::R)):aH n 303 [.ptr o 0] h λr h'=>r=.int .i64 (l.length:Int)∧h'=h:=by
 refine aG rfl omQ λk hk=>?_;unfold S303;try simp only
 obtain⟨sv,H⟩:=bL.E H;refine qG (qQ (qK ‹_› .here rfl ?_));refine qu ‹_› e_1<|qY ⟨rfl,rfl⟩
theorem jJF (hn:1≤n) {l:List mC} {x:mC} (H:HS g h (bL o l::R)) (hl:l.length≤16) :
  aH n 215 [.ptr o 0,Jn x] h λr h'=>r=.bool (decide (l.length<16))∧HS g h' (bL o (if l.length<16 then l++[x]else l)::R):=by
 refine bw rfl omQ λk hk=>?_;unfold S215;try simp only[iZ]
 obtain⟨sv,H⟩:=bL.E H;by_cases h1:l.length<16
 ·rw[iJ h1,iG h1];refine qG (qQ (qK ‹_› .here rfl ?_));refine qu ‹_› e_1<|z7 omQ<|qJ (qG (qQ (qK ‹_› .here rfl ?_)))
  refine qh H rfl rfl (by
   have e:=(Gg x).1
   simp only[vL,e,gH];rfl) (gw (Gg x)) λv2 h2 H2=>?_
  refine zX (H2.aM e_2) (H2.sl .here) omQ omQ (gw (Gg x)) λv3 h3 H3=>?_;have o3:=H3.one .here;refine qG (qQ (qw H3 e_2 o3 aW λh4 H4=>?_));refine qY ⟨rfl,bL.I (sv:=v3) ?_⟩;rw[List.length_append,List.map_append];exact H4.pk [0,0] 1
 ·rw[iQ h1,iV h1];refine qG (qQ (qK ‹_› .here rfl ?_));refine qu ‹_› e_1<|z8 omQ<|qZ<|qY ⟨rfl,bL.I H⟩
theorem qy9 (hn:2≤n) {l:List mC} {u:Int} (H:HS g h (bL o l::R)) (hl:l.length≤16) :
  aH n 195 [.ptr o 0,.int .u64 u] h λr h'=>r=.bool (decide (l.length<16))∧HS g h' (bL o (if l.length<16 then l++[(1,u)]else l)::R):=by
 refine bw rfl omQ λk hk=>?_;unfold S195;try simp only
 refine qW (jJF (x:=(1,u)) omQ H hl) ?_;rintro _ h2 ⟨rfl,H2⟩;exact qY ⟨rfl,H2⟩
theorem ZH (hn:1≤n) {v:AV} {xs:List AV} (H:HS g h L) (s:bp L (aa e 1 m v xs) R) (ha:qt xs=true) (hm:m≤1000000) :
  aH n 184 [v] h λr h'=>HS g h' (aa 20 1 m r xs::L):=by
 refine aG rfl omQ λk hk=>?_;unfold S184;try simp only
 refine K8 H s (λh1 h2=>?_) ?_
 ·subst h1 h2;have hx:xs=[]:=iA (by simpa using H.ed s);subst hx;exact qZ (qY H.ap)
 ·refine qJ (qh (l:=[]) H rfl rfl rfl rfl λv2 h2 H2=>?_);refine zX H2 (H2.sl (.there s)) omQ omQ ha λv3 h3 H3=>?_;rw[Nat.zero_add,List.nil_append]at H3;exact qY H3
theorem qx2 (hn:2≤n) {l:List mC} (H:HS g h (bL o l::R)) (hl:l.length≤16) :
  aH n 152 [.ptr o 0] h λr h'=>∃p,r=.ptr p 0∧HS g h' (bL p l::bL o l::R):=by
 refine aG rfl omQ λk hk=>?_;unfold S152;try simp only
 obtain⟨sv,H⟩:=bL.E H;refine qG (qQ (qK ‹_› .here rfl ?_));refine qW (ZH omQ H e_1 (NB l) omQ) ?_;intro cv h2 H2;have oc:=H2.one .here;refine qI (by simp only[vL,oc.1];rfl)<|qM H2 (gw oc) λp h3 H3=>qY ⟨p,rfl,?_⟩;have H4:=bL.I (o:=p) (l:=l) (sv:=cv) (R:=qk o [sv]::aa 20 1 l.length sv (l.map Jn)::R) H3;exact HS.cG e_1 (bL.I (sv:=sv) (H4.pk [1,1,0] 0))
theorem jJA (hn:2≤n) {l:List mC} (H:HS g h (bL o l::R)) (hl:l.length≤16) (hm:m≤l.length) :
  aH n 305 [.ptr o 0,.int .i64 (m:Int)] h λ_ h'=>HS g h' (bL o (l.take m)::R):=by
 refine bw rfl omQ λk hk=>?_;unfold S305;try simp only[iZ]
 obtain⟨sv,H⟩:=bL.E H;refine qG (qQ (qK ‹_› .here rfl ?_));refine qG (qQ (qK ‹_› .here rfl ?_));refine qu ‹_› e_1<|zi (xR ?_);rw[show max ((0:Nat):Int) (min (m:Int) (l.length:Int))=(m:Int) by omega];refine Y8 (H.aM e_1) omQ hm λv2 H2=>?_;rw[Nat.mul_one,← List.map_take]at H2;refine qW (ZH omQ H2 .here (NB _) omQ) ?_;intro cv h3 H3;have oc:=H3.one .here;refine qG (qQ (qw H3 e_2 oc aW λh4 H4=>?_));refine qY (bL.I (sv:=cv) ?_);rw[show(l.take m).length=m by grind];exact H4.pk [0,0] 1
theorem ZR (hn:1≤n) {p:Prop} [Decidable p]:aH n 194 [.bool (decide p)] h λr h'=>r=.int .u64 (G0 p)∧h'=h:=by
 refine aG rfl omQ λk hk=>?_;unfold S194;try simp only[iZ]
 unfold G0;by_cases hp:p
 ·rw[iG hp,iJ hp];exact qZ (qY ⟨rfl,rfl⟩)
 ·rw[iV hp,iQ hp];exact qJ (qY ⟨rfl,rfl⟩)
theorem qJ7 (hn:1≤n) {e:Int} (H:HS g h (aO x v l bad mt s err fin left nx::R)) :
  aH n 165 [.ptr x 0,.int .i64 e] h λ_ h'=>HS g h' (aO x v l bad mt s e 4 left nx::R):=by
 refine bw rfl omQ λk hk=>?_;unfold S165;try simp only[iZ]
 obtain⟨c,mv,ov,o,H⟩:=aO.E H;unfold wm at H;refine qG (qQ (qw H .here ⟨rfl,rfl⟩ aW λh1 H1=>?_));refine qG (qQ (qw H1 .here ⟨rfl,rfl⟩ aW λh2 H2=>?_));exact qY (aO.I H2)
theorem jQ7 (hn:1≤n) (H:HS g h (aO x v l bad mt s err fin left nx::R)):aH n 140 [.ptr x 0] h λr h'=>r=.int .i64 err∧h'=h:=by
 refine aG rfl omQ λk hk=>?_;unfold S140;try simp only
 obtain⟨c,mv,ov,o,H⟩:=aO.E H;unfold wm at H;refine qG (qQ (qK ‹_› .here rfl ?_));exact qY ⟨rfl,rfl⟩
theorem qj5 (hn:3≤n) (H:HS g h (aO x v l bad mt s err fin left nx::R)) (hl:s.out.length≤16) :
  aH n 125 [.ptr x 0] h λr h'=>∃p,r=.ptr p 0∧HS g h' (bL p s.out::aO x v l bad mt s err fin left nx::R):=by
 refine aG rfl omQ λk hk=>?_;unfold S125;try simp only
 obtain⟨c,mv,ov,o,H⟩:=aO.E H;unfold wm at H;refine qG (qQ (qK ‹_› .here rfl ?_));refine qW (qx2 omQ (H.aM e_3) hl) ?_;rintro _ h2 ⟨p,rfl,H2⟩;refine qY ⟨p,rfl,?_⟩;exact HS.cG e_1 (aO.I (mv:=mv) (ov:=ov) (H2.pk [2,2,2,1,1] 0))
theorem ZK (hn:1≤n) {off:Int} (hb:0≤b∧b<18446744073709551616) (ho:0≤off∧off≤100):aH n 230 [.int .u64 b,.int .i64 off] h λr h'=>r=.cn [.int .i64 (vO b off).1,.int .i64 (vO b off).2]∧h'=h:=by
 refine bw rfl omQ λk hk=>?_;unfold S230;try simp only[iZ]
 unfold vO;by_cases h1:2147483648≤b
 ·rw[iJ (.inl h1)];refine z8 omQ<|qX<|jG<|qB (qX ?_);refine jG<|qB (qZ ?_)
  exact qY ⟨rfl,rfl⟩
 ·refine z7 omQ<|qX<|qp<|yz omQ<|qa omQ ?_
  by_cases h2:2147483648≤b+off
  ·rw[iJ (.inr (.inl h2))];refine z8 omQ<|qH (qX ?_);refine jG<|qB (qZ ?_)
   exact qY ⟨rfl,rfl⟩
  ·refine z7 omQ<|qH (qX ?_);refine qp<|yz omQ<|qa omQ ?_
   by_cases h3:b+off<6
   ·rw[iJ (.inr (.inr h3))];refine jc omQ<|qH (qZ ?_);exact qY ⟨rfl,rfl⟩
   ·rw[iQ omQ];refine jH omQ<|qH (qJ (yz omQ ?_));refine qa omQ<|qY ⟨rfl,rfl⟩
theorem qxN (h:¬(wM most lv p z).1=0):(wM most lv p z).2=lv:=by
 cases lv with
 |nil=>rfl
 |cons y r=>
  unfold wM at h ⊢;grind
theorem qjf (hn:6≤n) (H:HS g h (aj v M::R)) (O:dT M) :
  aH n 231 [.ptr v 0,.int .i64 p,.int .u64 z] h λr h'=>r=.int .i64 (zf M [(p,z)]).1∧HS g h' (aj v (zf M [(p,z)]).2::R):=by
 refine cY rfl omQ λk hk=>?_;unfold S231;try simp only[iZ]
 refine qW (Lj omQ H) ?_;rintro _ _ ⟨rfl,rfl⟩;by_cases hp:1≤p∧p<M.sz
 ·rw[iG hp];obtain⟨fv,ov,q,e,H⟩:=aj.E H;refine jR (qJ (qG (qQ (qK ‹_› .here rfl ?_))));refine qW (qWM omQ (H.aM e_3) O.lm) ?_;rintro _ h2 ⟨rfl,H2⟩;have e2:zf M [(p,z)]=((wM M.most M.lv p z).1,{ M with lv:=(wM M.most M.lv p z).2 }):=by
   unfold zf;rw[iJ (by grind),wP]
   split
   ·rename_i h0;rw[h0];rfl
   grind[qxN]
  rw[e2];exact qY ⟨rfl,aj.I (fv:=fv) (ov:=ov) (H2.pk [1,1,1] 0)⟩
 ·rw[iV hp];have e2:zf M [(p,z)]=(2,M):=by
   simp_all[zf,iQ]
  rw[e2];refine je (qZ ?_);exact qY ⟨rfl,H⟩
end
end
section
variable {g h:AH} {L R:List SP}
section
variable {x:Nat} {bad:Int} {s:IM} {err fin left nx:Int}
theorem qko (o:List eZ):(o.reverse.flatMap x7).length=o.length*11:=by rw[Kn (sz:=11) _ (λ_=>rfl),List.length_reverse]
theorem qwe (p:eZ):qt (x7 p)=true:=rfl
theorem O4 (p:eZ) (o:List eZ):(p::o).reverse.flatMap x7=o.reverse.flatMap x7++x7 p:=by simp
theorem Y1 (hn:1≤n) {p:eZ} {o:List eZ} (ho:s.aS=p::o) (dI:o.length≤100) (H:HS g h (aO x v l bad mt s err fin left nx::R)) :
  aH n 235 [.ptr x 0] h λr h'=>r=.agg (x7 p)∧HS g h' (aO x v l bad mt { s with aS:=o } err fin left nx::R):=by
 refine aG (S:=S235) rfl omQ λk hk=>?_;unfold S235;try simp only[iZ]
 obtain⟨c,mv,ov,q,H⟩:=aO.E H;rw[ho,O4,List.length_cons]at H;have eu:=qko o;generalize hA:o.reverse.flatMap x7=A at*;unfold wm at H;refine qM H rfl λb0 h1 H1=>?_;clear H;refine qG (qQ (qK ‹_› e_1 rfl ?_));refine qG (qQ (qK ‹_› e_1 rfl ?_));refine qu ‹_› e_5<|zL omQ ?_;rw[show((o.length+1:Nat):Int)-((1:Nat):Int)=(o.length:Int) by omega]
 refine xQ (l:=x7 p) (H1.sl e_5) (i:=o.length) omQ omQ (by
  rw[List.drop_append_of_le_length omQ,List.drop_of_length_le omQ,List.nil_append];rfl) ?_
 refine qM H1 rfl λb2 h3 H3=>qe H3 .here rfl (by simp) rfl λh4 H4=>?_
 have H5:HS g h4 (qk b2 (x7 p)::qk b0 [.int .i64 ((0:Nat):Int),.int .i64 ((0:Nat):Int),.int .u64 ((0:Nat):Int),.int .u64 ((0:Nat):Int),.int .u64 ((0:Nat):Int),.int .u64 ((0:Nat):Int),.int .u64 ((0:Nat):Int),.int .u64 ((0:Nat):Int),.int .u64 ((0:Nat):Int),.int .u64 ((0:Nat):Int),.int .i64 ((0:Nat):Int)]::
  qk x (wm c mv ov v q bad err fin left nx s.pc s.az)::aa 46 5 l.length c (l.flatMap jM)::aa 3 1 mt.length mv (mt.map (.int .i64))::bL q s.out::
  aa 304 11 (o.length+1) ov (A++x7 p)::R):=H4
 clear H1 H3 H4;unfold wm at H5;refine qG (qQ (qK ‹_› e_2 rfl ?_));refine qG (qQ (qK ‹_› e_2 rfl ?_));refine qu ‹_› e_6<|zL omQ ?_;rw[show((o.length+1:Nat):Int)-((1:Nat):Int)=(o.length:Int) by omega];refine Y8 (hi:=o.length) (H5.aM e_6) omQ omQ λv6 H6=>?_;rw[List.take_append_of_le_length omQ,List.take_of_length_le omQ]at H6;have o6:=H6.one .here;clear H5;refine qG (qQ (qw H6 (b:=x) e_3 o6 aW λh7 H7=>?_));refine qD H7 (b:=b2) (off:=0) e_2 rfl omQ (l:=x7 p) rfl<|qe H7 (b:=b0) e_3 rfl (by simp) rfl λh8 H8=>?_
 have H8:HS g h8 (qk b0 (x7 p)::qk x (wm c mv v6 v q bad err fin left nx s.pc s.az)::aa 304 11 o.length v6 A::qk b2 (x7 p)::
  aa 46 5 l.length c (l.flatMap jM)::aa 3 1 mt.length mv (mt.map (.int .i64))::bL q s.out::R):=H8
 refine qD H8 (b:=b0) (off:=0) .here rfl omQ (l:=x7 p) rfl<|qY ⟨rfl,aO.I (s:={ s with aS:=o }) (c:=c) (mv:=mv) (ov:=v6) (o:=q) ?_⟩
 show HS g h8 (qk x (wm c mv v6 v q bad err fin left nx s.pc s.az)::aa 46 5 l.length c (l.flatMap jM)::aa 3 1 mt.length mv (mt.map (.int .i64))::bL q s.out::
  aa 304 11 o.length v6 (o.reverse.flatMap x7)::R)
 rw[hA];exact H8.pk [1,3,3,3,1] 2
theorem qZi (hn:3≤n) {p:eZ} (ht:p.told≤s.out.length) (hl:s.out.length≤16) (H:HS g h (aO x v l bad mt s err fin left nx::R)) :
  aH n 237 [.ptr x 0,.agg (x7 p)] h λ_ h'=>HS g h' (aO x v l bad mt (Jp s p) err fin left nx::R):=by
 refine bw rfl omQ λk hk=>?_;unfold S237;try simp only
 refine qM H (qwe p) λb0 h1 H1=>?_;obtain⟨c,mv,ov,q,H2⟩:=aO.E (H1.aM e_1);refine qQ (qD H2 e_5 rfl omQ rfl ?_);refine qG (qQ ?_);refine qe H2 .here rfl (by show 6+8≤19;omega) rfl λh3 H3=>?_
 have H3:HS g h3 (qk x (wm c mv ov v q bad err fin left nx s.pc p.az)::aa 46 5 l.length c (l.flatMap jM)::aa 3 1 mt.length mv (mt.map (.int .i64))::bL q s.out::
  aa 304 11 s.aS.length ov (s.aS.reverse.flatMap x7)::qk b0 (x7 p)::R):=H3
 have H4:=H3;unfold wm x7 at H4;refine qG (qQ (qK ‹_› .here rfl ?_));refine qQ (qK ‹_› e_5 rfl ?_);refine qW (jJA omQ (H3.aM e_3) hl ht) ?_;intro _ h5 H5;clear H4 H3;exact qY (aO.I (mv:=mv) (ov:=ov) (H5.pk [1,1,1,0,0] 1))
theorem ZA (hn:5≤n) {at_ nx0:Int} (O:dT V) (dI:s.aS.length≤100) (H:HS g h (aO x v l bad mt s err fin left nx::aj v V::R)) :
  aH n 234 [.ptr x 0,.int .i64 op,.int .i64 at_] h λr h'=>r=.int .i64 (zo op at_ nx0 s V).e∧HS g h' (aO x v l bad mt (zo op at_ nx0 s V).s err fin left nx::aj v (zo op at_ nx0 s V).v::R):=by
 refine cY rfl omQ λk hk=>?_;unfold S234;try simp only[iZ]
 obtain⟨c,mv,ov,q,H⟩:=aO.E H;unfold wm at H;refine qG (qQ (qK ‹_› .here rfl ?_));refine qW (qvR omQ (H.aM e_5) O) ?_;rintro _ h2 ⟨rfl,H2⟩
 have H2:HS g h2 (aj v (gG V).2::qk x (wm c mv ov v q bad err fin left nx s.pc s.az)::aa 46 5 l.length c (l.flatMap jM)::aa 3 1 mt.length mv (mt.map (.int .i64))::bL q s.out::
  aa 304 11 s.aS.length ov (s.aS.reverse.flatMap x7)::R):=H2
 clear H;unfold zo;by_cases h0:(gG V).1=0
 ·rw[iJ h0];refine jB h0 (qJ ?_);have H3:=H2;unfold wm at H3;refine qX ?_
  try dsimp only
  refine qG (qQ ?_);refine qK H2 e_1 rfl<|qG (qQ ?_);refine qD H2 e_1 rfl omQ rfl<|qG (qQ ?_);refine qK H2 e_1 rfl<|qW (jZ7 omQ (H2.aM e_4)) ?_;rintro _ _ ⟨rfl,rfl⟩;refine qI rfl<|qh (l:=x7 ⟨op,at_,s.az,s.out.length⟩) (sz:=11) H2 rfl rfl rfl rfl λv4 h4 H4=>?_;refine zX (H4.aM e_6) (H4.sl .here) omQ omQ rfl λv5 h5 H5=>?_;have o5:=H5.one .here;refine qG (qQ ?_);refine qw H5 (b:=x) e_3 o5 (by show 18<19;omega) λh6 H6=>?_;refine xG H2 (b:=x) e_1 rfl H2 e_1 rfl rfl omQ (HS.lt H2 e_1)<|qT H2 (b:=x) e_1 rfl H2 e_1 rfl (HS.lt H2 e_1)<|qY ⟨rfl,aO.I (s:={ s with aS:=⟨op,at_,s.az,s.out.length⟩::s.aS }) (c:=c) (mv:=mv) (ov:=v5) (o:=q) ?_⟩
  show HS g h6 (qk x (wm c mv v5 v q bad err fin left nx s.pc s.az)::aa 46 5 l.length c (l.flatMap jM)::aa 3 1 mt.length mv (mt.map (.int .i64))::bL q s.out::
   aa 304 11 (s.aS.length+1) v5 ((⟨op,at_,s.az,s.out.length⟩::s.aS).reverse.flatMap x7)::aj v (gG V).2::R)
  rw[O4];exact H6.pk [0,3,3,3,0] 1
 ·rw[iQ h0];refine jg h0 (qZ ?_);exact qY ⟨rfl,aO.I (s:=s) (c:=c) (mv:=mv) (ov:=ov) (o:=q) (H2.pk [1,1,1,1,1] 0)⟩
end
end
section
variable {g h:AH} {L R:List SP}
section
variable {x:Nat} {bad:Int} {s:IM} {err fin left nx:Int}
def fz (mt:List Int) (p:Int):Prop:=∃k:Nat,p=k∧∃z:Int,mt[k]? =some z∧ -1≤z∧z≤1000
theorem fz.num (h1:p=k) (h2:mt[k]? =some z):qg mt p=z:=by grind[qg,Int.toNat_natCast]
theorem fz.idx (h:mt[k]? =some z):(mt.map (AV.int .i64))[k]? =some (.int .i64 z)∧k<mt.length:=by grind
theorem qzC (hn:8≤n) (G:zK V) (dI:s.aS.length≤100) (iD:s.out.length≤16) (told:dA s.out.length s.aS) (hm:∀p∈s.aS,p.op=17→fz mt p.pc) (_:0≤s.pc∧s.pc≤100)
  (H:HS g h (aO x v l bad mt s err 0 left (s.pc+1)::aj v V::R)) :
  aH n 239 [.ptr x 0] h λr h'=>r=.int .i64 (vt mt s.aS s V).e∧
   HS g h' (aO x v l bad mt (vt mt s.aS s V).s err (if(vt mt s.aS s V).bG=true then 3 else 0) left (vt mt s.aS s V).nx::aj v (vt mt s.aS s V).v::R):=by
 refine aG (S:=S239) rfl omQ λk hk=>?_;unfold S239;try simp only[iZ]
 generalize hD:vt mt s.aS s V=D;have hs:s={ s with aS:=s.aS }:=rfl;refine jS (λm st h'=>∃(o:List eZ) (V':VM),st=(.ptr x 0,())∧m=o.length∧o.length≤100∧HS g h' (aO x v l bad mt { s with aS:=o } err 0 left (s.pc+1)::aj v V'::R)∧zK V'∧dA s.out.length o∧(∀p∈o,p.op=17→fz mt p.pc)∧vt mt o s V'=D)
  ?_ (m:=s.aS.length) (by grind) ⟨s.aS,V,rfl,rfl,dI,H,G,told,hm,hD⟩
 clear H G told hm hD dI hs;rintro m ih st h2 bN ⟨o,V,rfl,rfl,dI,H,G,told,hm,hD⟩;obtain⟨c,mv,ov,q,H1⟩:=aO.E H
 have H1:HS g h2 (qk x (wm c mv ov v q bad err 0 left (s.pc+1) s.pc s.az)::aa 46 5 l.length c (l.flatMap jM)::aa 3 1 mt.length mv (mt.map (.int .i64))::bL q s.out::
  aa 304 11 o.length ov (o.reverse.flatMap x7)::aj v V::R):=H1
 refine qG (qQ (qK H1 (b:=x) .here rfl ?_));refine qu H1 e_4 ?_;cases o with
 |nil=>refine yj aW (qJ ?_);refine qG (qQ (qK H1 (b:=x) .here rfl ?_));refine qG (qQ ?_);refine qw H1 (b:=x) .here ⟨rfl,rfl⟩ (by show 16<19;omega) λh3 H3=>?_;refine qG (qQ ?_);refine qw H3 (b:=x) .here ⟨rfl,rfl⟩ (by show 5<19;omega) λh4 H4=>?_;subst hD;exact qx (qY ⟨rfl,aO.I (s:={ s with aS:=[] }) (c:=c) (mv:=mv) (ov:=ov) (o:=q) H4⟩)
 |cons p o=>
  refine yc (by simp) (qZ ?_);refine qW (Y1 (s:={ s with aS:=p::o }) (p:=p) (o:=o) omQ rfl (by grind) H) ?_;rintro _ h3 ⟨rfl,H3⟩;clear H H1;refine qM H3 rfl λb h4 H4=>qe H4 .here rfl (by simp) rfl λh5 H5=>?_;have H5:HS g h5 (qk b (x7 p)::aO x v l bad mt { s with aS:=o } err 0 left (s.pc+1)::aj v V::R):=H5;clear H3 H4;obtain⟨c,mv,ov,q,H6⟩:=aO.E (H5.aM (P:=aO x v l bad mt { s with aS:=o } err 0 left (s.pc+1)) e_1)
  have H6:HS g h5 (qk x (wm c mv ov v q bad err 0 left (s.pc+1) s.pc s.az)::aa 46 5 l.length c (l.flatMap jM)::aa 3 1 mt.length mv (mt.map (.int .i64))::bL q s.out::
   aa 304 11 o.length ov (o.reverse.flatMap x7)::qk b (x7 p)::aj v V::R):=H6
  refine qG (qQ (qK H6 (b:=x) .here rfl ?_));clear H6;refine qW (qJc omQ (H5.aM (P:=aj v V) e_2) G.ok) ?_;rintro _ h6 ⟨rfl,H6⟩;have GD:=G.dU;clear H5;unfold vt at hD;by_cases h0:(yA V).1=0
  ·rw[iJ h0]at hD;refine jB h0 (qJ ?_);refine qQ (qK H6 (b:=b) e_1 rfl ?_);by_cases pK:p.op=17
   ·rw[iJ pK]at hD;refine qz pK (qZ ?_);refine qD H6 (b:=b) (off:=0) e_1 rfl omQ (l:=x7 p) rfl ?_;have H7:=H6.sub (L':=aO x v l bad mt { s with aS:=o } err 0 left (s.pc+1)::aj v (yA V).2::qk b (x7 p)::R) (.cons e_2 (.cons .here (.cons .here .refl)));refine qW (qZi (s:={ s with aS:=o }) (p:=p) omQ told.1 iD H7) ?_;intro _ h8 H8;clear H6 H7;obtain⟨c,mv,ov,q,H9⟩:=aO.E H8
    have H9:HS g h8 (qk x (wm c mv ov v q bad err 0 left (s.pc+1) s.pc p.az)::aa 46 5 l.length c (l.flatMap jM)::aa 3 1 mt.length mv (mt.map (.int .i64))::bL q (s.out.take p.told)::
     aa 304 11 o.length ov (o.reverse.flatMap x7)::aj v (yA V).2::qk b (x7 p)::R):=H9
    clear H8;obtain⟨kk,mK,z,nG,Li,hk4⟩:=hm p (iK ..) pK;rw[fz.num mK nG]at hD;refine qG (qQ (qK H9 (b:=x) .here rfl ?_));refine qQ (qK H9 (b:=b) e_6 rfl ?_);rw[mK];refine zY (H9.sl e_2) (fz.idx nG).1<|qa omQ<|qG (qQ ?_);refine qw H9 (b:=x) .here ⟨rfl,rfl⟩ (by show 16<19;omega) λeM fw=>?_;have mA:HS g eM (aO x v l bad mt { Jp s p with aS:=o } err 0 left (z+1)::aj v (yA V).2::qk b (x7 p)::R):=aO.I (s:={ Jp s p with aS:=o }) (c:=c) (mv:=mv) (ov:=ov) (o:=q) fw;clear H9 fw;refine qW (ZA (s:={ Jp s p with aS:=o }) (nx0:=z+1) omQ GD.1.ok (by grind) mA) ?_;rintro _ mP ⟨rfl,cw⟩;subst hD;have hb:(zo 18 z (z+1) { Jp s p with aS:=o } (yA V).2).bG=false∧(zo 18 z (z+1) { Jp s p with aS:=o } (yA V).2).nx=z+1:=by unfold zo;grind
    refine qx (qY ⟨rfl,?_⟩);rw[hb.1,hb.2];exact cw.pk [0,0] 1
   ·rw[iQ pK]at hD;refine qV pK (qJ ?_);exact bN o.length _ _ aW ⟨o,(yA V).2,rfl,rfl,by grind,H6.pk [2,0] 1,GD.1,told.tail,λr hr=>hm r (iX _ hr),hD⟩
  ·rw[iQ h0]at hD;refine jg h0 (qZ ?_);subst hD;exact qx (qY ⟨rfl,H6.pk [2,0] 1⟩)
theorem qkE (hn:9≤n) {i:qR} (G:zK V) (dI:s.aS.length≤100) (iD:s.out.length≤16) (told:dA s.out.length s.aS) (hm:∀p∈s.aS,p.op=17→fz mt p.pc) (hpc:0≤s.pc∧s.pc≤100)
  (bJ:i.1=15∨i.1=19∨i.1=18∨i.1=16→s.aS≠[]) (mD:i.1=18∨i.1=16→fz mt s.pc) (H:HS g h (aO x v l bad mt s err 0 left (s.pc+1)::aj v V::R)) :
  aH n 198 [.ptr x 0,.agg (jM i)] h λr h'=>r=.int .i64 (kg mt s V i.1).e∧
   HS g h' (aO x v l bad mt (kg mt s V i.1).s err (if(kg mt s V i.1).bG=true then 3 else 0) left (kg mt s V i.1).nx::aj v (kg mt s V i.1).v::R):=by
 refine bw (S:=S198) rfl omQ λk hk=>?_;unfold S198;try simp only[iZ]
 refine qM H rfl λb h1 H1=>?_;clear H;have H1:HS g h1 (qk b (jM i)::aO x v l bad mt s err 0 left (s.pc+1)::aj v V::R):=H1;refine qQ (qK H1 (b:=b) .here rfl ?_);refine qX ?_
 try dsimp only
 unfold kg;have HB:=H1.sub (L':=aO x v l bad mt s err 0 left (s.pc+1)::aj v V::qk b (jM i)::R) (.cons e_1 (.cons e_1 (.cons .here .refl)));by_cases c1:i.1=14∨i.1=17
 ·rw[iJ c1]
  have key:wp (jJ (.ptr b 0) 0 λv8=>ji h1 v8 λv9=>yB (.ptr x 0) λv10=>jJ v10 15 λv11=>ji h1 v11 λv12=>
    zS (callT tab qj k) (.fn 234 [] []) [.ptr x 0,v9,v12] h1 λog oO=>xB [] oO λrP=>some (og,rP)) λr h'=>r=.int .i64 (zo i.1 s.pc (s.pc+1) s V).e∧
   HS g h' (aO x v l bad mt (zo i.1 s.pc (s.pc+1) s V).s err (if(zo i.1 s.pc (s.pc+1) s V).bG=true then 3 else 0) left (zo i.1 s.pc (s.pc+1) s V).nx::aj v (zo i.1 s.pc (s.pc+1) s V).v::R):=by
   refine qQ (qK H1 (b:=b) .here rfl ?_);obtain⟨c,mv,ov,q,H2⟩:=aO.E HB;refine qG (qQ (qK H2 (b:=x) .here rfl ?_));refine qW (ZA (nx0:=s.pc+1) omQ G.ok dI HB) ?_;rintro _ mP ⟨rfl,cw⟩;have hb:(zo i.1 s.pc (s.pc+1) s V).bG=false∧(zo i.1 s.pc (s.pc+1) s V).nx=s.pc+1:=by unfold zo;grind
   refine qx (qY ⟨rfl,?_⟩);rw[hb.1,hb.2];exact cw.pk [0,0] 1
  by_cases c2:i.1=14
  ·refine qz c2 (qZ (qZ ?_));exact key
  ·refine qV c2 (qJ ?_);refine qz omQ (qZ ?_);exact key
 ·rw[iQ c1];refine qV omQ (qJ ?_);refine qV omQ (qJ ?_);refine qX ?_
  try dsimp only
  by_cases c3:i.1=15∨i.1=19
  ·rw[iJ c3]
   have key:wp (zS (callT tab qj k) (.fn 235 [] []) [.ptr x 0] h1 λ_ Lf=>yB (.ptr x 0) λv22=>jJ v22 1 λrO=>ji Lf rO λv24=>
     zS (callT tab qj k) (.fn 236 [] []) [v24] Lf λpH Lr=>xB [] Lr λBY=>some (pH,BY)) λr h'=>r=.int .i64 (gi V).1∧
    HS g h' (aO x v l bad mt { s with aS:=s.aS.tail } err (if false=true then 3 else 0) left (s.pc+1)::aj v (gi V).2::R):=by
    obtain⟨p,o,ho⟩:∃p o,s.aS=p::o:=List.exists_cons_of_ne_nil (bJ omQ);refine qW (Y1 (p:=p) (o:=o) omQ ho (by grind) HB) ?_;rintro _ h3 ⟨-,H3⟩;obtain⟨c,mv,ov,q,H4⟩:=aO.E H3;refine qG (qQ (qK H4 (b:=x) .here rfl ?_));refine qW (qKM omQ (H3.aM (P:=aj v V) e_1) G.ok) ?_;rintro _ h5 ⟨rfl,H5⟩;refine qx (qY ⟨rfl,?_⟩);rw[ho];exact H5.pk [1,0] 1
   by_cases c4:i.1=15
   ·refine qz c4 (qZ (qZ ?_));exact key
   ·refine qV c4 (qJ ?_);refine qz omQ (qZ ?_);exact key
  ·rw[iQ c3];refine qV omQ (qJ ?_);refine qV omQ (qJ ?_);by_cases c5:i.1=18
   ·rw[iJ c5];refine qz c5 (qZ ?_);obtain⟨p,o,ho⟩:∃p o,s.aS=p::o:=List.exists_cons_of_ne_nil (bJ omQ);refine qW (Y1 (p:=p) (o:=o) omQ ho (by grind) HB) ?_;rintro _ h3 ⟨-,H3⟩;obtain⟨c,mv,ov,q,H4⟩:=aO.E H3
    have H4:HS g h3 (qk x (wm c mv ov v q bad err 0 left (s.pc+1) s.pc s.az)::aa 46 5 l.length c (l.flatMap jM)::aa 3 1 mt.length mv (mt.map (.int .i64))::bL q s.out::
     aa 304 11 o.length ov (o.reverse.flatMap x7)::aj v V::qk b (jM i)::R):=H4
    obtain⟨kk,mK,z,nG,Li,hk4⟩:=mD (.inl c5);rw[fz.num mK nG,ho];refine qG (qQ (qK H4 (b:=x) .here rfl ?_));refine qG (qQ (qK H4 (b:=x) .here rfl ?_));rw[mK];refine zY (H4.sl e_2) (fz.idx nG).1<|qa omQ<|qG (qQ ?_);rw[← mK];refine qw H4 (b:=x) .here ⟨rfl,rfl⟩ (by show 16<19;omega) λeM fw=>?_;refine qG (qQ (qK fw (b:=x) .here rfl ?_));have mA:HS g eM (aO x v l bad mt { s with aS:=o } err 0 left (z+1)::aj v V::qk b (jM i)::R):=aO.I (s:={ s with aS:=o }) (c:=c) (mv:=mv) (ov:=ov) (o:=q) fw;refine qW (qKM omQ (mA.aM (P:=aj v V) e_1) G.ok) ?_;rintro _ h5 ⟨rfl,H5⟩;exact qx (qY ⟨rfl,H5.pk [1,0] 1⟩)
   ·rw[iQ c5];refine qV c5 (qJ ?_);by_cases c6:i.1=16
    ·rw[iJ c6];refine qz c6 (qZ ?_);obtain⟨p,o,ho⟩:∃p o,s.aS=p::o:=List.exists_cons_of_ne_nil (bJ omQ);refine qW (Y1 (p:=p) (o:=o) omQ ho (by grind) HB) ?_;rintro _ h3 ⟨rfl,H3⟩;rw[ho]at told;refine qW (qZi (s:={ s with aS:=o }) (p:=p) omQ told.1 iD H3) ?_;intro _ h4 H4';obtain⟨c,mv,ov,q,H4⟩:=aO.E H4'
     have H4:HS g h4 (qk x (wm c mv ov v q bad err 0 left (s.pc+1) s.pc p.az)::aa 46 5 l.length c (l.flatMap jM)::aa 3 1 mt.length mv (mt.map (.int .i64))::bL q (s.out.take p.told)::
      aa 304 11 o.length ov (o.reverse.flatMap x7)::aj v V::qk b (jM i)::R):=H4
     obtain⟨kk,mK,z,nG,Li,hk4⟩:=mD (.inr c6);rw[fz.num mK nG,ho];refine qG (qQ (qK H4 (b:=x) .here rfl ?_));refine qG (qQ (qK H4 (b:=x) .here rfl ?_));rw[mK];refine zY (H4.sl e_2) (fz.idx nG).1<|qa omQ<|qG (qQ ?_);refine qw H4 (b:=x) .here ⟨rfl,rfl⟩ (by show 16<19;omega) λeM fw=>?_;refine qG (qQ (qK fw (b:=x) .here rfl ?_));have mA:HS g eM (aO x v l bad mt { Jp s p with aS:=o } err 0 left (z+1)::aj v V::qk b (jM i)::R):=aO.I (s:={ Jp s p with aS:=o }) (c:=c) (mv:=mv) (ov:=ov) (o:=q) fw;refine qW (qJc omQ (mA.aM (P:=aj v V) e_1) G.ok) ?_;rintro _ h5 ⟨rfl,H5⟩;exact qx (qY ⟨rfl,H5.pk [1,0] 1⟩)
    ·rw[iQ c6];refine qV c6 (qJ ?_);refine qW (qzC omQ G dI iD told hm hpc HB) ?_;rintro _ h3 ⟨rfl,H3⟩;exact qx (qY ⟨rfl,H3.pk [0,0] 1⟩)
end
end
section
variable {g h:AH} {L R:List SP}
section
variable {x:Nat} {bad:Int} {s:IM} {err fin left nx:Int}
theorem SD {c mv ov:AV} {q:Nat} {ai:Int} (hr:s.az.length=8) (ha:a<8) (SE:ai=a)
  (H:HS g h (qk x ((wm c mv ov v q bad err fin left nx s.pc s.az).set (6+a*1) (.int .u64 z))::aa 46 5 l.length c (l.flatMap jM)::aa 3 1 mt.length mv (mt.map (.int .i64))::bL q s.out::
  aa 304 11 s.aS.length ov (s.aS.reverse.flatMap x7)::R)):HS g h (aO x v l bad mt (di s ai z) err fin left nx::R):=by
 rw[jXH hr ha]at H;have e:s.az.set a z=(di s ai z).az:=by grind[di,Int.toNat_natCast]
 rw[e]at H;exact aO.I H
theorem qjR (hn:12≤n) {i:qR} (G:zK V) (ro:Xu s.az) (_:i.1=8∨i.1=9∨i.1=10∨i.1=11) (ha:a<8) (SE:i.2.1=a) (hc:0≤i.2.2.2.1∧i.2.2.2.1≤100)
  (H:HS g h (aO x v l bad mt s err fin left nx::aj v V::R)) :
  aH n 197 [.ptr x 0,.agg (jM i),.ptr x (6+a*1),.int .u64 (qg s.az i.2.2.1)] h λr h'=>r=.int .i64 (zq s V i).1∧
   HS g h' (aO x v l bad mt (zq s V i).2.1 err fin left nx::aj v (zq s V i).2.2::R):=by
 refine sX rfl omQ λk hk=>?_;unfold S197;try simp only[iZ]
 refine qM H rfl λb h1 H1=>?_;clear H;have H1:HS g h1 (qk b (jM i)::aO x v l bad mt s err fin left nx::aj v V::R):=H1;have HB:=H1.sub (L':=aO x v l bad mt s err fin left nx::aj v V::qk b (jM i)::R) (.cons e_1 (.cons e_1 (.cons .here .refl)));obtain⟨c,mv,ov,q,H2⟩:=aO.E HB;refine qQ (qK H1 .here rfl ?_);have hra:=ro.at (a:Int);have hrb:=ro.at i.2.2.1;unfold zq;rw[SE];by_cases c8:i.1=8
 ·rw[iJ c8];refine qz c8 (qZ ?_);refine qQ (qK H1 .here rfl ?_);refine qW (ZK omQ hrb hc) ?_;rintro _ _ ⟨rfl,rfl⟩;refine qy rfl (qy rfl ?_);by_cases h0:(vO (qg s.az i.2.2.1) i.2.2.2.1).2=0
  ·rw[iJ h0];refine jB h0 (qJ ?_);refine qG (qQ (qK H2 .here rfl ?_));refine qW (XH omQ (HB.aM e_1) G.ok) ?_;rintro _ h3 ⟨rfl,H3⟩;refine qy rfl (qy rfl ?_);refine qX ?_
   try dsimp only
   by_cases h4:(qs V (vO (qg s.az i.2.2.1) i.2.2.2.1).1).1.2=0
   ·rw[iJ h4];refine qz h4 (qZ ?_);obtain⟨c,mv,ov,q,H5⟩:=aO.E (H3.aM e_1);refine qG (qw H5 .here ⟨rfl,rfl⟩ (by show 6+a*1<19;omega) λh6 H6=>?_);refine qx (qY ⟨by rw[h4],?_⟩);exact(SD ro.len ha rfl H6).pk [0,0] 1
   ·rw[iQ h4];refine qV h4 (qJ ?_);exact qx (qY ⟨rfl,H3.pk [1,0] 1⟩)
  ·rw[iQ h0];refine jg h0 (qZ ?_);refine qY ⟨?_,HB.pk [0,0] 1⟩;unfold vO at h0 ⊢
   grind
 ·rw[iQ c8];refine qV c8 (qJ ?_);by_cases c9:i.1=9
  ·rw[iJ c9];refine qz c9 (qZ ?_);refine qG (qK H2 .here (Kg ha) ?_);refine qQ (qK H1 .here rfl ?_);refine qW (ZK omQ hra hc) ?_;rintro _ _ ⟨rfl,rfl⟩;refine qy rfl (qy rfl ?_);by_cases h0:(vO (qg s.az (a:Int)) i.2.2.2.1).2=0
   ·rw[iJ h0];refine jB h0 (qJ ?_);refine qG (qQ (qK H2 .here rfl ?_));refine qW (qjf omQ (HB.aM e_1) G.ok) ?_;rintro _ h3 ⟨rfl,H3⟩;exact qY ⟨rfl,H3.pk [1,0] 1⟩
   ·rw[iQ h0];refine jg h0 (qZ ?_);refine qY ⟨?_,HB.pk [0,0] 1⟩;unfold vO at h0 ⊢
    grind
  ·rw[iQ c9];refine qV c9 (qJ ?_);by_cases Lv:i.1=10
   ·rw[iJ Lv];refine qz Lv (qZ ?_);by_cases h0:2147483648≤qg s.az i.2.2.1
    ·rw[iJ h0];refine z8 omQ (qZ ?_);exact qY ⟨rfl,HB.pk [0,0] 1⟩
    ·rw[iQ h0];refine z7 omQ (qJ ?_);refine qG (qQ (qK H2 .here rfl ?_));refine yz omQ<|qW (qYu omQ (HB.aM e_1) G.ok G.wd) ?_;rintro _ h3 ⟨rfl,H3⟩;refine qy rfl (qy rfl ?_);refine qX ?_
     try dsimp only
     by_cases h4:(xP V (qg s.az i.2.2.1)).1.2=0
     ·rw[iJ h4];have hb:=qW5 (x:=qg s.az i.2.2.1) G.wd h4;refine qz h4 (qZ ?_);obtain⟨c,mv,ov,q,H5⟩:=aO.E (H3.aM e_1);refine Q7 omQ (qG ?_);refine qw H5 .here ⟨rfl,rfl⟩ (by show 6+a*1<19;omega) λh6 H6=>?_;refine qx (qY ⟨by rw[h4],?_⟩);exact(SD ro.len ha rfl H6).pk [0,0] 1
     ·rw[iQ h4];refine qV h4 (qJ ?_);exact qx (qY ⟨rfl,H3.pk [1,0] 1⟩)
   ·rw[iQ Lv];refine qV Lv (qJ ?_);refine qG (qK H2 .here (Kg ha) ?_);by_cases h0:2147483648≤qg s.az (a:Int)
    ·rw[iJ h0];refine z8 omQ (qZ ?_);exact qY ⟨rfl,HB.pk [0,0] 1⟩
    ·rw[iQ h0];refine z7 omQ (qJ ?_);refine qG (qQ (qK H2 .here rfl ?_));refine qG (qK H2 .here (Kg ha) ?_);refine yz omQ<|qW (qxR omQ (HB.aM e_1) G.ok) ?_;rintro _ h3 ⟨rfl,H3⟩;exact qY ⟨rfl,H3.pk [1,0] 1⟩
structure DoP (l:List qR) (mt:List Int) (s:IM) (V:VM) (i:qR):Prop where
  aJ:zK V
  az:Xu s.az
  out:s.out.length≤16
  lo:s.aS.length≤100
  told:dA s.out.length s.aS
  ways:∀p∈s.aS,p.op=17→fz mt p.pc
  pc:0≤s.pc∧s.pc≤100
  op:1≤i.1∧i.1<23
  a:0≤i.2.1∧i.2.1≤7
  b:0≤i.2.2.1∧i.2.2.1≤7
  c:0≤i.2.2.2.1∧i.2.2.2.1≤100
  c7:3≤i.1∧i.1≤7→i.2.2.2.1≤7
  ne:i.1=15∨i.1=19∨i.1=18∨i.1=16→s.aS≠[]
  mt:i.1=18∨i.1=16→fz mt s.pc
theorem jVl (hn:13≤n) {i:qR} (P:DoP l mt s V i) (H:HS g h (aO x v l bad mt s err 0 left (s.pc+1)::aj v V::R)) :
  aH n 166 [.ptr x 0,.agg (jM i)] h λr h'=>r=.int .i64 (cm mt s V i).e∧
   HS g h' (aO x v l bad mt (cm mt s V i).s err (if(cm mt s V i).bG=true then 3 else 0) left (cm mt s V i).nx::aj v (cm mt s V i).v::R):=by
 refine bw (S:=S166) rfl omQ λk hk=>?_;unfold S166;try simp only[iZ]
 refine qM H rfl λb h1 H1=>?_;clear H;have H1:HS g h1 (qk b (jM i)::aO x v l bad mt s err 0 left (s.pc+1)::aj v V::R):=H1;have HB:=H1.sub (L':=aO x v l bad mt s err 0 left (s.pc+1)::aj v V::qk b (jM i)::R) (.cons e_1 (.cons e_1 (.cons .here .refl)));obtain⟨c,mv,ov,q,H2⟩:=aO.E HB;obtain⟨a,ha1,B9,Dm⟩:=SC P.a.1;obtain⟨bb,iE,fb,nf⟩:=SC P.b.1;obtain⟨cc,SF,nD,oU⟩:=SC P.c.1;have Dm:=Dm (by have:=P.a.2;omega);have nf:=nf (by have:=P.b.2;omega);have ro:=P.az;have lD:=P.op;have FG:=P.c7;refine qQ (qK H1 (b:=b) .here rfl (QD od ?_));rw[ha1];refine qG (qQ (SB B9 ?_));refine qQ (qK H1 (b:=b) .here rfl (QD od ?_));rw[iE];refine qG (qQ (SB fb ?_));refine qK H2 (b:=x) .here (Kg fb)<|qQ (qK H1 (b:=b) .here rfl (QD od ?_));rw[SF];refine qG (qQ (SB nD ?_));refine qK H2 (b:=x) .here (Kg nD)<|qQ (qK H1 (b:=b) .here rfl ?_);refine qX ?_
 try dsimp only
 have fin:∀(z:Int) (D:SM) (h0:AH),D=⟨0,s.pc+1,false,di s i.2.1 z,V⟩→HS g h0 (aO x v l bad mt s err 0 left (s.pc+1)::aj v V::qk b (jM i)::R)→
   wp (yB (.ptr x (6+a*1)) λFb=>zV h0 Fb (.int .u64 z) 1 λh33=>xB [] h33 λh28=>some (.int .i64 ((0:Nat):Int),h28)) λr h'=>r=.int .i64 D.e∧
    HS g h' (aO x v l bad mt D.s err (if D.bG=true then 3 else 0) left D.nx::aj v D.v::R):=by
  rintro z D h0 rfl H0;obtain⟨c,mv,ov,q,H5⟩:=aO.E H0;refine qG (qw H5 (b:=x) .here ⟨rfl,rfl⟩ (by show 6+a*1<19;omega) λh6 H6=>?_);refine qx (qY ⟨rfl,?_⟩);exact(SD ro.len B9 Dm H6).pk [0,0] 1
 by_cases c1:i.1=1
 ·refine qz c1 (qZ ?_);refine qQ (qK H1 (b:=b) .here rfl ?_);exact fin _ _ _ (by simp_all[cm]) HB
 refine qV c1 (qJ ?_);by_cases c2:i.1=2
 ·refine qz c2 (qZ ?_);exact fin _ _ _ (by simp_all[cm]) HB
 refine qV c2 (qJ ?_);by_cases c3:i.1=3
 ·refine qz c3 (qZ (I5 ?_));have oU:=oU (by omega);exact fin _ _ _ (by simp_all[cm]) HB
 refine qV c3 (qJ ?_);by_cases c4:i.1=4
 ·refine qz c4 (qZ (Ry ?_));have oU:=oU (by omega);exact fin _ _ _ (by simp_all[cm]) HB
 refine qV c4 (qJ ?_);by_cases c5:i.1=5
 ·refine qz c5 (qZ (qv5 ?_));have oU:=oU (by omega);exact fin _ _ _ (by simp_all[cm]) HB
 refine qV c5 (qJ ?_);by_cases c6:i.1=6
 ·refine qz c6 (qZ (JQ ?_));have oU:=oU (by omega);refine qW (ZR omQ) ?_;rintro _ _ ⟨rfl,rfl⟩;exact fin _ _ _ (by simp_all[cm]) HB
 refine qV c6 (qJ ?_);by_cases c7:i.1=7
 ·refine qz c7 (qZ (Yi ?_));have oU:=oU (by omega);refine qW (ZR omQ) ?_;rintro _ _ ⟨rfl,rfl⟩;exact fin _ _ _ (by simp_all[cm]) HB
 refine qV c7 (qJ ?_);by_cases mE:i.1=12
 ·refine qz mE (qZ ?_);have e:cm mt s V i=⟨0,i.2.2.2.1,false,s,V⟩:=by simp_all[cm]
  rw[e];refine qQ (qK H1 (b:=b) .here rfl ?_);refine qG (qQ ?_);refine qw H2 (b:=x) .here ⟨rfl,rfl⟩ (by show 16<19;omega) λh6 H6=>?_;exact qx (qY ⟨rfl,(aO.I (c:=c) (mv:=mv) (ov:=ov) (o:=q) H6).pk [0,0] 1⟩)
 refine qV mE (qJ ?_);by_cases mF:i.1=13
 ·refine qz mF (qZ ?_);have e:cm mt s V i=⟨0,if qg s.az i.2.1=0 then i.2.2.2.1 else s.pc+1,false,s,V⟩:=by simp_all[cm]
  rw[e,Dm];refine qG (qK H2 (b:=x) .here (Kg B9) ?_);by_cases hz:qg s.az (a:Int)=0
  ·rw[iJ hz];refine qz hz (qZ ?_);refine qQ (qK H1 (b:=b) .here rfl ?_);refine qG (qQ ?_);refine qw H2 (b:=x) .here ⟨rfl,rfl⟩ (by show 16<19;omega) λh6 H6=>?_;exact qx (qY ⟨rfl,(aO.I (c:=c) (mv:=mv) (ov:=ov) (o:=q) H6).pk [0,0] 1⟩)
  ·rw[iQ hz];refine qV hz (qJ ?_);exact qx (qY ⟨rfl,HB.pk [0,0] 1⟩)
 refine qV mF (qJ ?_);by_cases l9:i.1=21
 ·refine qz l9 (qZ ?_);refine qG (qQ (qK H2 (b:=x) .here rfl ?_));refine qG (qK H2 (b:=x) .here (Kg B9) ?_);refine qW (qy9 omQ (H2.aM (P:=bL q s.out) e_3) P.out) ?_;rintro _ h3 ⟨rfl,H3⟩;by_cases rq:16≤s.out.length
  ·have e:cm mt s V i=⟨5,s.pc+1,false,s,V⟩:=by simp_all[cm,iQ]
   rw[e];rw[iQ omQ]at H3;rw[iV omQ];refine je (qZ ?_);exact qY ⟨rfl,(aO.I (c:=c) (mv:=mv) (ov:=ov) (o:=q) (R:=aj v V::qk b (jM i)::R) (H3.pk [1,1,1,0,0] 0)).pk [0,0] 1⟩
  ·have e:cm mt s V i=⟨0,s.pc+1,false,{ s with out:=s.out++[(1,qg s.az i.2.1)] },V⟩:=by simp_all[cm,iQ]
   rw[e,Dm];rw[iJ omQ]at H3;rw[iG omQ];refine jR (qJ ?_);exact qx (qY ⟨rfl,(aO.I (s:={ s with out:=s.out++[(1,qg s.az (a:Int))] }) (c:=c) (mv:=mv) (ov:=ov) (o:=q) (R:=aj v V::qk b (jM i)::R) (H3.pk [1,1,1,0,0] 0)).pk [0,0] 1⟩)
 refine qV l9 (qJ ?_);by_cases mS:i.1=22
 ·refine qz mS (qZ ?_);have e:cm mt s V i=⟨13,s.pc+1,false,s,V⟩:=by simp_all[cm]
  rw[e];exact qY ⟨rfl,HB.pk [0,0] 1⟩
 refine qV mS (qJ ?_);refine qV omQ (qJ ?_);refine qX ?_
 try dsimp only
 by_cases ct:i.1=8∨i.1=9∨i.1=10∨i.1=11
 ·have e:cm mt s V i=⟨(zq s V i).1,s.pc+1,false,(zq s V i).2.1,(zq s V i).2.2⟩:=by simp_all[cm]
  rw[e];have key:wp (zp h1 (.ptr b 0) 5 λv94=>zS (callT tab qj k) (.fn 197 [] []) [.ptr x 0,v94,.ptr x (6+a*1),.int .u64 (qg s.az (bb:Int))] h1 λv95 h96=>xB [] h96 λh97=>some (v95,h97)) λr h'=>
    r=.int .i64 (zq s V i).1∧HS g h' (aO x v l bad mt (zq s V i).2.1 err (if false=true then 3 else 0) left (s.pc+1)::aj v (zq s V i).2.2::R):=by
   refine qD H1 (b:=b) (off:=0) .here rfl omQ (l:=jM i) rfl ?_;rw[← nf];refine qW (qjR omQ P.aJ ro ct B9 Dm P.c HB) ?_;rintro _ h3 ⟨rfl,H3⟩;exact qx (qY ⟨rfl,H3.pk [0,0] 1⟩)
  by_cases t8:i.1=8
  ·refine qz t8 (qZ (qZ ?_));exact key
  refine qV t8 (qJ ?_);by_cases t9:i.1=9
  ·refine qz t9 (qZ (qZ ?_));exact key
  refine qV t9 (qJ ?_);by_cases t10:i.1=10
  ·refine qz t10 (qZ (qZ ?_));exact key
  refine qV t10 (qJ ?_);refine qz omQ (qZ ?_);exact key
 ·have e:cm mt s V i=kg mt s V i.1:=by simp_all[cm]
  rw[e];refine qV omQ (qJ ?_);refine qV omQ (qJ ?_);refine qV omQ (qJ ?_);refine qV omQ (qJ ?_);refine qD H1 (b:=b) (off:=0) .here rfl omQ (l:=jM i) rfl<|qW (qkE omQ P.aJ P.lo P.out P.told P.ways P.pc P.ne P.mt HB) ?_;rintro _ h3 ⟨rfl,H3⟩;exact qx (qY ⟨rfl,H3.pk [0,0] 1⟩)
end
end
section
variable {g h:AH} {L R:List SP}
theorem QX {a:List Int} (h:k<a.length):a[k]? =some (qg a (k:Int)):=by simp_all[qg,Int.toNat_natCast]
theorem Lw {x:qR} (h:wq x=true) (hx:x.1≠23):(1≤x.1∧x.1<23)∧(0≤x.2.1∧x.2.1≤7)∧(0≤x.2.2.1∧x.2.2.1≤7)∧(0≤x.2.2.2.1∧x.2.2.2.1≤40)∧(3≤x.1∧x.1≤7→x.2.2.2.1≤7):=by
 unfold wq wW at h;simp only[Bool.and_eq_true,decide_eq_true_eq]at h;obtain⟨⟨⟨⟨h1,h2⟩,h3⟩,h4⟩,_⟩:=h;unfold zJ at h2 h3 h4;by_cases c1:x.1=1∨x.1=11∨x.1=21
 ·grind
 rw[iQ c1]at h2 h3 h4;by_cases c2:x.1=2∨x.1=10
 ·grind
 rw[iQ c2]at h2 h3 h4;by_cases c3:x.1=3∨x.1=4∨x.1=5∨x.1=6∨x.1=7
 ·grind
 rw[iQ c3]at h2 h3 h4;by_cases c4:x.1=8∨x.1=9
 all_goals grind
theorem qJl (F:Fit l) (hk:k<l.length) (ho:(qO l k).1=14∨(qO l k).1=17∨(qO l k).1=18∨(qO l k).1=16):fz (qU l) (k:Int):=by
 have hl:=F.le;refine⟨k,rfl,_,QX (by grind[qjb]),?_⟩;by_cases h:(qO l k).1=16
 ·grind[Jx]
 ·obtain⟨e,e1,_,e2,_⟩:=wU F hk omQ;grind
theorem jVP {s:IM} (F:Fit l) (G:GI l s V) (hi:s.pc=i) (ax:i<l.length) (hx:(qO l i).1≠23):DoP l (qU l) s V (qO l i):=by
 have hw:=y9 (F.ok i ax);have Lq:=x9 (F.ok i ax);have hb:=Lw hw.1 hx;have eu:=V3 G;have h5:=Md F i omQ;have hl:=F.le;rw[hi,Int.toNat_natCast]at eu;refine⟨G.aJ,G.gb.az,G.gb.out,by omega,G.told,?_,by omega,hb.1,hb.2.1,hb.2.2.1,by omega,hb.2.2.2.2,?_,?_⟩
 ·intro p hp lD;obtain⟨q,hq,Sx⟩:=(G.nm p hp).pc;have:=(G.nm p hp).op.2;simp_all[qJl,omQ]
 ·intro ho h0;rw[h0]at eu;have he:0<zA (qO l i).1∨(qO l i).1=16:=by
   rcases ho with h |h |h |h
   ·exact .inl (by rw[h];decide)
   ·exact .inl (by rw[h];decide)
   ·exact .inl (by rw[h];decide)
   grind
  grind
 simp_all[qJl,omQ]
def Quiet (l:List qR):Prop:=∀x∈l,x.1≠23∧0≤x.2.2.2.2∧x.2.2.2.2<18446744073709551616
theorem Quiet.at (Q:Quiet l) (h:i<l.length):(qO l i).1≠23∧0≤(qO l i).2.2.2.2∧(qO l i).2.2.2.2<18446744073709551616:=by rw[yN h];exact Q _ (List.getElem_mem h)
structure SG (V:VM) (r:RM):Prop where
  gb:GB r.s
  aJ:zK r.v
  sz:r.v.sz=V.sz
  K:r.v.K=V.K
  most:r.v.most=V.most
theorem SH (F:Fit l) (Q:Quiet l):∀(n:Nat) {s:IM} {V:VM},GI l s V→bX V.lv+n<9000→SG V (zD l (qU l) n s V)∧bX (zD l (qU l) n s V).v.lv≤bX V.lv+n∧
  ((zD l (qU l) n s V).kind=2→(zD l (qU l) n s V).v.lv.length=1)∧
  ((zD l (qU l) n s V).kind=1→GI l (zD l (qU l) n s V).s (zD l (qU l) n s V).v∧1≤(zD l (qU l) n s V).v.aC∧(zD l (qU l) n s V).v.aC<V.sz∧zk (zD l (qU l) n s V).v.aC V.K=none)∧
  ((zD l (qU l) n s V).kind=1∨(zD l (qU l) n s V).kind=2∨(zD l (qU l) n s V).kind=3∨(zD l (qU l) n s V).kind=4):=by
 intro n
 induction n with
 |zero=>
  intro s V G hf;rw[JJ]
  split
  ·rename_i h0;refine⟨⟨G.gb,G.aJ,rfl,rfl,rfl⟩,by simp,λ_=>?_,λh=>(by grind),by simp⟩;have:=V3 G;rw[h0,Int.toNat_natCast,F.nil]at this;have hl:=G.lv;grind
  ·exact⟨⟨G.gb,G.aJ,rfl,rfl,rfl⟩,by simp,λh=>(by grind),λh=>(by grind),by simp⟩
 |succ n ih=>
  intro s V G hf;rw[JT]
  split
  ·rename_i h0;refine⟨⟨G.gb,G.aJ,rfl,rfl,rfl⟩,by simp,λ_=>?_,λh=>(by cases h),by simp⟩;have:=V3 G;rw[h0,Int.toNat_natCast,F.nil]at this;have hl:=G.lv;simp_all
  ·rename_i h0;obtain⟨i,hi,mN⟩:=G.pc;have ax:i<l.length:=by omega
   rw[hi];have S:=UF F G hi ax omQ (Q.at ax).2 (Q.at ax).1;generalize cm (qU l) s V (qO l i)=D at*
   split
   ·rename_i h1
    split
    ·exact⟨⟨⟨S.gb.az,S.gb.out,S.gb.its⟩,S.aJ,S.sz,S.K,S.most⟩,by have:=S.fr;simp;omega,λh=>(by cases h),λh=>(by cases h),by simp⟩
    ·rename_i h2;have G2:=S.next h1 (by simp_all);have Dj:=S.fr;obtain⟨a,b,c,d,e⟩:=ih G2 omQ;refine⟨⟨a.gb,a.aJ,a.sz.trans S.sz,a.K.trans S.K,a.most.trans S.most⟩,by omega,c,λh=>?_,e⟩;have:=d h;rw[S.sz,S.K]at this;omega
   ·split
    ·rename_i dO;obtain⟨n1,n2,n3,n4,n5⟩:=S.aC dO;refine⟨⟨S.gb,S.aJ,S.sz,S.K,S.most⟩,by simp_all,λh=>(by cases h),λ_=>⟨?_,n3,n4,n5⟩,by simp⟩;show GI l D.s D.v;rw[n1];exact⟨G.gb,G.pc,G.nm,G.told,G.iN,by rw[n2];exact G.lv,S.aJ⟩
    ·exact⟨⟨S.gb,S.aJ,S.sz,S.K,S.most⟩,by have:=S.fr;simp;omega,λh=>(by cases h),λh=>(by cases h),by simp⟩
section
variable {x:Nat} {bad:Int} {s:IM} {err fin left nx:Int}
theorem jZ2 (hn:14≤n) (F:Fit l) (Q:Quiet l) {left:Nat} (G:GI l s V) (hf:bX V.lv+left<9000) (hl:left≤1000) (H:HS g h (aO x v l 0 (qU l) s 0 0 left nx::aj v V::R)) :
  aH n 139 [.ptr x 0] h λr h'=>r=.int .i64 (zD l (qU l) left s V).kind∧
   ∃Ca,HS g h' (aO x v l 0 (qU l) (zD l (qU l) left s V).s (zD l (qU l) left s V).err (if(zD l (qU l) left s V).kind=1 then 0 else(zD l (qU l) left s V).kind) ((zD l (qU l) left s V).left:Int) Ca::aj v (zD l (qU l) left s V).v::R):=by
 refine aG rfl omQ λk hk=>?_;unfold S139;try simp only[iZ]
 generalize mT:zD l (qU l) left s V=RM
 refine jS (λm st h'=>st=(.ptr x 0,())∧((∃(s':IM) (V':VM) (nU:Nat) (Ca:Int),m=nU+1∧nU≤1000∧GI l s' V'∧bX V'.lv+nU<9000∧zD l (qU l) nU s' V'=RM∧HS g h' (aO x v l 0 (qU l) s' 0 0 nU Ca::aj v V'::R))∨
   (m=0∧RM.kind≠0∧RM.kind≠1∧∃Ca,HS g h' (aO x v l 0 (qU l) RM.s RM.err RM.kind RM.left Ca::aj v RM.v::R))))
  ?_ (by grind) ⟨rfl,.inl ⟨s,V,left,nx,rfl,hl,G,hf,mT,H⟩⟩
 clear H G hf mT hl;rintro m ih st h2 bN ⟨rfl,⟨s,V,left,nx,rfl,hl,G,hf,mT,H⟩ |⟨rfl,ig,mK,nx,H⟩⟩
 rotate_left
 ·obtain⟨c,mv,ov,q,H1⟩:=aO.E H;refine qG (qQ (qK H1 .here rfl ?_));refine qV ig (qJ ?_);refine qG (qQ (qK H1 .here rfl ?_));refine qx (qY ⟨rfl,nx,?_⟩);grind
 obtain⟨i,hi,mN⟩:=G.pc;have hlen:=F.le;obtain⟨c,mv,ov,q,H1⟩:=aO.E H;refine qG (qQ (qK H1 .here rfl ?_));refine qz rfl (qZ ?_);refine qX ?_
 try dsimp only
 refine qG (qQ (qK H1 .here rfl ?_));refine jB rfl (qJ ?_);refine qG (qQ (qK H1 .here rfl ?_));refine qG (qQ (qQ (qK H1 .here rfl ?_)));refine qu H1 e_1 ?_;by_cases h0:s.pc=l.length
 ·refine qz h0 (qZ ?_);rw[qwb h0]at mT;subst mT;refine qG (qQ ?_);refine qw H1 .here ⟨rfl,rfl⟩ (by show 5<19;omega) λh3 H3=>?_;exact bN 0 _ _ omQ ⟨rfl,.inr ⟨rfl,by simp,by simp,nx,aO.I (mv:=mv) (ov:=ov) H3⟩⟩
 refine qV h0 (qJ ?_);refine qG (qQ (qK H1 .here rfl ?_));cases left with
 |zero=>refine qz rfl (qZ ?_);rw[JJ,iQ h0]at mT;subst mT;refine qW (qJ7 omQ H) ?_;intro _ h3 H3;exact bN 0 _ _ omQ ⟨rfl,.inr ⟨rfl,by simp,by simp,nx,H3⟩⟩
 |succ left=>
  refine qV omQ (qJ ?_);rw[JT,iQ h0]at mT;have ax:i<l.length:=by omega
  have S:=UF F G hi ax omQ (Q.at ax).2 (Q.at ax).1;have P:=jVP F G hi ax (Q.at ax).1;refine qG (qQ (qK H1 .here rfl ?_));rw[hi];refine qa omQ (qG (qQ ?_));refine qw H1 .here ⟨rfl,rfl⟩ (by show 16<19;omega) λh3 H3=>?_;refine qG (qQ (qQ (qK H3 .here rfl ?_)));refine qG (qQ (qK H3 .here rfl ?_));rw[hi];refine xQ (H3.sl e_1) ax omQ (GP ax) ?_;have H4:HS g h3 (aO x v l 0 (qU l) s 0 0 ((left+1:Nat):Int) (s.pc+1)::aj v V::R):=aO.I (mv:=mv) (ov:=ov) (by rw[hi]at H3 ⊢;exact H3);clear H H1 H3;rw[← yN ax];refine qW (jVl omQ P H4) ?_;rintro _ h5 ⟨rfl,H5⟩;rw[hi]at mT;generalize cm (qU l) s V (qO l i)=D at*;refine qX ?_
  try dsimp only
  obtain⟨c,mv,ov,q,H6⟩:=aO.E H5;by_cases h1:D.e=0
  ·refine qz h1 (qZ ?_);rw[iJ h1]at mT;refine qG (qQ (qK H6 .here rfl ?_));refine qG (qQ ?_);refine qw H6 .here ⟨rfl,rfl⟩ (by show 15<19;omega) λh7 H7=>?_;refine qG (qQ (qK H7 .here rfl ?_));refine zL omQ (qG (qQ ?_));rw[show((left+1:Nat):Int)-((1:Nat):Int)=(left:Int) by omega];refine qw H7 .here ⟨rfl,rfl⟩ (by show 17<19;omega) λh8 H8=>?_;have H9:HS g h8 (aO x v l 0 (qU l) { D.s with pc:=D.nx } 0 (if D.bG=true then 3 else 0) left D.nx::aj v D.v::R):=aO.I (mv:=mv) (ov:=ov) H8;clear H6 H7 H8 H5;cases h2:D.bG with
   |true=>rw[h2,iJ rfl]at mT;rw[h2,iJ rfl]at H9;subst mT;exact bN 0 _ _ omQ ⟨rfl,.inr ⟨rfl,by simp,by simp,D.nx,H9⟩⟩
   |false=>rw[h2,iQ aW]at mT;rw[h2,iQ aW]at H9;have:=S.fr;exact bN (left+1) _ _ omQ ⟨rfl,.inl ⟨_,D.v,left,D.nx,rfl,by omega,S.next h1 h2,by omega,mT,H9⟩⟩
  ·refine qV h1 (qJ ?_);rw[iQ h1]at mT;have hb:D.bG=false:=by
    cases hb:D.bG with
    |false=>rfl
    |true=>exact absurd (S.bl hb) h1
   rw[hb,iQ aW]at H5;by_cases dO:D.e=11
   ·rw[iJ dO]at mT;subst mT;refine qz dO (qZ ?_);refine qx (qY ⟨rfl,D.nx,?_⟩);grind
   ·rw[iQ dO]at mT;subst mT;refine qV dO (qJ ?_);refine qW (qJ7 omQ H5) ?_;intro _ h7 H7;exact bN 0 _ _ omQ ⟨rfl,.inr ⟨rfl,by simp,by simp,D.nx,H7⟩⟩
end
end
section
variable {g h:AH} {L R:List SP}
def Mw (l:List qR):List Int:=if(xO l).2=0 then qU l else[]
theorem qKl (hn:7≤n) (H:HS g h R) (S:Rd g R 5 l.length sv (l.flatMap jM)) (hl:l.length≤100) :
  aH n 137 [.agg [sv]] h λv h'=>HS g h' (aa 3 1 (Mw l).length v ((Mw l).map (.int .i64))::R):=by
 refine aG (S:=S137) rfl omQ λk hk=>?_;unfold S137;try simp only[iZ]
 refine qM H (gw (Jh (S.sl H))) λb0 h1 H1=>?_;have Ll:=(S.sl H).uG;clear H;refine qD H1 (b:=b0) (off:=0) .here rfl omQ rfl<|qW (Za omQ H1 S.more hl) ?_;rintro _ h2 ⟨rfl,H2⟩;clear H1;refine qy rfl<|qy rfl ?_;by_cases c0:(xO l).2=0
 rotate_left
 ·refine jg c0<|qZ ?_;unfold Mw;rw[iQ c0];exact qY H2.drop.ap
 have hG:=NK c0;have F:=U1 c0;have hnr:=λ{j:Nat} (h:j<l.length)=>kH F h;have hrg:=λ{j:Nat} (h:j<l.length)=>F.tZ j h;unfold Mw;rw[iJ c0];have hM:qU l=lM l (gr l 0 []) l.length:=rfl;rw[hM];clear hM;refine jB c0<|qJ (qD H2 (b:=b0) (off:=0) .here rfl omQ rfl ?_);refine qW (VW omQ H2 S.more hG hl) ?_;intro av h3 H3;clear H2;refine qQ (qK ‹_› e_1 rfl ?_);refine vG ‹_›<|Ye (n:=l.length) H3 omQ λev h4 H4=>?_;refine qu H4 .here ?_;clear H3;have hA:(gr l 0 []).length=l.length:=MV;have dY:=λ{i:Nat}=>jV3 (i:=i) hG;generalize gr l 0 []=A at*
 refine jS (λm s h'=>∃(i:Nat),s=(.int .i64 (i:Int),.int .i64 (l.length:Int),ev,av,.ptr b0 0,())∧i≤l.length∧m=l.length-i∧
  HS g h' (aa 3 1 l.length ev ((List.replicate i (-1:Int)++List.replicate (l.length-i) 0).map (.int .i64))::aa 3 1 l.length av (A.map (.int .i64))::qk b0 [sv]::R))
  ?_ (m:=l.length) (by grind) ⟨0,rfl,by omega,by rfl,by simp_all⟩
 clear H4;rintro m ih s h5 bN ⟨i,rfl,hi,rfl,H⟩;by_cases ax:i<l.length
 ·refine jc omQ<|qZ (G5 H ax ⟨rfl,rfl⟩ λh6 H6=>?_);refine qa omQ ?_;have h0:(AV.int .i64 (Int.negSucc 0))=.int .i64 (-1):=rfl;rw[h0,← List.map_set]at H6;have es:(List.replicate i (-1:Int)++List.replicate (l.length-i) 0).set i (-1)=List.replicate (i+1) (-1:Int)++List.replicate (l.length-(i+1)) 0:=by
   rw[show l.length-i=(l.length-(i+1))+1 by omega,List.replicate_succ,List.set_append_right _ _ aW,List.length_replicate,Nat.sub_self,List.set_cons_zero,List.replicate_succ' (n:=i),List.append_assoc];rfl
  rw[es]at H6;exact bN (l.length-(i+1)) _ _ omQ ⟨i+1,rfl,by omega,rfl,H6⟩
 obtain rfl:i=l.length:=by omega
 clear bN;rw[Nat.sub_self,List.replicate_zero,List.append_nil]at H;have hL1:∀i,(nT l A i).length=l.length:=λi=>Sv i;have hL2:∀i,(lM l A i).length=l.length:=λi=>Sw i;refine jH omQ<|qJ (qQ (qK ‹_› e_2 rfl ?_));refine vG ‹_›<|jS (λm s h'=>∃(i:Nat),s=(.int .i64 (i:Int),.int .i64 (l.length:Int),sv,ev,av,.ptr b0 0,())∧i≤l.length∧m=l.length-i∧
  HS g h' (aa 3 1 l.length ev ((nT l A i).map (.int .i64))::aa 3 1 l.length av (A.map (.int .i64))::qk b0 [sv]::R))
  ?_ (m:=l.length) (by grind) ⟨0,rfl,by omega,by rfl,H⟩
 clear H;rintro m ih s h6 bN ⟨i,rfl,hi,rfl,H⟩;by_cases ax:i<l.length
 ·have l8:=GP ax;have Cb:=dY ax;have hrgi:=hrg ax;have hnri:=hnr ax;have eQ:nT l A (i+1)=if 0<zA (qO l (i:Int)).1 then(nT l A i).set (qg A (i:Int)).toNat i else nT l A i:=rfl
  rw[yN ax]at eQ;generalize l[i]=x at*;refine jc omQ (qZ ?_)
  refine zv [] (λs h'=>s=(.int .i64 (i:Int),.int .i64 (l.length:Int),sv,ev,av,.ptr b0 0,())∧
   HS g h' (aa 3 1 l.length ev ((nT l A (i+1)).map (.int .i64))::aa 3 1 l.length av (A.map (.int .i64))::qk b0 [sv]::R)) ?_ ?_
  rotate_left
  ·rintro s h7 ⟨rfl,H7⟩;refine qa omQ<|bN (l.length-(i+1)) _ _ omQ ⟨i+1,rfl,by omega,rfl,H7⟩
  intro j hj;refine xQ (S.sl H.drop.drop.drop) ax omQ l8<|qM H rfl λb h7 H7=>?_;refine qe H7 (b:=b) .here rfl (by simp) rfl λh8 H8=>?_;have H8:HS g h8 (qk b [.int .i64 x.1,.int .i64 x.2.1,.int .i64 x.2.2.1,.int .i64 x.2.2.2.1,.int .u64 x.2.2.2.2]::aa 3 1 l.length ev ((nT l A i).map (.int .i64))::aa 3 1 l.length av (A.map (.int .i64))::qk b0 [sv]::R):=H8;clear H H7;refine qQ (qK ‹_› .here rfl ?_);refine qW (Uk omQ) ?_;rintro _ h8 ⟨rfl,rfl⟩;by_cases he:0<zA x.1
  ·obtain⟨p,hp,pf⟩:=Cb (.inl he);refine yc he (qZ ?_);refine zY (H8.sl e_2) (x:=.int .i64 (p:Int)) (by grind)<|G5 (H8.aM e_1) pf ⟨rfl,rfl⟩ λh9 H9=>?_;rw[← List.map_set]at H9;have SJ:qg A (i:Int)=p:=by grind
   rw[iJ he,SJ,Int.toNat_natCast]at eQ;rw[← eQ]at H9;exact hj _ _ ⟨rfl,H9.pk [0,1,1] 1⟩
  ·refine yj he (qJ ?_);rw[iQ he]at eQ;exact hj _ _ ⟨rfl,by rw[eQ];exact H8.drop⟩
 obtain rfl:i=l.length:=by omega
 clear bN;refine jH omQ<|qJ (qQ (qK ‹_› e_2 rfl ?_));refine vG ‹_›<|jS (λm s h'=>∃(i:Nat),s=(.int .i64 (i:Int),.int .i64 (l.length:Int),sv,ev,av,())∧i≤l.length∧m=l.length-i∧
  HS g h' (aa 3 1 l.length ev ((lM l A i).map (.int .i64))::aa 3 1 l.length av (A.map (.int .i64))::qk b0 [sv]::R))
  ?_ (m:=l.length) (by grind) ⟨0,rfl,by omega,by rfl,H⟩
 clear H;rintro m ih s h6 bN ⟨i,rfl,hi,rfl,H⟩;by_cases ax:i<l.length
 ·have l8:=GP ax;have Cb:=dY ax;have eQ:lM l A (i+1)=if(qO l (i:Int)).1=16 then(lM l A i).set i (qg (lM l A i) (qg A (i:Int)))else lM l A i:=rfl
  rw[yN ax]at eQ;generalize l[i]=x at*;refine jc omQ (qZ ?_)
  refine zv [] (λs h'=>s=(.int .i64 (i:Int),.int .i64 (l.length:Int),sv,ev,av,())∧
   HS g h' (aa 3 1 l.length ev ((lM l A (i+1)).map (.int .i64))::aa 3 1 l.length av (A.map (.int .i64))::qk b0 [sv]::R)) ?_ ?_
  rotate_left
  ·rintro s h7 ⟨rfl,H7⟩;refine qa omQ<|bN (l.length-(i+1)) _ _ omQ ⟨i+1,rfl,by omega,rfl,H7⟩
  intro j hj;refine xQ (S.sl H.drop.drop.drop) ax omQ l8<|qM H rfl λb h7 H7=>?_;refine qe H7 (b:=b) .here rfl (by simp) rfl λh8 H8=>?_;have H8:HS g h8 (qk b [.int .i64 x.1,.int .i64 x.2.1,.int .i64 x.2.2.1,.int .i64 x.2.2.2.1,.int .u64 x.2.2.2.2]::aa 3 1 l.length ev ((lM l A i).map (.int .i64))::aa 3 1 l.length av (A.map (.int .i64))::qk b0 [sv]::R):=H8;clear H H7;refine qQ (qK ‹_› .here rfl ?_);by_cases he:x.1=16
  ·obtain⟨p,hp,pf⟩:=Cb (.inr he);refine qz he (qZ ?_);refine zY (H8.sl e_2) (x:=.int .i64 (p:Int)) (by grind)<|zY (H8.sl e_1) (x:=.int .i64 (qg (lM l A i) (p:Int))) (by rw[List.getElem?_map,QX (by grind)];rfl)<|G5 (H8.aM e_1) ax ⟨rfl,rfl⟩ λh9 H9=>?_;rw[← List.map_set]at H9;have SJ:qg A (i:Int)=p:=by grind
   rw[iJ he,SJ]at eQ;rw[← eQ]at H9;exact hj _ _ ⟨rfl,H9.pk [0,1,1] 1⟩
  ·refine qV he (qJ ?_);rw[iQ he]at eQ;exact hj _ _ ⟨rfl,by rw[eQ];exact H8.drop⟩
 obtain rfl:i=l.length:=by omega
 refine jH omQ<|qJ (qx (qY ?_));rw[hL2];exact H.pk [0] 2
def VL:IM:=⟨[0,0,0,0,0,0,0,0],[],0,[]⟩
theorem SN (h1:V.lv.length=1) (G:zK V):GI l VL V :=
 ⟨⟨⟨rfl,by trivial⟩,Nat.zero_le _,λx hx=>by cases hx⟩,⟨0,rfl,Nat.zero_le _⟩,(λp hp=>by cases hp),trivial,rfl,h1,G⟩
def YP (fuel:Int):Nat:=(max 0 (min fuel 400)).toNat
theorem jZl (hn:8≤n) {fuel:Int} (H:HS g h R) (S:Rd g R 5 l.length sv (l.flatMap jM)) (hl:l.length≤100) :
  aH n 114 [.agg [sv],.ptr v 0,.int .i64 fuel] h λr h'=>∃x,r=.ptr x 0∧HS g h' (aO x v l (xO l).2 (Mw l) VL 0 0 (YP fuel:Nat) 0 ::R):=by
 refine cY (S:=S114) rfl omQ λk hk=>?_;unfold S114;try simp only[iZ]
 refine qM H (gw (Jh (S.sl H))) λb0 h1 H1=>?_;refine qQ (qK ‹_› .here rfl ?_);refine zX (H1.ap) (S.sl H1.drop) omQ omQ (VY l) λcv h2 H2=>?_;rw[List.nil_append,Nat.zero_add]at H2;have oc:=H2.one .here;refine qQ (qw H2 (b:=b0) e_1 oc aW λh3 H3=>?_);have H3:HS g h3 (qk b0 [cv]::aa 46 5 l.length cv (l.flatMap jM)::R):=H3;refine qD H3 (b:=b0) (off:=0) .here rfl omQ rfl<|qW (Za omQ H3 (Rd.own e_1) hl) ?_;rintro _ h4 ⟨rfl,H4⟩;refine qy rfl<|qy rfl<|qX ?_;(try dsimp only)
 refine qD H4 (b:=b0) (off:=0) .here rfl omQ rfl<|qD H4 (b:=b0) (off:=0) .here rfl omQ rfl<|qW (qKl omQ H4 (Rd.own e_1) hl) ?_;intro mv h5 H5;have om:=H5.one .here;refine qW (Q':=λr h'=>∃o,r=.ptr o 0∧HS g h' (qk o [.ap]::aa 3 1 (Mw l).length mv ((Mw l).map (.int .i64))::qk b0 [cv]::aa 46 5 l.length cv (l.flatMap jM)::R)) ?_ ?_
 ·refine BV (S:=S138) rfl omQ λk hk=>?_;unfold S138;try simp only
  refine qI rfl<|qM H5 rfl λo h6 H6=>qY ⟨o,rfl,H6⟩
 rintro _ h6 ⟨o,rfl,H6⟩;refine zi (xR ?_);rw[show max ((0:Nat):Int) (min fuel ((400:Nat):Int))=((YP fuel:Nat):Int) by simp[YP]]
 refine qI (l:=wm cv mv .ap v o (xO l).2 0 0 (YP fuel:Nat) 0 0 [0,0,0,0,0,0,0,0]) (by
  have e:(AV.agg (List.take 1 (List.drop 0 [cv]))).cells=[cv]:=rfl
  simp only[vL,e,om.1];rfl) ?_
 refine qM H6 (by unfold wm;simp only[qt,List.all_cons,oc.2,om.2];rfl) λx h7 H7=>?_;refine xG H5 (b:=b0) e_1 rfl H6 e_2 rfl rfl omQ (HS.lt H4 .here)<|xG H4 (b:=b0) .here rfl H5 e_1 rfl rfl omQ (HS.lt H4 .here) ?_
 skip
 refine qY ⟨x,rfl,?_⟩;have H8:=(H7.ap (e:=20) (sz:=1)).ap (e:=304) (sz:=11)
 have H9:HS g h7 (bL o []::aa 304 11 0 .ap []::qk x (wm cv mv .ap v o (xO l).2 0 0 (YP fuel:Nat) 0 0 [0,0,0,0,0,0,0,0])::aa 3 1 (Mw l).length mv ((Mw l).map (.int .i64))::qk b0 [cv]::
  aa 46 5 l.length cv (l.flatMap jM)::R):=bL.I (l:=[]) (sv:=.ap) (H8.pk [3,1,0,0] 0)
 exact aO.I (s:=VL) (c:=cv) (mv:=mv) (ov:=.ap) (o:=o) (H9.pk [2,4,2,0,0] 1)
end
end Go.Proofs.YtemjbhdofokbhaaGreatDoor
