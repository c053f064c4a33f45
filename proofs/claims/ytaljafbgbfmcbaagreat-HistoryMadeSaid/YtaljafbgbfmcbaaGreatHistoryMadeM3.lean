/- Lemmas for 'quietus/quietuslaw29.HistoryMade', walks of its functions among them. No condition. -/
import Derived.Test.YtaljafbgbfmcbaaGreatHistoryMadeM2
import Derived.Test.YtaljafbgbfmcbaaGreatHistoryMadeM1
namespace Go.Proofs.YtaljafbgbfmcbaaGreat
open Go Go.Ae
set_option maxRecDepth 100000
section
variable {g h:AH} {L R:List SP}
theorem KB {p:Int} {c:Cl} {l:List Cl}:zt p (c::l)=if c.1=p then some c.2 else zt p l:=rfl
theorem qwa (zs:List Int) {i:Nat} (h0:0<i) (h:i<iR zs.length):zt (i:Int) (kW zs)=some (vT zs i):=by
 have e:kW zs=(kW zs).take (i-1)++[((i:Int),vT zs i)]++(kW zs).drop i:=by have hk:=Wj zs (show i-1+1<iR zs.length by omega);rw[show i-1+1=i by omega]at hk;have:=List.take_add_one (l:=kW zs) (i:=i-1);grind[Option.toList_some,List.take_append_drop]
 have hg:∀(l1 l2:List Cl),zt (i:Int) l1=none→zt (i:Int) (l1++l2)=zt (i:Int) l2:=by
  intro l1 l2
  induction l1 with
  |nil=>simp
  |cons c l ih=>
   intro hn;rw[KB]at hn
   split at hn
   all_goals simp_all[KB]
 rw[e,List.append_assoc,hg _ _ (qgT zs omQ)];show zt (i:Int) (((i:Int),vT zs i)::_)=_;rw[KB,iJ rfl]
theorem qJ6 {zs:List Int} {m:Int} (hz:∀z∈zs,0≤z∧z<18446744073709551616):zj (QP zs m):=by
 refine⟨qq7 zs m,?_,?_⟩
 ·intro c hc;obtain⟨i,_,rfl⟩:=List.mem_map.1 hc;show 0≤vT zs (i+1)∧vT zs (i+1)<18446744073709551616;unfold vT;cases Ld:zs[i+1]? with
  |none=>simp
  |some z=>exact hz z (List.mem_of_getElem? Ld)
 simp[QP]
theorem qwh {b o:Nat} {K:AV→Go.Ae.R} {Q:AV→AH→Prop} (w:wp (K (.bool true)) Q):wp (sh .ptr true (.ptr b o) .aW K) Q:=w
theorem qjT (op a n:Int) (s:IM) (V:VM):(xE op a n s V).bR=false:=by grind[xE]
theorem qXP {mt:List Int} {s:IM} {V:VM} {x:qO} (h:1≤x.1∧x.1≤23) (h1:x.1≠20) (h3:x.1≠23):(bG mt s V x).bR=false:=by
 unfold bG;by_cases c1:x.1=1
 ·grind
 rw[iQ c1];by_cases c2:x.1=2
 ·grind
 rw[iQ c2];by_cases c3:x.1=3
 ·grind
 rw[iQ c3];by_cases c4:x.1=4
 ·grind
 rw[iQ c4];by_cases c5:x.1=5
 ·grind
 rw[iQ c5];by_cases c6:x.1=6
 ·grind
 rw[iQ c6];by_cases c7:x.1=7
 ·grind
 rw[iQ c7];by_cases pG:x.1=12
 ·grind
 rw[iQ pG];by_cases rE:x.1=13
 ·grind
 rw[iQ rE];by_cases nF:x.1=21
 ·grind
 rw[iQ nF];by_cases oS:x.1=22
 ·grind
 rw[iQ oS];by_cases c8:x.1=8∨x.1=9∨x.1=10∨x.1=11
 ·grind
 rw[iQ c8];unfold gY;by_cases t1:x.1=14∨x.1=17
 ·simp_all[qjT]
 grind
def Calm (l:List qO):Prop:=∀x∈l,x.1≠20
theorem qgN {l:List qO} (F:Fit l) (Q:bO l) (C:Calm l):∀(n:Nat) {s:IM} {V:VM},GI l s V→bE V.lv+n<9000→(zh l (qT l) n s V).kind≠3:=by
 intro n
 induction n with
 |zero=>
  grind[QD]
 |succ n ih=>
  intro s V G hf;rw[QR]
  split
  ·simp
  ·rename_i h0;obtain⟨i,hi,oQ⟩:=G.pc;have ap:i<l.length:=by omega
   rw[hi];have S:=Uz F G hi ap omQ (Q.at ap).2 (Q.at ap).1;have hb:(bG (qT l) s V (qM l i)).bR=false:=by have hw:=yy (F.ok i ap);have hb:=Ru hw.1 (Q.at ap).1;refine qXP omQ ?_ (Q.at ap).1;rw[yw ap];exact C _ (List.getElem_mem ap)
   generalize bG (qT l) s V (qM l i)=D at*;rw[hb]
   split
   ·rename_i h1;rw[iQ aM];have BX:=S.fr;exact ih (S.next h1 hb) omQ
   grind
theorem qYt {l:List qO} (F:Fit l) (Q:bO l) {zs:List Int} {_:Int} {n:Nat} {s:IM} {V:VM} (G:GI l s V) (hK:V.K=kW zs) (hs:V.sz=iR zs.length) (hf:bE V.lv+n<9000):(zh l (qT l) n s V).kind≠1:=by intro h;obtain⟨_,_,_,d,_⟩:=Wv F Q n G hf;obtain⟨_,d1,d2,d3⟩:=d h;generalize(zh l (qT l) n s V).v.aB=p at*;obtain⟨i,rfl⟩:∃i:Nat,p=i:=⟨p.toNat,by omega⟩;rw[hK,qwa zs omQ omQ]at d3;grind
theorem qGl {l:List qO} {zs:List Int} {m:Int} (hz:EY zs):GI l KO (QP zs m):=Ww rfl (qJ6 hz)
theorem qjd (zs:List Int) (m:Int):bE (QP zs m).lv=0:=by rfl
end
section
variable {g h:AH} {L R:List SP}
section
variable {n a:Nat} {x:q9} {q:I7}
theorem qj2 {K:AV→Go.Ae.R} {Q:AV→AH→Prop} (w:wp (K (.bool false)) Q):wp (sh .ptr true .aW .aW K) Q:=w
end
end
section
variable {g h:AH} {L R:List SP}
section
variable {n:Nat} {s S:je}
abbrev yB (S:je):List AV:=[.int .i64 S.words,.int .i64 S.ae,.int .i64 S.wide,.int .i64 S.ad,.int .u64 S.start]
abbrev yO (S:je):List AV:=[.int .i64 S.words,.int .i64 S.ae,.int .i64 S.wide,.int .i64 S.ad,.int .u64 S.start,.int .i64 S.spins,.int .i64 S.writes,.int .i64 S.fuel]
end
end
section
def AE:Xn→Bool
 | .prog _=>false
 | .ay _ _=>true
structure kE (x y:q9):Prop where
  me:y.me=x.me
  set:y.set=x.set
  sw:AE y.aD=AE x.aD
theorem kE.refl (x:q9):kE x x:=⟨rfl,rfl,rfl⟩
theorem kE.trans {x y z:q9} (a:kE x y) (b:kE y z):kE x z:=⟨b.me.trans a.me,b.set.trans a.set,b.sw.trans a.sw⟩
theorem qVC (x:q9):kE x (zl x).2:=by
 unfold zl;cases hx:x.aD with
 |prog q=>exact⟨rfl,rfl,by rw[hx];rfl⟩
 |ay bs k=>exact⟨rfl,rfl,by rw[hx];rfl⟩
theorem Z9 (x:q9) (k e:Int):kE x (xx x k e):=by
 unfold xx
 repeat' split
 all_goals exact⟨rfl,rfl,rfl⟩
theorem UY (x:q9):kE x (yX x):=(qVC x).trans (Z9 ..)
theorem VQ (x:q9):kE x (zZ x):=by
 unfold zZ
 split
 ·exact⟨rfl,rfl,rfl⟩
 ·split
  ·exact(kE.trans (y:={ x with r:=(gE x.r (xl x.f)).2,v:=(yE x.v x.v.aB (yj x.f)).2 }) ⟨rfl,rfl,rfl⟩ (UY _))
  ·split<;>exact⟨rfl,rfl,rfl⟩
theorem XU (x:q9):kE x (jz x):=by
 have hs:∀y:q9,kE y (jZ y):=λy=>by
  unfold jZ
  repeat' split
  all_goals exact⟨rfl,rfl,rfl⟩
 unfold jz;refine kE.trans ?_ (hs _)
 split
 ·exact .refl x
 ·split
  ·exact⟨rfl,rfl,rfl⟩
  ·unfold jd
   split
   ·simp[VQ]
   ·repeat' split
    all_goals exact⟨rfl,rfl,rfl⟩
theorem XN (x:q9) (a:cB):kE x (qd x a):=by
 unfold qd
 split
 ·exact .refl x
 ·split
  ·exact⟨rfl,rfl,rfl⟩
  ·split
   ·exact⟨rfl,rfl,rfl⟩
   ·split
    ·exact⟨rfl,rfl,rfl⟩
    ·split
     ·simp[UY]
     ·split
      ·exact⟨rfl,rfl,rfl⟩
      ·split
       ·exact kE.trans (y:={ x with f:=zC x.f a }) ⟨rfl,rfl,rfl⟩ (XU _)
       ·split
        ·exact kE.trans (y:={ x with c:=x.c.map λc=>jV c a }) ⟨rfl,rfl,rfl⟩ (XU _)
        ·exact kE.trans (y:={ x with e:=zS x.e a }) ⟨rfl,rfl,rfl⟩ (XU _)
structure ThrB (t:qu):Prop where
  set:xo t.set
  me:0≤t.me∧t.me<t.set.ad
  jobs:∀l∈t.jobs,(yn l).2=0∧bO l
  jl:t.jobs.length≤6
  aD:0≤t.aD∧t.aD≤t.jobs.length
  af:t.af.length+t.ax.length≤9000*t.results.length
  au:t.au.length≤6
  ak:0≤t.ak∧t.ak≤t.ah.length
  aC:0≤t.aC∧t.aC≤t.ak
  oU:t.ay=false→t.ax=[]
structure Jk (t:qu):Prop extends ThrB t where
  now:∀x,t.now=some x→zm x∧x.me=t.me∧x.set=t.set∧AE x.aD=t.ay
  lt:t.aD<t.jobs.length
  some:t.now≠none
structure xR (t:qu):Prop where
  st:1≤t.state∧t.state≤6
  b:ThrB t
  c:t.state≠6→Jk t
  fin:t.state=6→t.aD=t.jobs.length∧t.now=none
  fX:(t.results.length:Int)≤t.aD+(if t.state≠6∧(t.ay=true∨t.state=5)then 1 else 0)
  slo:t.state=5→(t.au.length:Int)<t.set.ad∧(t.au.length:Int)≠t.me
  DL:t.state=3→0<t.aP∧t.aP≤8
  byy:t.state=2→0≤t.bH∧t.bH<t.set.ad
  sw5:t.state=5→t.ay=false
variable {t:qu}
theorem ThrB.len (B:ThrB t) (h:(t.results.length:Int)≤t.aD+1):t.af.length+t.ax.length≤63000:=by have h1:=B.jl;have h2:=B.aD;have h3:=B.af;omega
theorem ka (B:ThrB t) (hr:(t.results.length:Int)≤t.aD+(if t.ay=true∧t.aD≠t.jobs.length then 1 else 0)):xR (z8 t):=by
 have hlen:=B.len (by grind);have hs:=B.set.start.1;have u5:=Xa B.set;unfold z8
 split
 ·rename_i hj;refine⟨by simp,⟨B.set,B.me,B.jobs,B.jl,B.aD,B.af,B.au,B.ak,B.aC,B.oU⟩,λh=>absurd rfl h,λ_=>⟨hj,rfl⟩,?_,λh=>(by grind),λh=>(by grind),λh=>(by grind),λh=>by grind⟩;grind
 ·rename_i hj;have B':ThrB { t with born:=0,bI:=false,state:=1,now:=some (if t.ay=true then QG t.me t.set (t.ax.map (·.1))else Jm t.me t.set ((t.jobs[t.aD.toNat]?).getD [])) }:=⟨B.set,B.me,B.jobs,B.jl,B.aD,B.af,B.au,B.ak,B.aC,B.oU⟩;refine⟨by simp,B',λ_=>⟨B',λx hx=>?_,by have:=B.aD;grind,λh=>by grind⟩,λh=>(by grind),?_,λh=>(by grind),λh=>(by grind),λh=>(by grind),λh=>by grind⟩
  ·cases hx
   split
   ·rename_i dW;exact⟨qZN hs (by grind),rfl,u5,dW.symm⟩
   ·rename_i dW;have ap:t.aD.toNat<t.jobs.length:=by have:=B.aD;omega
    rw[iW ap];have:=B.jobs _ (List.getElem_mem ap);exact⟨qVD hs this.1 this.2,rfl,u5,by simp only[Bool.not_eq_true]at dW;exact dW.symm⟩
  grind
theorem Jq (B:ThrB { t with aD:=t.aD+1,ay:=false,ax:=[],ak:=0,aC:=0 }) (hr:(t.results.length:Int)≤t.aD+1):xR (xX t):=by simp_all[xX,ka]
theorem JD (B:ThrB t) (hj:t.aD<t.jobs.length) (hr:(t.results.length:Int)≤t.aD+1):xR (xX t):=by have:=B.aD;have:=B.ak;refine Jq ⟨B.set,B.me,B.jobs,B.jl,by grind,?_,B.au,by simp,by simp,λ_=>rfl⟩ hr;have:=B.af;grind
theorem qWP (c:Int):1≤gi c∧gi c≤8:=by
 grind[gi]
theorem Jk.go (C:Jk t) {u:qu} (h1:u.set=t.set) (h2:u.me=t.me) (h3:u.jobs=t.jobs) (h4:u.aD=t.aD) (h5:u.af=t.af) (h6:u.ax=t.ax) (h7:u.results=t.results) (h8:u.au.length≤6) (h9:0≤u.ak∧u.ak≤u.ah.length) (ia:0≤u.aC∧u.aC≤u.ak) (dO:u.now=t.now) (iP:u.ay=t.ay):Jk u:=by have B:=C.toThrB;refine⟨⟨by rw[h1];exact B.set,by rw[h1,h2];exact B.me,by rw[h3];exact B.jobs,by rw[h3];exact B.jl,by rw[h3,h4];exact B.aD,by rw[h5,h6,h7];exact B.af,h8,h9,ia,by rw[iP,h6];exact B.oU⟩,by rw[dO,h1,h2,iP];exact C.now,by rw[h3,h4];exact C.lt,by rw[dO];exact C.some⟩
theorem NA (C:Jk t) {draw:Int} (_:0≤draw) (hr:(t.results.length:Int)≤t.aD+(if t.ay=true then 1 else 0)):xR (yW t draw):=by
 have hm:=qWP t.aC;have ap:=C.lt;unfold yW
 split
 ·refine ka (C.go (u:={ t with aP:=0,state:=3 }) rfl rfl rfl rfl rfl rfl rfl C.au C.ak C.aC rfl rfl).toThrB ?_;grind
 ·rename_i hn;have C':Jk { t with aP:=draw%(gi t.aC+1),state:=3 }:=C.go rfl rfl rfl rfl rfl rfl rfl C.au C.ak C.aC rfl rfl;have h1:=Int.emod_nonneg draw (show gi t.aC+1≠0 by omega);have h2:=Int.emod_lt_of_pos draw (show 0<gi t.aC+1 by omega);refine⟨by simp,C'.toThrB,λ_=>C',λh=>(by grind),?_,λh=>(by grind),λ_=>⟨by grind,by grind⟩,λh=>(by grind),λh=>by grind⟩;grind
theorem qXB {α:Type} (p:α→Bool) (l:List α):(l.filter p).length+(l.filter λx=>!p x).length=l.length:=by
 induction l with
 |nil=>rfl
 |cons x r ih=>grind
theorem ZA (C:Jk t) (hr:(t.results.length:Int)≤t.aD+1) (h5:t.state=5) (hl:(t.au.length:Int)≤t.set.ad) (dW:t.ay=false):xR (vq t):=by
 have h4:=C.set.ad;have ap:=C.lt;have hg:=C.oU dW;have sC:=C.af;rw[hg]at sC;unfold vq;have key:∀u:qu,u={ t with au:=u.au }→(u.au.length:Int)≤5→(u.au.length:Int)≠t.me→xR (vw u):=by
  intro u hu EZ Le;have C':Jk u:=by rw[hu];exact C.go rfl rfl rfl rfl rfl rfl rfl (by grind) C.ak C.aC rfl rfl
  have Lf:(u.au.length:Nat)≤6:=by omega
  unfold vw;have e1:u.set=t.set:=by rw[hu]
  have e2:u.af=t.af:=by rw[hu]
  have e3:u.results=t.results:=by rw[hu]
  have e4:u.aD=t.aD:=by rw[hu]
  have e5:u.state=5:=by grind
  have e6:u.me=t.me:=by rw[hu]
  have e7:u.jobs=t.jobs:=by rw[hu]
  have e8:u.ax=[]:=by grind
  have hf:=qXB (λr:Nn=>jm u.au r.2) u.af
  split
  ·rename_i h;refine⟨by omega,C'.toThrB,λ_=>C',λh=>by omega,?_,λ_=>⟨h,by grind⟩,λh=>by omega,λh=>by omega,λ_=>by grind⟩;grind
  ·split
   ·refine JD (t:={ u with af:=u.af.filter λr=>!jm u.au r.2 }) ⟨C'.set,C'.me,C'.jobs,C'.jl,C'.aD,?_,Lf,C'.ak,C'.aC,C'.oU⟩ C'.lt (by grind);grind
   ·refine ka (t:={ u with af:=u.af.filter (λr=>!jm u.au r.2),ay:=true,ax:=u.af.filter (λr=>jm u.au r.2),ak:=0,aC:=0 }) ⟨C'.set,C'.me,C'.jobs,C'.jl,C'.aD,?_,Lf,by simp,by simp,λh=>by grind⟩ ?_
    all_goals grind
 grind
theorem qW3 (lv:List bC):(JW lv).length≤bE lv:=by simp[JW,bE,List.length_flatMap,List.map_reverse,List.sum_reverse]
theorem UZ {x:q9} (O:zm x) (hp:AE x.aD=false):(jG x).length≤9000:=by
 unfold jG
 split
 ·cases hj:x.aD with
  |prog q=>dsimp only;have h1:=O.fr;grind[qW3]
  |ay bs k=>rw[hj]at hp;cases hp
 simp
theorem qVu (C:Jk t) {x:q9} (hx:t.now=some x) (_:t.state=1) {draw pick:Int} (hd:0≤draw) (hr:(t.results.length:Int)≤t.aD+(if t.ay=true then 1 else 0)):xR (yD t x draw pick):=by
 have ht:=C.ak;have hc:=C.aC;have ap:=C.lt;have hlen:(t.ah++[jq t x pick]).length=t.ah.length+1:=by simp
 have hr1:(t.results.length:Int)≤t.aD+1:=by grind
 have hr6:∀s:Int,s≠6→(t.results.length:Int)≤t.aD+(if s≠6∧(t.ay=true∨s=5)then 1 else 0):=λs h6=>by
  grind
 unfold yD;dsimp only
 split
 ·split
  ·rename_i hb;have C':Jk { t with ah:=t.ah++[jq t x pick],ak:=t.ak+1,aC:=t.aC+1,state:=2,bH:=kL x,bf:=false } :=
    C.go rfl rfl rfl rfl rfl rfl rfl C.au (by grind) (by grind) rfl rfl
   exact⟨by simp,C'.toThrB,λ_=>C',λh=>(by grind),hr6 2 od,λh=>(by grind),λh=>(by grind),λ_=>hb,λh=>by grind⟩
  ·exact NA (t:={ t with ah:=t.ah++[jq t x pick],ak:=t.ak+1,aC:=t.aC+1 }) (C.go rfl rfl rfl rfl rfl rfl rfl C.au (by grind) (by grind) rfl rfl) hd hr
 ·have C':∀s:Int,Jk { t with ah:=t.ah++[jq t x pick],ak:=t.ak+1,state:=s }:=λs=>
   C.go rfl rfl rfl rfl rfl rfl rfl C.au (by grind) (by grind) rfl rfl
  have CB:=(C' t.state).toThrB
  split
  ·split
   ·refine ka (t:={ t with ah:=t.ah++[jq t x pick],ak:=t.ak+1 }) CB ?_;grind
   ·exact⟨by simp,(C' 4).toThrB,λ_=>C' 4,λh=>(by grind),hr6 4 od,λh=>(by grind),λh=>(by grind),λh=>(by grind),λh=>by grind⟩
  ·split
   ·rename_i dW;unfold Qv
    split
    ·refine Jq (t:={ t with ah:=t.ah++[jq t x pick],ak:=t.ak+1,af:=t.af++t.ax }) ⟨C.set,C.me,C.jobs,C.jl,by grind,?_,C.au,by grind,by simp,λ_=>rfl⟩ hr1;have:=C.af;grind
    grind[JD,jq]
   ·rename_i dW;have dW:t.ay=false:=by grind
    have hn:=C.now x hx;have hfl:=UZ hn.1 (hn.2.2.2.trans dW);rw[dW,iQ aM]at hr;have C8:=C.oU dW;have sC:=C.af;rw[C8]at sC;unfold Qn;have e1:(t.results++[(⟨jf x,vU x,y7 x,x.aa⟩:B0)]).length=t.results.length+1:=by simp
    have e2:(t.af++(jG x).map λb=>(b,x.aa)).length=t.af.length+(jG x).length:=by simp
    have B2:ThrB { t with ah:=t.ah++[jq t x pick],ak:=t.ak+1,results:=t.results++[⟨jf x,vU x,y7 x,x.aa⟩],af:=t.af++(jG x).map λb=>(b,x.aa) } :=
     ⟨C.set,C.me,C.jobs,C.jl,C.aD,by grind,
      C.au,by grind,by grind,C.oU⟩
    dsimp only
    split
    ·grind[JD,jf,vU,y7]
    ·refine ZA (t:={ t with ah:=t.ah++[jq t x pick],ak:=t.ak+1,results:=t.results++[⟨jf x,vU x,y7 x,x.aa⟩],af:=t.af++(jG x).map λb=>(b,x.aa),state:=5,au:=[] })
      ⟨⟨B2.set,B2.me,B2.jobs,B2.jl,B2.aD,B2.af,Nat.zero_le _,B2.ak,B2.aC,B2.oU⟩,C.now,C.lt,C.some⟩ (by grind) rfl (by have:=C.set.ad;grind) dW
theorem Ue (O:xR t) {a:cB} (ha:vB a) {draw pick:Int} (hd:0≤draw):xR (jg t a draw pick):=by
 have cI:=O.fX;unfold jg
 split
 ·rename_i h1;have C:=O.c omQ;cases hn:t.now with
  |none=>grind
  |some x=>
   dsimp only;have hx:=C.now x hn;have hS:=XN x a;have hr:(t.results.length:Int)≤t.aD+(if t.ay=true then 1 else 0):=by
    grind
   unfold xi;dsimp only
   have C':∀b:Int,Jk { t with now:=some (qd x a),born:=b }:=λb=>⟨⟨C.set,C.me,C.jobs,C.jl,C.aD,C.af,C.au,C.ak,C.aC,C.oU⟩,λy hy=>by
    cases hy
    exact⟨XA hx.1 ha,hS.me.trans hx.2.1,hS.set.trans hx.2.2.1,hS.sw.trans hx.2.2.2⟩,C.lt,λh=>by grind⟩
   split
   ·exact⟨O.st,(C' _).toThrB,λ_=>C' _,λh=>absurd h (by grind),O.fX,λh=>absurd h (by grind),λh=>absurd h (by grind),λh=>absurd h (by grind),λh=>absurd h (by grind)⟩
   ·exact qVu (t:={ t with now:=some (qd x a),born:=if(qd x a).begun=true∧x.begun=false then pick else t.born }) (C' _) rfl h1 hd hr
 ·split
  ·rename_i h2;have C:=O.c omQ
   split
   ·have C':Jk { t with bf:=true,since:=a.word }:=C.go rfl rfl rfl rfl rfl rfl rfl C.au C.ak C.aC rfl rfl;exact⟨O.st,C'.toThrB,λ_=>C',λh=>absurd h (by grind),O.fX,λh=>absurd h (by grind),λh=>absurd h (by grind),O.byy,λh=>absurd h (by grind)⟩
   simp_all[NA]
  ·split
   ·rename_i B6;have C:=O.c omQ;have rS:=O.slo B6;rw[iJ ⟨by omega,.inr B6⟩]at cI;have h4:=C.set.ad;have e:(t.au++[if a.err≠0 then 0 else a.word]).length=t.au.length+1:=by simp
    refine ZA (t:={ t with au:=t.au++[if a.err≠0 then 0 else a.word] }) (C.go rfl rfl rfl rfl rfl rfl rfl (by grind) C.ak C.aC rfl rfl) cI B6 ?_ (O.sw5 B6);grind
   grind
theorem U3 (O:xR t):xR (jC t):=by
 have cI:=O.fX;unfold jC
 split
 ·rename_i h3;have C:=O.c omQ;have hp:=O.DL h3
  split
  ·refine ka (t:={ t with aP:=0 }) (C.go (u:={ t with aP:=0 }) rfl rfl rfl rfl rfl rfl rfl C.au C.ak C.aC rfl rfl).toThrB ?_;have ap:=C.lt;grind
  ·have C':Jk { t with aP:=t.aP-1 }:=C.go rfl rfl rfl rfl rfl rfl rfl C.au C.ak C.aC rfl rfl;exact⟨O.st,C'.toThrB,λ_=>C',λh=>absurd h (by grind),O.fX,λh=>absurd h (by grind),λ_=>(by grind),λh=>absurd h (by grind),λh=>absurd h (by grind)⟩
 grind
theorem ZK (O:xR t) {s v:Int}:xR (zy t s v):=by
 have cI:=O.fX;unfold zy
 split
 ·grind
 ·split
  ·split
   ·rename_i h4;have C:=O.c omQ;refine ka C.toThrB ?_;have ap:=C.lt;grind
   ·split
    ·rename_i h1;have C:=O.c omQ;have C':Jk { t with bI:=true }:=C.go rfl rfl rfl rfl rfl rfl rfl C.au C.ak C.aC rfl rfl;exact⟨O.st,C'.toThrB,λ_=>C',O.fin,O.fX,O.slo,O.DL,O.byy,O.sw5⟩
    grind
  grind
theorem qv0 {me:Int} {s:je} {jobs:List (List qO)} (hs:0≤s.start) (hj:∀l∈jobs,(yn l).2=0∧bO l):xR (Vs me s jobs):=by have S:=wY hs;have h4:=S.ad;refine Jq ⟨S,by grind,λl hl=>hj l (List.mem_of_mem_take hl),?_,by simp,Nat.le_refl _,Nat.zero_le _,by simp,by simp,λ_=>rfl⟩ (by simp);grind
end
section
variable {g h:AH} {L R:List SP}
theorem qwo {R:List SP} {P:SP}:∀{A:List SP} {i:Nat},A[i]? =some P→bB (A++R) P (A.eraseIdx i++R):=by
 intro A
 induction A with
 |nil=>simp
 |cons x r ih=>
  intro i h;cases i with
  |zero=>cases h;exact .here
  |succ i=>exact .there (ih (by grind))
def ch (js:List (List qO)) (v:AV):SP:=.ex λvs:List AV=>.all [.fk (vs.length=js.length),qC 77 1 js.length v vs,.all (List.zipWith yh vs js)]
structure B8 where
  rv:AV
  cv:AV
  fe:TypeId
  fv:AV
def gO (r:zP) (z:B8):List AV:=[.int .i64 r.DE,.int .i64 r.aD,.int .i64 r.Wy,.bool r.ay,.int .i64 r.kind,.int .i64 r.err,.int .u64 r.aI,.int .u64 r.aa,.int .i64 r.born,.int .i64 r.ended,z.rv,z.cv,z.fv,.str r.tY]
def vH (r:zP) (z:B8):List SP:=[qC 63 2 r.reads.length z.rv (r.reads.flatMap jH),qC 63 2 r.cells.length z.cv (r.cells.flatMap jH),qC z.fe 1 r.dJ.length z.fv (r.dJ.map (.int .i64))]
def bm (r:List zP) (v:AV):SP:=.ex λzs:List (zP×B8)=>.all [.fk (zs.map (·.1)=r),qC 61 14 zs.length v (zs.flatMap λz=>gO z.1 z.2),.all (zs.flatMap λz=>vH z.1 z.2)]
def B9 (r:B0):List AV:=[.int .i64 r.kind,.int .i64 r.err,.str r.tY,.int .u64 r.aa]
structure E0 where
  jv:AV
  gv:AV
  nv:AV
  pv:AV
  rv:AV
  lb:Nat
  sv:AV
section
variable {n b:Nat} {t:qu} {q:E0}
theorem ch.E {js:List (List qO)} {v:AV} (H:HS g h (ch js v::R)):∃vs:List AV,vs.length=js.length∧HS g h (qC 77 1 js.length v vs:: .all (List.zipWith yh vs js)::R):=by obtain⟨vs,H⟩:=H.iq;exact⟨vs,H.cE.dT⟩
theorem ch.I {js:List (List qO)} {v:AV} {vs:List AV} (hl:vs.length=js.length) (H:HS g h (qC 77 1 js.length v vs:: .all (List.zipWith yh vs js)::R)):HS g h (ch js v::R) :=
 HS.iO vs (HS.allI (A:=[_,_,_]) (HS.dU hl H))
theorem Gw {A R:List SP} {P:SP}:bB (A++P::R) P (A++R):=by
 induction A with
 |nil=>exact .here
 |cons x r ih=>exact .there ih
end
end
section
abbrev iz:=zP×B8
structure U8 (a:iz):Prop where
  rv:a.2.rv.one=true
  cv:Ah a.2.cv a.1.cells.length
  fv:a.2.fv.one=true
theorem qje {v:AV} {n:Nat} (H:Ah v n):v.one=true:=by obtain⟨h1,h2⟩:=H;cases v<;>first |rfl |trivial
abbrev dK (a:iz):List AV:=gO a.1 a.2
theorem UQ {a:iz} (h:U8 a):jW (dK a)=true:=by have h1:=h.rv;have h2:=qje h.cv;have h3:=h.fv;unfold jW dK gO;simp only[List.all_cons,h1,h2,h3];rfl
def nH (a:zP):Bool:=decide (a.kind=2)&&decide (0<a.cells.length)
def vP (a b:zP):Bool:=if a.aa=b.aa then(if nH a=nH b then decide (a.born<b.born)else nH a)else decide (a.aa<b.aa)
theorem qyH {a b neg:Bool} {K:AV→R} {Q:AV→AH→Prop} (w:wp (K (.bool ((a==b) !=neg))) Q):wp (sh .bool neg (.bool a) (.bool b) K) Q:=w
theorem UR {n:Nat} (hn:1≤n) {a:iz} (ha:U8 a) {h:AH}:ba n 31 [.agg (dK a)] h λv h'=>v=.bool (nH a.1)∧fj h.nx h h':=by
 refine bw (S:=S31) rfl omQ λk hk=>?_;unfold S31;try simp only[iZ]
 refine UH (UQ ha) λb h1 hb A F=>?_;have O:=(fj.refl h.nx h).step F (λ_ hf=>hf.elim);refine QM A rfl (wX (λhc=>?_) λhc=>?_)
 ·repeat (first |with_reducible refine qK ?_ |with_reducible refine qJ ?_ |(with_reducible refine qf ?_;try dsimp only) |(with_reducible refine ql ?_;try dsimp only) |(with_reducible refine qe ?_;try dsimp only) |(with_reducible refine qP ?_;try dsimp only) |(with_reducible refine zQ ?_;try dsimp only) |with_reducible refine qF ?_ |with_reducible refine qy ?_ |(with_reducible refine qG ?_;try dsimp only) |with_reducible refine qj ?_ |with_reducible refine jE ?_ |with_reducible refine jo ?_ |with_reducible refine qE omQ ?_ |with_reducible refine qn omQ ?_ |with_reducible refine yK omQ ?_ |with_reducible refine yc omQ ?_ |with_reducible refine vX ?_ |with_reducible refine vy ?_)
  refine QM A rfl (wV ha.cv (PW ?_))
  repeat (first |with_reducible refine qK ?_ |with_reducible refine qJ ?_ |(with_reducible refine qf ?_;try dsimp only) |(with_reducible refine ql ?_;try dsimp only) |(with_reducible refine qe ?_;try dsimp only) |(with_reducible refine qP ?_;try dsimp only) |(with_reducible refine zQ ?_;try dsimp only) |with_reducible refine qF ?_ |with_reducible refine qy ?_ |(with_reducible refine qG ?_;try dsimp only) |with_reducible refine qj ?_ |with_reducible refine jE ?_ |with_reducible refine jo ?_ |with_reducible refine qE omQ ?_ |with_reducible refine qn omQ ?_ |with_reducible refine yK omQ ?_ |with_reducible refine yc omQ ?_ |with_reducible refine vX ?_ |with_reducible refine vy ?_)
  refine qq ⟨?_,O⟩;simp_all[nH,iG,Bool.true_and]
 ·repeat (first |with_reducible refine qK ?_ |with_reducible refine qJ ?_ |(with_reducible refine qf ?_;try dsimp only) |(with_reducible refine ql ?_;try dsimp only) |(with_reducible refine qe ?_;try dsimp only) |(with_reducible refine qP ?_;try dsimp only) |(with_reducible refine zQ ?_;try dsimp only) |with_reducible refine qF ?_ |with_reducible refine qy ?_ |(with_reducible refine qG ?_;try dsimp only) |with_reducible refine qj ?_ |with_reducible refine jE ?_ |with_reducible refine jo ?_ |with_reducible refine qE omQ ?_ |with_reducible refine qn omQ ?_ |with_reducible refine yK omQ ?_ |with_reducible refine yc omQ ?_ |with_reducible refine vX ?_ |with_reducible refine vy ?_)
  refine qq ⟨?_,O⟩;simp_all[nH,iV,Bool.false_and]
theorem qXC {n:Nat} (hn:2≤n) {a b:iz} (ha:U8 a) (hb:U8 b) {h:AH}:ba n 16 [.agg (dK a),.agg (dK b)] h λv h'=>v=.bool (vP a.1 b.1)∧fj h.nx h h':=by
 refine cu (S:=S16) rfl omQ λk hk=>?_;unfold S16;try simp only
 refine UH (UQ ha) λb1 h1 FV A1 F1=>?_;refine UH (UQ hb) λb2 h3 oN A2 F2=>?_;have A1:=A1.fr F2 (λhf=>hf);have A1:Row h3 b1 (dK a) _ false:=A1;have A2:Row h3 b2 (dK b) _ false:=A2;have O3:=((fj.refl h.nx h).step F1 (λ_ hf=>hf.elim)).step F2 (λ_ hf=>hf.elim);have l1:=A1.lt;have l2:=A2.lt;refine QM A1 rfl (QM A2 rfl (Ja (λhc=>qK ?_) λhc=>qJ ?_))
 ·refine QM A1 rfl (QM A2 rfl (QB (qq ⟨?_,O3⟩)));simp_all[vP]
 ·refine qG (YM (l:=dK a) rfl omQ (λi _=>by rw[Nat.zero_add];exact A1.at i) ?_);refine qY (UR omQ ha) ?_;rintro v h27 ⟨rfl,O27⟩;have A2':=A2.bU O27 l2;refine YM (l:=dK b) rfl omQ (λi _=>by rw[Nat.zero_add];exact A2'.at i) ?_;refine qY (UR omQ hb) ?_;rintro v nE ⟨rfl,O30⟩;have O37:fj h3.nx h3 nE:=O27.step O30 (λy hy=>Nat.le_trans O27.nx hy);refine qyH (qGR (l:=dK b) rfl omQ (λi _=>by rw[Nat.zero_add];exact A2.at i) (λi _=>by rw[Nat.zero_add];exact A2'.at i) l2 ?_);have Lg:=A1.bU O37 l1;have A2'':=A2.bU O37 l2;have Oz:fj h.nx h nE:=O3.step O37 (λy hy=>Nat.le_trans O3.nx hy);dsimp only;refine kK (λbW=>?_) λHb=>?_
  ·refine YM (l:=dK a) rfl omQ (λi _=>by rw[Nat.zero_add];exact Lg.at i) ?_;refine qY (UR omQ ha) ?_;rintro v h40 ⟨rfl,O40⟩;refine qq ⟨?_,Oz.step O40 (λy hy=>Nat.le_trans Oz.nx hy)⟩;simp_all[vP]
  ·refine QM Lg rfl (QM A2'' rfl (QB (qq ⟨?_,Oz⟩)));simp_all[vP,nH]
theorem qK1 (a b:zP) (h:vP a b=true):vP b a=false:=by
 unfold vP at*;grind
theorem Zu (a b c:zP) (h:vP b a=false) (h':vP c b=false):vP c a=false:=by
 unfold vP at*;grind
theorem qgr {g g':AH} {b sz n:Nat} {v:AV} {xs:List AV} (S:Sl (λy=>y≠b) g sz n v xs) (F:Fr (λy=>y=b∨g.nx≤y) g g'):Sl (λy=>y≠b) g' sz n v xs:=by
 cases S with
 |aj=>exact .aj
 |bM a=>exact .bM a
 |tail b o o' i=>exact .tail b o o' i
 |mk hd hb hr hl ha=>
  have hn:∀c,c<g.nx→c≠b→¬(c=b∨g.nx≤c):=by grind
  exact .mk hd (Nat.lt_of_lt_of_le hb F.nx) (TO F hb (hn _ hb hd) hr) hl λi hi=>by grind[TM]
theorem qwb {D:Nat→Prop} {g:AH} {sz n:Nat} {v:AV} {xs:List AV} (S:Sl D g sz n v xs):v.cells=[v]∧jW v.cells=true∧v.one=true:=by cases S<;>exact⟨rfl,rfl,rfl⟩
theorem jJb {D:Nat→Prop} {g:AH} {sz n:Nat} {v:AV} {xs:List AV} (S:Sl D g sz n v xs):Sl (λy=>D y∧y<g.nx) g sz n v xs:=by
 cases S with
 |aj=>exact .aj
 |bM a=>exact .bM a
 |tail b o o' i=>exact .tail b o o' i
 |mk hd hb hr hl ha=>exact .mk ⟨hd,hb⟩ hb hr hl ha
structure V3 (al:List iz) (p:Nat) (l:AV) (b:Nat) (g:AH):Prop where
  box:∃e,Row g p [l] e false
  sl:Sl (λy=>y≠b) g 14 al.length l (al.flatMap dK)
  ok:∀a∈al,U8 a
  pb:p≠b
def AF (al:List iz) (i j:Nat):Prop:=∃a b,al[i]? =some a∧al[j]? =some b∧vP a.1 b.1=true
theorem qyi (a:iz):(dK a).length=14:=rfl
theorem Xr (al:List iz) {i:Nat} (hi:i<al.length):((al.flatMap dK).drop (i*14)).take 14=dK (al[i]):=by rw[J9 (sz:=14) dK qyi,List.drop_eq_getElem_cons hi,List.flatMap_cons];rfl
theorem V3.fr {al:List iz} {p:Nat} {l:AV} {b:Nat} {g g':AH} (B:V3 al p l b g) (F:Fr (λy=>y=b∨g.nx≤y) g g'):V3 al p l b g':=by obtain⟨⟨e,h1⟩,h2,h3,h4⟩:=B;have hp:=h1.lt;exact⟨⟨e,h1.fr F (by grind)⟩,qgr h2 F,h3,h4⟩
theorem qy6 {al:List iz} {p b:Nat} {l:AV}:BU (.fn 30 [] [.ptr p 0]) b 4 al.length (AF al) (V3 al p l b):=by
 refine⟨?_,λg g' B F=>B.fr F,?_,?_⟩
 ·intro m hm g B i j hi hj;obtain⟨⟨e,A⟩,S,cH,_⟩:=B;refine Ie (g:=(lf S30)) rfl omQ λk hk=>?_;show wp (S30 (callT tab qL k) _ _ _ _).1 _;unfold S30;simp only[iZ];have hl:g.at p 0=some l:=A.at 0;refine vn hl (xI (l:=dK al[i]) S hi omQ (Xr al hi) ?_);refine vn hl (xI (l:=dK al[j]) S hj omQ (Xr al hj) ?_);refine qY (qXC omQ (cH _ (List.getElem_mem hi)) (cH _ (List.getElem_mem hj))) ?_;rintro v g2 ⟨rfl,O2⟩;refine kK (λh1=>qq ⟨⟨_,rfl,?_⟩,O2⟩) λh1=>?_
  ·exact⟨λ_=>⟨_,_,iW hi,iW hj,h1⟩,λ_=>by simp⟩
  ·have A2:=A.bU O2 A.lt;have S2:=S.bU O2;have iC:g2.at p 0=some l:=A2.at 0;refine vn iC (xI (l:=dK al[j]) S2 hj omQ (Xr al hj) ?_);refine vn iC (xI (l:=dK al[i]) S2 hi omQ (Xr al hi) ?_);refine qY (qXC omQ (cH _ (List.getElem_mem hj)) (cH _ (List.getElem_mem hi))) ?_;rintro v g3 ⟨rfl,O3⟩;have bY:¬AF al i j:=by
    rintro⟨a,c,e1,e2,e3⟩;grind
   have O23:fj g.nx g g3:=O2.step O3 (λy hy=>Nat.le_trans O2.nx hy);refine kK (λh2=>qq ⟨⟨_,rfl,?_⟩,O23⟩) λh2=>qq ⟨⟨_,rfl,?_⟩,O23⟩
   all_goals grind
 ·rintro i j ⟨a,c,e1,e2,e3⟩ ⟨a',c',e4,e5,e6⟩;grind[qK1]
 ·rintro i j k hj h1 h2 ⟨c,a,e1,e2,e3⟩;cases hb:al[j]? with
  |none=>grind
  |some b=>
   have n1:vP b.1 a.1=false:=by
    cases h:vP b.1 a.1
    ·rfl
    ·exact(h1 ⟨b,a,hb,e2,h⟩).elim
   have n2:vP c.1 b.1=false:=by
    cases h:vP c.1 b.1
    ·rfl
    ·exact(h2 ⟨c,b,e1,hb,h⟩).elim
   grind[Zu]
theorem qX3 {D:Nat→Prop} {n:Nat} (hn:24≤n) {al:List iz} {l:AV} {h:AH} (S:Sl D h 14 al.length l (al.flatMap dK)) (cH:∀a∈al,U8 a) (nI:al.length≤4000) :
  ba n 15 [l] h λv h'=>∃(ys:List Nat) (b:Nat) (e:TypeId),v=.slice b 0 al.length al.length false∧h.nx≤b∧ys.Perm (List.range al.length)∧ys.Pairwise (λx y=>¬AF al y x)∧
   Row h' b (ys.map aF) e false∧fj h.nx h h':=by
 obtain⟨dE,nP,_⟩:=qwb S;refine bw (S:=S15) rfl omQ λk hk=>?_;unfold S15;try simp only[iZ]
 refine UH nP λp h1 hp A1 F1=>?_;rw[dE]at A1;have S1:=S.fr F1 (λ_ _ hf=>hf);refine vn (A1.at 0) (yH S1 (TN (Nat.le_refl _) omQ λb h5 hb A5 F5=>Zo ?_));rw[V9]at A5;have A1':=A1.fr F5 (λhf=>hf);have lp:=A1.lt;have O5:fj h.nx h h5:=((fj.refl h.nx h).step F1 (λ_ hf=>hf.elim)).step F5 (λ_ hf=>hf.elim);have nx1:=F1.nx;refine jB (λm s g=>∃i:Nat,s=(aF i,aF al.length,.slice b 0 al.length al.length false,.ptr p 0,())∧i≤al.length∧m=al.length-i∧(∃e,Row g b ((List.range i++List.replicate (al.length-i) 0).map aF) e false)∧Fr (λy=>y=b) h5 g) ?_ (m:=al.length) (by grind)
  ⟨0,rfl,by omega,by rfl,⟨_,by simpa[aF]using A5⟩,Fr.refl _ _⟩
 rintro m ih s g bj ⟨i,rfl,h2,rfl,⟨e,A⟩,F⟩;dsimp only;refine j8 (λhc=>qK ?_) λhc=>qJ ?_
 ·refine TP A rfl rfl omQ (by grind) λRD A13 F13 _=>qE omQ ?_;refine bj (al.length-(i+1)) _ _ omQ ⟨i+1,rfl,by omega,rfl,⟨e,?_⟩,(F.trans F13).mono (λy _ hy=>hy.elim id id)⟩;have:((List.range i++List.replicate (al.length-i) 0).map aF).set (0+i) (aF i)=(List.range (i+1)++List.replicate (al.length-(i+1)) 0).map aF:=by
   rw[← List.map_set,Nat.zero_add]
   congr 1
   obtain⟨r,hr⟩:∃r,al.length-i=r+1:=⟨al.length-i-1,by omega⟩;rw[hr,show al.length-(i+1)=r by omega,List.set_append_right _ _ aM,List.range_succ];grind
  grind
 ·have hi:i=al.length:=by omega
  subst hi;rw[Nat.sub_self,List.replicate_zero,List.append_nil]at A;have S5:=(S.bU O5);have Og:fj h.nx h g:=O5.step F (by omega);have B:V3 al p l b g:=by refine⟨⟨_,A1'.fr F omQ⟩,?_,cH,by omega⟩;exact((jJb S).bU Og).mono (λy hy=>by omega)
  refine qY (qki (d:=12) qy6 omQ omQ omQ (xs:=List.range al.length) aM (λx hx=>List.mem_range.1 hx) A B) ?_;rintro v g2 ⟨ys,p1,p2,p3,p4,_⟩;refine qj (qq ⟨ys,b,e,rfl,by omega,p1,p2,p3,Og.step p4 ?_⟩);have:=Og.nx;omega
end
section
structure yF (V W:VM):Prop where
  sz:V.sz=W.sz
  most:V.most=W.most
  lv:V.lv=W.lv
  K:∀p x,zt p V.K=some x→zt p W.K=some x
theorem yF.same {V W:VM} (h:yF V W) (lv:List bC):yF { V with lv:=lv } { W with lv:=lv }:=⟨h.sz,h.most,rfl,h.K⟩
theorem yF.read {V W:VM} (h:yF V W) (p:Int):(qm V p).1.2=11∨((qm V p).1=(qm W p).1∧yF (qm V p).2 (qm W p).2):=by
 unfold qm;rw[← h.sz,← h.lv]
 split
 ·cases hl:U9 p V.lv with
  |some x=>grind
  |none=>
   dsimp only;cases hk:zt p V.K with
   |some x=>rw[h.K p x hk];grind
   |none=>simp
 grind
theorem yF.take {V W:VM} (h:yF V W) (cs:List Cl):(z7 V cs).1=(z7 W cs).1∧yF (z7 V cs).2 (z7 W cs).2:=by
 unfold z7;rw[← h.sz,← h.lv,← h.most]
 split
 ·refine⟨rfl,?_⟩;exact⟨rfl,rfl,rfl,h.K⟩
 grind
theorem yF.ask {V W:VM} (h:yF V W) (b:Int):(zE V b).1.2.2=11∨((zE V b).1=(zE W b).1∧yF (zE V b).2 (zE W b).2):=by
 unfold zE;rw[← h.sz]
 split
 ·grind
 ·rcases h.read (b-1)with e |⟨e,h2⟩
  all_goals grind
theorem yF.again {V W:VM} (h:yF V W) (c b:Int):(vS V c b).1.2=11∨((vS V c b).1=(vS W c b).1∧yF (vS V c b).2 (vS W c b).2):=by
 unfold vS
 split
 ·grind
 ·rcases h.read b with e |⟨e,h2⟩
  ·grind
  ·rw[← e];have ht:=h2.take [(c,(qm V b).1.1),(b-1,c+8)];grind
theorem yF.grown {V W:VM} (h:yF V W) (c:Int):(vO V c).1.2=11∨((vO V c).1=(vO W c).1∧yF (vO V c).2 (vO W c).2):=by
 unfold vO;rw[← h.sz];rcases h.read 5 with e |⟨e,h2⟩
 ·grind
 ·rw[← e];have ht:=h2.take [(5,(qm V 5).1.1+1+wZ c),((qm V 5).1.1,c+8)];grind
theorem yF.alloc {V W:VM} (h:yF V W) (n:Int):(xO V n).1.2=11∨((xO V n).1=(xO W n).1∧yF (xO V n).2 (xO W n).2):=by
 unfold xO
 split
 ·grind
 ·rcases h.read (zD n)with e |⟨e,h2⟩
  ·grind
  ·rw[← e]
   split
   ·split
    ·exact h2.grown _
    ·exact h2.again _ _
   grind
theorem yF.free {V W:VM} (h:yF V W) (b:Int):(ga V b).1=11∨((ga V b).1=(ga W b).1∧yF (ga V b).2 (ga W b).2):=by
 unfold ga;rcases h.ask b with e |⟨e,h2⟩
 ·grind
 ·rw[← e];have ht:=h2.take [(b-1,(zE V b).1.1)];rw[← ht.1]
  split
  ·split
   ·split
    ·refine .inr ⟨rfl,?_⟩;unfold lh;rw[← ht.2.lv];exact⟨ht.2.sz,ht.2.most,rfl,ht.2.K⟩
    grind
   grind
  grind
theorem yF.nf {V W:VM} (h:yF V W) (b:Int):(yM V b).1=11∨((yM V b).1=(yM W b).1∧yF (yM V b).2 (yM W b).2):=by
 unfold yM;rcases h.ask b with e |⟨e,h2⟩
 ·grind
 ·rw[← e]
  split
  ·split
   ·grind
   ·rcases h2.read (zE V b).1.1 with e2 |⟨e2,h3⟩
    ·grind
    ·rw[← e2]
     split
     ·exact .inr (h3.take _)
     grind
  grind
theorem yF.oB {V W:VM} (h:yF V W):(yN V).1=(yN W).1∧yF (yN V).2 (yN W).2:=by unfold yN;rw[← h.lv];exact⟨rfl,h.same _⟩
theorem yF.drop {V W:VM} (h:yF V W):(xa V).1=(xa W).1∧yF (xa V).2 (xa W).2:=by unfold xa;rw[← h.lv];exact⟨rfl,h.same _⟩
theorem yF.keep {V W:VM} (h:yF V W):(gM V).1=(gM W).1∧yF (gM V).2 (gM W).2:=by unfold gM;rw[← h.lv];exact⟨rfl,h.same _⟩
structure U6 (a b:SM):Prop where
  e:a.e=b.e
  nx:a.nx=b.nx
  bR:a.bR=b.bR
  s:a.s=b.s
  v:yF a.v b.v
theorem yF.aI {V W:VM} (h:yF V W) (op a nx:Int) (s:IM):U6 (xE op a nx s V) (xE op a nx s W):=by
 unfold xE;rw[← h.oB.1]
 split
 ·exact⟨rfl,rfl,rfl,rfl,h.oB.2⟩
 ·exact⟨rfl,rfl,rfl,rfl,h.oB.2⟩
theorem yF.uc {mt:List Int} {s:IM}:∀(o:List cZ) {V W:VM},yF V W→U6 (yl mt o s V) (yl mt o s W):=by
 intro o
 induction o with
 |nil=>intro V W h;exact⟨rfl,rfl,rfl,rfl,h⟩
 |cons p o ih=>
  intro V W h;unfold yl;rw[← h.drop.1]
  split
  ·split
   ·exact h.drop.2.aI ..
   ·exact ih h.drop.2
  ·exact⟨rfl,rfl,rfl,rfl,h.drop.2⟩
theorem yF.DM {V W:VM} (h:yF V W) (mt:List Int) (s:IM) (op:Int):U6 (gY mt s V op) (gY mt s W op):=by
 unfold gY
 split
 ·exact h.aI ..
 ·split
  ·exact⟨h.keep.1,rfl,rfl,rfl,h.keep.2⟩
  ·split
   ·exact⟨h.keep.1,rfl,rfl,rfl,h.keep.2⟩
   ·split
    ·exact⟨h.drop.1,rfl,rfl,rfl,h.drop.2⟩
    grind[yF.uc]
theorem yF.ud {V W:VM} (h:yF V W) (s:IM) (x:qO):(zB s V x).1=11∨((zB s V x).1=(zB s W x).1∧(zB s V x).2.1=(zB s W x).2.1∧yF (zB s V x).2.2 (zB s W x).2.2):=by
 unfold zB
 split
 ·split
  ·rcases h.read (xU (qB s.ao x.2.2.1) x.2.2.2.1).1 with e |⟨e,h2⟩
   all_goals grind
  grind
 ·split
  ·split
   ·have ht:=h.take [((xU (qB s.ao x.2.1) x.2.2.2.1).1,qB s.ao x.2.2.1)];grind
   grind
  ·split
   ·split
    ·grind
    ·rcases h.alloc (qB s.ao x.2.2.1)with e |⟨e,h2⟩
     all_goals grind
   ·split
    ·grind
    ·rcases h.free (qB s.ao x.2.1)with e |⟨e,h2⟩
     all_goals grind
theorem vE {c:Prop} [Decidable c] {a b a' b':SM} (ha:a.e=11∨U6 a a') (hb:b.e=11∨U6 b b'):(if c then a else b).e=11∨U6 (if c then a else b) (if c then a' else b'):=by
 grind
theorem yF.do_ {V W:VM} (h:yF V W) (mt:List Int) (s:IM) (x:qO):(bG mt s V x).e=11∨U6 (bG mt s V x) (bG mt s W x):=by
 have sm:∀(e nx:Int) (b:Bool) (s':IM),(⟨e,nx,b,s',V⟩:SM).e=11∨U6 ⟨e,nx,b,s',V⟩ ⟨e,nx,b,s',W⟩:=λe nx b s'=>.inr ⟨rfl,rfl,rfl,rfl,h⟩;unfold bG;refine vE (sm ..) (vE (sm ..) (vE (sm ..) (vE (sm ..) (vE (sm ..) (vE (sm ..) (vE (sm ..) (vE (sm ..) (vE (sm ..) (vE (vE (sm ..) (sm ..)) (vE (sm ..) (vE ?_ (.inr (h.DM ..)))))))))))));rcases h.ud s x with e |⟨e1,e2,h2⟩
 ·grind
 ·exact .inr ⟨e1,rfl,rfl,e2,h2⟩
end
section
inductive ue:Nat→q9→zG→q9→zG→Prop
  |nil {x:q9} {M:zG}:ue 0 x M x M
  |cons {k:Nat} {x y:q9} {M N:zG} {o:dj} (hn:zp x=some o) (r:ue k (qd x (qR M o).1) (qR M o).2 y N):ue (k+1) x M y N
theorem ue.trans {a b:Nat} {x y z:q9} {M N O:zG} (s:ue a x M y N) (t:ue b y N z O):ue (a+b) x M z O:=by
 induction s with
 |nil=>grind
 |cons hn _ ih=>rw[Nat.add_right_comm];exact .cons hn (ih t)
theorem ue.one {x y:q9} {M N:zG} {o:dj} (hn:zp x=some o) (e:qR M o=(⟨0,cC,false,0⟩,N)) (h:qd x ⟨0,cC,false,0⟩=y):ue 1 x M y N:=by refine .cons hn ?_;rw[e];dsimp only;rw[h];exact .nil
theorem ue.step {x y:q9} {M N:zG} {o:dj} {a:cB} (hn:zp x=some o) (e:qR M o=(a,N)) (h:qd x a=y):ue 1 x M y N:=by refine .cons hn ?_;rw[e];dsimp only;rw[h];exact .nil
def DN (M:zG) (k:Int):zG:={ M with aN:=M.aN+k }
structure Vn (S:je) (M:zG) (me:Int):Prop where
  w:(M.w.length:Int)=S.words
  l:(M.l.length:Int)=S.ae
  s:(M.s.length:Int)=S.ad
  me:0≤me∧me<S.ad
  lk:∀i:Nat,i<M.l.length→∃v:Int,jj M.l i=(v,false,0)∧0≤v∧v≤M.n
  n:0≤M.n∧M.n<4611686018427387902
  wd:∀z∈M.w,0≤z∧z<18446744073709551616
section
variable {S:je} {M:zG} {me:Int}
theorem Vn.DN (C:Vn S M me) (k:Int):Vn S (DN M k) me:=⟨C.w,C.l,C.s,C.me,C.lk,C.n,C.wd⟩
theorem Vn.at (C:Vn S M me) {s:Int} (h:0≤s∧s<S.ae):∃v:Int,jj M.l s=(v,false,0)∧0≤v∧v≤M.n:=by have hl:=C.l;obtain⟨k,rfl⟩:∃k:Nat,s=k:=⟨s.toNat,by omega⟩;exact C.lk k omQ
theorem qze {S:je} (O:xo S) {p:Int} (hp:0≤p):0≤ofM p S.ae S.wide∧ofM p S.ae S.wide<S.ae:=by have h:=O.ae;unfold ofM;rw[iQ omQ,show max 1 (min S.ae 16)=S.ae by omega];exact⟨Int.emod_nonneg _ omQ,Int.emod_lt_of_pos _ omQ⟩
structure Mj (S:je) (M:zG) (r:List z6):Prop where
  at_:∀y∈r,0≤y.1∧y.1<S.ae∧y.2=(jj M.l y.1).1
  un:(r.map (·.1)).Nodup
theorem Mj.len {r:List z6} (O:xo S) (R:Mj S M r):r.length≤16:=by
 have:=VN 16 (r.map (·.1)) R.un (λx hx=>by
  obtain⟨y,hy,rfl⟩:=List.mem_map.1 hx;have h1:=R.at_ y hy;have h2:=O.ae
  omega)
 grind
theorem Mj.add {r:List z6} (O:xo S) (C:Vn S M me) (R:Mj S M r) {s:Int} (hs:0≤s∧s<S.ae):(gE r (s,(jj M.l s).1)).1=0∧Mj S M (gE r (s,(jj M.l s).1)).2:=by
 obtain⟨v,e,h0,h1⟩:=C.at hs;have bK:=O.ae;have hn:=C.n;unfold gE;rw[iQ (by grind)];cases hf:r.find? λy=>decide (y.1=(s,(jj M.l s).1).1)with
 |some y=>
  dsimp only;have hy:=List.find?_some hf;have hm:=List.mem_of_find?_eq_some hf;have h2:=R.at_ y hm;grind
 |none=>
  dsimp only;have bY:∀y∈r,y.1≠s:=λy hy h=>by
   grind
  have hnd:(s::r.map (·.1)).Nodup:=List.nodup_cons.2 ⟨λh=>by grind,R.un⟩
  have hl:=VN 16 _ hnd (λx hx=>by
   rcases List.mem_cons.1 hx with rfl |hx
   ·omega
   ·obtain⟨y,hy,rfl⟩:=List.mem_map.1 hx;have h1:=R.at_ y hy
    omega)
  simp at hl;rw[iQ omQ];refine⟨rfl,λy hy=>?_,?_⟩
  ·rcases List.mem_append.1 hy with hy |hy
   ·exact R.at_ y hy
   grind
  grind
theorem j4 {x:q9} (h:x.c=none):qS x=false:=by simp_all[qS,Bool.and_false]
theorem Ku {x:q9} (h:x.c=none):qS (yX x)=false:=by
 have hc:(zl x).2.c=none:=by
  grind[zl]
 unfold yX xx;generalize(zl x).2=y at*
 split
 ·exact j4 hc
 ·split
  ·exact j4 hc
  ·split
   ·exact j4 hc
   ·split
    ·exact j4 hc
    rfl
end
end
section
def Lh:Xn→VM→(Int×Int)×Xn×VM
 | .prog q,V=>(((zh q.l (qT q.l) q.left q.s V).kind,(zh q.l (qT q.l) q.left q.s V).err),
   .prog ⟨q.l,(zh q.l (qT q.l) q.left q.s V).s,if(zh q.l (qT q.l) q.left q.s V).kind=1 then 0 else(zh q.l (qT q.l) q.left q.s V).kind,(zh q.l (qT q.l) q.left q.s V).err,(zh q.l (qT q.l) q.left q.s V).left⟩,
   (zh q.l (qT q.l) q.left q.s V).v)
 | .ay bs k,V=>(if(xP V (bs.drop k) k).1.2=11 then(1,0)else if(xP V (bs.drop k) k).1.2=0 then(2,0)else(4,(xP V (bs.drop k) k).1.2),.ay bs (xP V (bs.drop k) k).1.1,(xP V (bs.drop k) k).2)
theorem qJU (x:q9):zl x=((Lh x.aD x.v).1,{ x with aD:=(Lh x.aD x.v).2.1,v:=(Lh x.aD x.v).2.2 }):=by grind[zl,Lh]
section
variable {S:je} {M:zG} {me:Int}
structure KnM (M:zG) (V:VM):Prop where
  sz:(V.sz:Int)=M.w.length
  K:∀p x,zt p V.K=some x→x=qB M.w p
end
end
section
section
variable {S:je} {M:zG} {me:Int}
inductive DO:Nat→jX→zG→jX→zG→Prop
  |nil {c:jX} {M:zG}:DO 0 c M c M
  |cons {k:Nat} {c d:jX} {M N:zG} {o:dj} {a:cB} {M1:zG} {c1:jX} (hn:yq c=some o) (e:qR M o=(a,M1)) (h0:a.err=0) (h1:jV c a=c1) (h2:c1.p.fin=0) (r:DO k c1 M1 d N):DO (k+1) c M d N
theorem DO.trans {a b:Nat} {x y z:jX} {M N O:zG} (s:DO a x M y N) (t:DO b y N z O):DO (a+b) x M z O:=by
 induction s with
 |nil=>grind
 |cons hn e h0 h1 h2 _ ih=>rw[Nat.add_right_comm];exact .cons hn e h0 h1 h2 (ih t)
end
end
section
theorem ZD {l:List dz} {a b:Int} {x:dz} (ha:0≤a) (hb:0≤b) (hl:a<l.length):jj (l.set a.toNat x) b=if a=b then x else jj l b:=by
 unfold jj;grind
def stoW (w:List Int) (cs:List Cl):List Int:=cs.foldl (λw c=>w.set c.1.toNat c.2) w
section
variable {S:je} {M:zG} {me:Int}
theorem Qx {p:Qd} {a:cB} (hp:p.fin=0) (ha:a.err=0):jJ p a=(false,p):=by
 simp_all[jJ,iV]
theorem zX {c:jX} {a:cB} (hp:c.p.fin=0) (ha:a.err=0):jV c a=if c.state=0∨c.state=1 then yf c a
 else if c.state=2∨c.state=3 then yC c a
 else if c.state=4 then xe c a.lk
 else if c.state=5 then zV { c with at_:=c.at_+1 }
 else if c.state=6 then zo { c with at_:=c.at_+1 }
 else xK { c with at_:=c.at_+1 }:=by
 grind[jV,Qx]
theorem Uy {M N:zG} {o:dj} {a:cB} (hk:o.kind=1∨o.kind=2) (e:Xm M o=(a,N)) (h0:a.err=0):qR M o=(a,{ N with aN:=N.aN+1 }):=by
 simp_all[gX,gG]
theorem GH {M N:zG} {o:dj} {a:cB} (hk:o.kind=3∨o.kind=4∨o.kind=5) (e:Xp M o=(a,N)) (h0:a.err=0):qR M o=(a,{ N with aN:=N.aN+1 }):=by
 have e':gX M o=(a,N):=by unfold gX;grind
 simp_all[gG]
theorem X6 {M N:zG} {o:dj} {a:cB} (hk:o.kind=6∨o.kind=7) (e:YA M o=(a,N)) (h0:a.err=0):qR M o=(a,{ N with aN:=N.aN+1 }):=by
 have e':gX M o=(a,N):=by unfold gX;grind
 simp_all[gG]
end
end
section
theorem qQ5 {p v:Int} {l:List Cl} {c:Cl} (h:c∈gd p v l):c=(p,v)∨c∈l:=by
 induction l with
 |nil=>exact .inl (List.mem_singleton.1 h)
 |cons d l ih=>
  unfold gd at h
  grind
theorem qQ7 {cs:List Cl}:∀{l:List Cl} {c:Cl},c∈wU l cs→c∈cs∨c∈l:=by
 induction cs with
 |nil=>intro l c h;exact .inr h
 |cons d r ih=>
  intro l c h;rcases ih (l:=gd d.1 d.2 l) h with h |h
  ·grind
  ·rcases qQ5 h with h |h
   all_goals grind
theorem qqd:∀{lv:List bC} {out:List Cl} {c:Cl},c∈lv.foldl (λout x=>wU x.1 out) out→c∈out∨∃x∈lv,c∈x.1:=by
 intro lv
 induction lv with
 |nil=>simp
 |cons x r ih=>
  intro out c h;rcases ih h with h |⟨y,hy,h⟩
  ·rcases qQ7 h with h |h
   all_goals grind
  grind
theorem ND {lv:List bC} {c:Cl} (h:c∈jP lv):∃x∈lv,c∈x.1:=by
 rcases qqd h with h |h
 all_goals grind
theorem qYb {lv:List bC} (h:∀x∈lv,∀c∈x.1,0≤c.2∧c.2<18446744073709551616):∀c∈jP lv,0≤c.2∧c.2<18446744073709551616:=λc hc=>by
 obtain⟨x,hx,h1⟩:=ND hc;grind
def E4 (n:Nat) (lv:List bC):Prop:=∀x∈lv,∀c∈x.1,1≤c.1∧c.1<n
theorem qvl {n most:Nat} {lv:List bC} {p v:Int} (h:E4 n lv) (hp:1≤p∧p<n):E4 n (gc most lv p v).2:=by
 unfold gc;cases lv with
 |nil=>grind
 |cons x r=>
  dsimp only
  split
  ·grind
  ·split
   ·grind
   ·intro y hy c hc;rcases List.mem_cons.1 hy with rfl |hy
    ·rcases qQ5 hc with rfl |hc
     ·grind
     ·exact h x (iK ..) c hc
    ·exact h y (iX _ hy) c hc
theorem qYs {n most:Nat} {aw:List bC} (hw:E4 n aw):∀{cs:List Cl} {lv:List bC},E4 n lv→(∀c∈cs,1≤c.1∧c.1<n)→E4 n (gr most aw lv cs).2:=by
 intro cs
 induction cs with
 |nil=>intro lv h _;exact h
 |cons c cs ih=>
  intro lv h hc;rw[wC]
  split
  all_goals simp_all[qvl]
def cG (V:VM):Prop:=E4 V.sz V.lv
theorem cG.read {V:VM} (h:cG V) (p:Int):cG (qm V p).2:=by
 unfold qm
 repeat' split
 all_goals exact h
theorem cG.take {V:VM} (h:cG V) (cs:List Cl):cG (z7 V cs).2:=by
 unfold z7
 split
 ·rename_i hc;exact qYs h h hc
 grind
theorem cG.ask {V:VM} (h:cG V) (b:Int):cG (zE V b).2:=by
 unfold zE
 repeat' split
 all_goals first |exact h |exact h.read _
theorem cG.again {V:VM} (h:cG V) (c b:Int):cG (vS V c b).2:=by
 unfold vS
 repeat' split
 all_goals first |exact h |exact h.read _ |exact(h.read _).take _
theorem cG.grown {V:VM} (h:cG V) (c:Int):cG (vO V c).2:=by
 unfold vO
 repeat' split
 all_goals first |exact h |exact h.read _ |exact(h.read _).take _
theorem cG.alloc {V:VM} (h:cG V) (n:Int):cG (xO V n).2:=by
 unfold xO
 repeat' split
 all_goals first |exact h |exact h.read _ |exact(h.read _).grown _ |exact(h.read _).again _ _
theorem cG.Li {V:VM} (h:cG V) (b:Int):cG (lh V b):=by
 intro x hx c hc;have hx:x∈YU V.lv b:=hx;unfold YU at hx;cases hl:V.lv with
 |nil=>grind
 |cons y r=>
  rw[hl]at hx;rcases List.mem_cons.1 hx with rfl |hx
  ·exact h y (by grind) c hc
  ·exact h x (by grind) c hc
theorem cG.free {V:VM} (h:cG V) (b:Int):cG (ga V b).2:=by
 unfold ga
 repeat' split
 all_goals first |exact(((h.ask _).take _).Li _) |exact(h.ask _).take _ |exact h.ask _
theorem cG.nf {V:VM} (h:cG V) (b:Int):cG (yM V b).2:=by
 unfold yM
 repeat' split
 all_goals first |exact((h.ask _).read _).take _ |exact(h.ask _).read _ |exact h.ask _
theorem cG.oB {V:VM} (h:cG V):cG (yN V).2:=by
 unfold yN kV
 split
 ·omega
 ·intro x hx c hc;rcases List.mem_cons.1 hx with rfl |hx
  ·grind
  ·exact h x hx c hc
theorem cG.drop {V:VM} (h:cG V):cG (xa V).2:=by
 unfold xa Jp
 split
 ·omega
 ·intro x hx c hc;exact h x (List.mem_of_mem_tail hx) c hc
theorem cG.keep {V:VM} (h:cG V):cG (gM V).2:=by
 intro x hx c hc;have hx:x∈(Qa V.lv).2:=hx;unfold Qa at hx
 split at hx
 ·rename_i a b r hl;rcases List.mem_cons.1 hx with rfl |hx
  ·rcases qQ7 hc with hc |hc
   ·exact h a (by grind) c hc
   ·exact h b (by grind) c hc
  ·exact h x (by grind) c hc
 ·exact h x hx c hc
theorem cG.aI {V:VM} (h:cG V) {op a nx:Int} {s:IM}:cG (xE op a nx s V).v:=by
 unfold xE
 split<;>exact h.oB
theorem cG.uc {mt:List Int} {s:IM}:∀(o:List cZ) {V:VM},cG V→cG (yl mt o s V).v:=by
 intro o
 induction o with
 |nil=>intro V h;exact h
 |cons p o ih=>
  intro V h;unfold yl
  split
  ·split
   ·exact(cG.aI h.drop)
   ·exact ih h.drop
  ·exact h.drop
theorem cG.DM {V:VM} (h:cG V) (mt:List Int) (s:IM) (op:Int):cG (gY mt s V op).v:=by
 unfold gY
 split
 ·exact cG.aI h
 ·split
  ·exact h.keep
  ·split
   ·exact h.keep
   ·split
    ·exact h.drop
    grind[cG.uc]
theorem cG.ud {V:VM} (h:cG V) (s:IM) (x:qO):cG (zB s V x).2.2:=by
 unfold zB
 split
 ·split
  ·split<;>exact h.read _
  grind
 ·split
  ·split
   ·exact h.take _
   grind
  ·split
   ·split
    ·grind
    ·split<;>exact h.alloc _
   ·split
    ·grind
    ·exact h.free _
theorem jQf {c:Prop} [Decidable c] {a b:SM} (ha:cG a.v) (hb:cG b.v):cG (if c then a else b).v:=by
 grind
theorem cG.do_ {V:VM} (h:cG V) (mt:List Int) (s:IM) (x:qO):cG (bG mt s V x).v:=by
 have ht:=h.ud s x;have hu:=h.DM mt s x.1;unfold bG;generalize zB s V x=T at*;generalize gY mt s V x.1=U at*
 repeat' (first |exact h |exact ht |exact hu |apply jQf)
theorem cG.run {l:List qO} {mt:List Int}:∀(n:Nat) {s:IM} {V:VM},cG V→cG (zh l mt n s V).v:=by
 intro n
 induction n with
 |zero=>grind[QD]
 |succ n ih=>
  intro s V h;have hd:=h.do_ mt s (qM l s.pc);rw[QR];grind
theorem cG.gives:∀(bs:List Int) (k:Nat) {V:VM},cG V→cG (xP V bs k).2:=by
 intro bs
 induction bs with
 |nil=>intro k V h;exact h
 |cons b r ih=>
  intro k V h;unfold xP
  split
  ·exact ih _ (h.nf b)
  ·exact h.nf b
end
section
abbrev nJ (z:Int):Prop:=0≤z∧z<18446744073709551616
structure DP (M:zG):Prop where
  w:∀z∈M.w,nJ z
  n:nJ M.n
  s:∀z∈M.s,nJ z
theorem qGU {l:List Int} (h:∀z∈l,nJ z) (i:Int):nJ (qB l i):=by
 unfold qB;cases hi:l[i.toNat]? with
 |none=>grind
 |some z=>exact h z (List.mem_of_getElem? hi)
theorem qQm {l:List Int} (h:∀z∈l,nJ z) {i:Nat} {w:Int} (hw:nJ w):∀z∈l.set i w,nJ z:=λz hz=>by
 grind
theorem Jn {M:zG} {o:dj} (R:DP M) (ho:nJ o.word):vB (qR M o).1∧DP (qR M o).2:=by
 have z0:nJ (0:Int):=⟨Int.le_refl _,by simp⟩;have key:vB (gX M o).1∧DP (gX M o).2:=by
  unfold gX
  split
  ·unfold Xm
   split
   ·trivial
   ·split
    ·exact⟨qGU R.w _,R⟩
    ·exact⟨z0,⟨qQm R.w ho,R.n,R.s⟩⟩
  ·split
   ·unfold Xp
    repeat' split
    all_goals exact⟨z0,⟨R.w,R.n,R.s⟩⟩
   ·split
    ·unfold YA
     split
     ·exact⟨R.n,R⟩
     ·repeat' split
      all_goals first |exact⟨z0,R⟩ |exact⟨z0,⟨R.w,ho,R.s⟩⟩
    ·split
     ·unfold VJ
      split
      ·trivial
      ·split
       ·exact⟨qGU R.s _,R⟩
       ·exact⟨z0,⟨R.w,R.n,qQm R.s ho⟩⟩
     trivial
 rw[gG]
 split
 ·exact⟨key.1,⟨key.2.w,key.2.n,key.2.s⟩⟩
 grind
theorem Oh {M:zG} {o:dj}:(qR M o).2.aN≤M.aN+1∧M.aN≤(qR M o).2.aN:=by
 grind[qZ4,gG,gX]
theorem GM {c:jX} {f e y:Int}:(zH c f e y).cells=c.cells:=by grind[zH,xK]
theorem N0 {c:jX} {l:dz}:(xq c l).cells=c.cells:=by 
 grind[xq,GM]
theorem Zq {c:jX}:(zo c).cells=c.cells:=by grind[zo]
theorem NT {c:jX}:(zV c).cells=c.cells:=by 
 grind[zV,Zq]
theorem Kk {c:jX}:(zf c).cells=c.cells:=NT
theorem U7:∀(n:Nat) (c:jX),(zv c n).cells=c.cells:=by
 intro n
 induction n with
 |zero=>intro c;exact Kk
 |succ n ih=>
  grind[zv,GM,Kk]
theorem qYS {c:jX} {a:cB}:(jV c a).cells=c.cells:=by
 unfold jV
 split
 ·rfl
 ·split
  ·unfold yf
   split
   ·exact N0
   ·split
    ·rfl
    ·split
     all_goals rfl
  ·split
   ·unfold yC
    split
    ·exact GM
    ·split
     ·rfl
     ·split
      ·rfl
      ·split
       ·exact Kk
       ·exact U7 _ _
   ·split
    ·unfold xe
     split
     ·exact N0
     ·split
      ·exact GM
      ·exact U7 _ _
    grind[NT,Zq,xK]
def Gi (x:q9):Prop:=∀c,x.c=some c→∀q∈c.cells,nJ q.2
theorem qjA {x:q9} {k e:Int} (G:zj x.v) (W:Gi x):Gi (xx x k e):=by
 unfold xx
 split
 ·exact W
 ·split
  ·exact W
  ·split
   ·exact W
   ·split
    ·exact W
    ·intro c hc;cases hc;exact qYb G.wd.l
theorem ON {x:q9} (B:JC x) (hj:bS True x.v x.aD) (W:Gi x):Gi (yX x):=by have D:=Uq B.aE B.fr hj;refine qjA D.aE ?_;intro c hc;rw[D.same.2.2.2.2]at hc;exact W c hc
theorem qq4 {x:q9} {a:cB} (O:zm x) (W:Gi x) (ha:vB a):Gi (qd x a):=by
 have bK:=O.st;have stamped:∀{y:q9},Gi y→Gi (jZ y):=λ{y} h=>by
  unfold jZ
  split
  ·split<;>exact h
  grind
 have told:∀{y:q9},zm y→3≤y.state→y.state≤6→Gi y→Gi (jz y):=λ{y} O h3 h6 W=>by
  refine stamped ?_;show Gi (if(zd y).1=0 then y else if(zd y).1=5 then z4 y 5 0 (zd y).2 else jd y)
  split
  ·grind
  ·split
   ·exact W
   ·unfold jd
    split
    ·rename_i hs;have hw:=Gj (O.f hs).2;unfold zZ
     split
     ·exact W
     ·split
      ·have hj:=(O.aD.same λ_=>by omega:bS True y.v y.aD).nh (p:=y.v.aB) hw;refine ON ⟨O.set,XJ O.aE hw,by show((yE y.v y.v.aB (yj y.f)).2.sz:Int)=y.set.words;rw[QJ.2];exact O.sz,by show bE (yE y.v y.v.aB (yj y.f)).2.lv<9000;rw[QJ.1];exact O.fr,Ya O.r,hj.same λh=>h.elim,O.c⟩ hj W
      ·split<;>exact W
    ·split
     ·exact W
     ·split
      ·exact W
      ·split<;>exact W
 unfold qd
 split
 ·grind
 ·split
  ·exact W
  ·split
   ·exact W
   ·split
    ·exact W
    ·split
     ·exact ON O.b (O.aD.same λ_=>by omega) W
     ·split
      ·exact W
      ·split
       ·rename_i hs;have hf:=O.f hs;refine told (y:={ x with f:=zC x.f a }) ?_ (by grind) (by grind) W;exact⟨O.set,O.aE,O.sz,O.fr,O.r,O.aD,O.st,λ_=>⟨KX hf.1,XI hf.2 ha⟩,O.aB,O.e,O.c,O.c0,O.c6⟩
       ·split
        ·rename_i hs;refine told (y:={ x with c:=x.c.map λc=>jV c a }) ?_ (by grind) (by grind) ?_
         ·refine⟨O.set,O.aE,O.sz,O.fr,O.r,O.aD,O.st,O.f,O.aB,O.e,λc h=>?_,λh=>absurd h (by grind),λh hn=>O.c6 h ?_⟩
          ·obtain⟨c',h1,rfl⟩:=Option.map_eq_some_iff.1 h;exact yR (O.c c' h1) ha
          simp_all
         ·intro c h;obtain⟨c',h1,rfl⟩:=Option.map_eq_some_iff.1 h;rw[qYS];exact W c' h1
        ·refine told (y:={ x with e:=zS x.e a }) ?_ (by grind) (by grind) W;exact⟨O.set,O.aE,O.sz,O.fr,O.r,O.aD,O.st,O.f,O.aB,λh1 h2=>Kj (O.e h1 h2),O.c,O.c0,O.c6⟩
theorem qjU {x:q9} {o:dj} (O:zm x) (W:Gi x) (h:zp x=some o):nJ o.word:=by
 have z0:nJ (0:Int):=⟨Int.le_refl _,by simp⟩;unfold zp at h
 split at h
 ·cases h;exact⟨by show(0:Int)≤1;simp,by show(1:Int)<_;simp⟩
 ·split at h
  ·cases h;exact z0
  ·split at h
   ·cases h;exact Rs _
   ·split at h
    ·cases h;exact z0
    ·split at h
     ·grind
     ·split at h
      ·unfold Qf at h
       split at h
       ·grind
       ·split at h<;>(cases h;exact z0)
      ·split at h
       ·rename_i h6;cases hc:x.c with
        |none=>grind
        |some c=>
         rw[hc]at h;have hn:=(O.c c hc).now;have h:yq c=some o:=h;unfold yq at h
         split at h
         ·grind
         ·split at h
          ·cases h;exact z0
          ·split at h
           ·grind
           ·split at h
            ·cases h;exact z0
            ·split at h
             ·grind
             ·split at h
              ·cases h;exact z0
              ·split at h
               ·cases h;show nJ (yp c.cells c.at_).2;unfold yp;cases hi:c.cells[c.at_.toNat]? with
                |none=>grind
                |some q=>exact W c hc q (List.mem_of_getElem? hi)
               grind
       ·unfold Qi at h
        split at h
        ·grind
        ·split at h<;>(cases h;exact z0)
theorem qv7 {me:Int} {S:je} {j:Xn}:Gi (KK me S j):=λc h=>by cases h
end
section
structure kg (S:je) (M:zG):Prop where
  w:(M.w.length:Int)=S.words
  l:(M.l.length:Int)=S.ae
  n:0≤M.n∧M.n<4611686018427387904
  lk:∀j,0≤j→j<S.ae→kB (jj M.l j)∧(jj M.l j).1≤M.n
structure wT (S:je) (n:Int) (c:jX) (me:Int):Prop where
  me:c.me=me
  ok:xf c
  s:∀z∈c.s,0≤z∧z<S.ae
  seen:∀y∈c.seen,0≤y.1∧y.1<S.ae
  cells:∀q∈c.cells,1≤q.1∧q.1<S.words
  aw:∀w∈c.aw,w.2=(false,0)∧w.1≤n
  s1:c.state=1→c.lk.2=(false,0)∧c.lk.1≤n
  s3:c.state=3→c.now<4611686018427387903
  s4:4≤c.state→c.state≤6→c.now+1≤n
def holds (c:jX) (j:Int):Prop:=∃k:Nat,c.s[k]? =some j∧k<c.aw.length∧(6≤c.state→c.at_≤k)
variable {S:je} {M:zG} {c d:jX} {me:Int}
structure Kp (c d:jX):Prop where
  me:d.me=c.me
  s:d.s=c.s
  seen:d.seen=c.seen
  cells:d.cells=c.cells
  aw:d.aw=c.aw
  now:d.now=c.now
  h:d.state<6∨d.at_=0
  f:d.p.fin≠0→c.aw=[]
  st:d.state=7∨d.state=c.state∨(3≤c.state∧4≤d.state)
theorem Kp.holds (K:Kp c d) {j:Int} (h:holds c j):d.p.fin=0∧holds d j:=by
 obtain⟨k,h1,h2,_⟩:=h;refine⟨?_,k,by rw[K.s];grind,by rw[K.aw];grind,λh6=>?_⟩
 ·by_cases hf:d.p.fin=0
  ·grind
  ·rw[K.f hf]at h2;grind
 ·have:=K.h;omega
theorem Kp.trans {e:jX} (a:Kp c d) (b:Kp d e) (_:3≤c.state→3≤d.state) (_:d.p.fin=0) (h7:d.state≠7): Kp c e :=
 ⟨b.me.trans a.me,b.s.trans a.s,b.seen.trans a.seen,b.cells.trans a.cells,b.aw.trans a.aw,b.now.trans a.now,b.h,λh=>by rw[← a.aw];exact b.f h,by
  have h1:=a.st;have h2:=b.st;omega⟩
theorem wT.kp {n n':Int} (C:wT S n c me) (K:Kp c d) (ok:xf d) (hn:n≤n') (h1:c.state≠1) (h3:3≤c.state→c.state≤4→c.now+1≤n') (h5:c.state≤4):wT S n' d me :=
 ⟨K.me.trans C.me,ok,by rw[K.s];exact C.s,by rw[K.seen];exact C.seen,by rw[K.cells];exact C.cells,by rw[K.aw];exact λw hw=>⟨(C.aw w hw).1,Int.le_trans (C.aw w hw).2 hn⟩,
  λh=>(by have:=K.st;omega),λh=>(by rw[K.now];refine C.s3 ?_;have:=K.st;omega),λh4 h6=>by rw[K.now];exact h3 (by have:=K.st;omega) h5⟩
theorem VW {f e y:Int} (hp:c.p.fin=0):Kp c (zH c f e y):=by
 unfold zH xK
 split
 ·rename_i h;have h:(0:Int)=(c.aw.length:Int):=h;exact⟨rfl,rfl,rfl,rfl,rfl,rfl,.inr rfl,λ_=>iA omQ,.inl rfl⟩
 ·exact⟨rfl,rfl,rfl,rfl,rfl,rfl,.inr rfl,λh=>absurd hp h,.inl rfl⟩
theorem cD {p:Qd} {l:dz}:(jQ p l).2.fin=p.fin:=by
 grind[jQ]
theorem qG1 {l:dz} (hp:c.p.fin=0) (h6:c.state<6):Kp c (xq c l):=by
 unfold xq
 split
 ·exact⟨rfl,rfl,rfl,rfl,rfl,rfl,.inl h6,λh=>absurd (cD.trans hp) h,.inr (.inl rfl)⟩
 ·have K:=VW (c:={ c with p:=(jQ c.p l).2 }) (f:=5) (e:=0) (y:=l.2.2) (cD.trans hp);exact⟨K.me,K.s,K.seen,K.cells,K.aw,K.now,K.h,K.f,K.st⟩
theorem Nw (hp:c.p.fin=0) (h3:3≤c.state) (hl:c.aw.length=c.s.length):Kp c (zf c):=by
 unfold zf zV zo;have h5:∀d:jX,d={ c with ag:=true,at_:=0,state:=5 }→Kp c d:=λd e=>by
  subst e;exact⟨rfl,rfl,rfl,rfl,rfl,rfl,.inl (by simp),λh=>absurd hp h,.inr (.inr ⟨h3,by simp⟩)⟩
 split
 ·split
  ·rename_i h;have h:(0:Int)=(c.s.length:Int):=h;exact⟨rfl,rfl,rfl,rfl,rfl,rfl,.inr rfl,λ_=>iA omQ,.inr (.inr ⟨h3,by simp⟩)⟩
  ·exact⟨rfl,rfl,rfl,rfl,rfl,rfl,.inr rfl,λh=>absurd hp h,.inr (.inr ⟨h3,by simp⟩)⟩
 grind
theorem qWs:∀(k:Nat) {c:jX},c.p.fin=0→3≤c.state→c.state<6→c.aw.length=c.s.length→Kp c (zv { c with state:=4 } k):=by
 intro k
 induction k with
 |zero=>intro c hp h3 h6 hl;have K:=Nw (c:={ c with state:=4 }) hp (by simp) hl;exact⟨K.me,K.s,K.seen,K.cells,K.aw,K.now,K.h,K.f,by have:=K.st;show _∨_∨(3≤c.state∧_);have e:({ c with state:=4 }:jX).state=4:=rfl;grind[zv]⟩
 |succ k ih=>
  intro c hp h3 h6 hl;have kp4:Kp c { c with state:=4 }:=⟨rfl,rfl,rfl,rfl,rfl,rfl,.inl (by simp),λh=>absurd hp h,.inr (.inr ⟨h3,Int.le_refl _⟩)⟩;unfold zv
  split
  ·split
   ·grind
   ·split
    ·exact kp4.trans (VW hp) (λ_=>by simp) hp (by simp)
    ·have K:=ih (c:={ c with at_:=c.at_+1 }) hp h3 h6 hl;exact⟨K.me,K.s,K.seen,K.cells,K.aw,K.now,K.h,K.f,K.st⟩
  ·exact kp4.trans (Nw hp (by simp) hl) (λ_=>by simp) hp (by simp)
theorem qJf (hp:c.p.fin=0) (h3:3≤c.state) (h6:c.state<6) (hl:c.aw.length=c.s.length):Kp c (xm c):=qWs _ hp h3 h6 hl
theorem qJm {ss:List Int} (h:ss.Pairwise (· < ·)) {j k:Nat} {s:Int} (hj:ss[j]? =some s) (hk:ss[k]? =some s):j=k:=by
 grind[List.pairwise_iff_getElem,List.getElem?_eq_some_iff,Nat.lt_trichotomy]
structure qGP (S:je) (M:zG) (c:jX) (me:Int) (r:cB×zG) (d:jX):Prop where
  err:r.1.err=0
  Lj:vB r.1
  mem:kg S r.2
  dL:wT S r.2.n d me
  n:M.n≤r.2.n∧r.2.n≤M.n+1
  held:∀j,0≤j→j<S.ae→(jj r.2.l j).2.1=true→(jj r.2.l j=jj M.l j∧(holds c j→d.p.fin=0∧holds d j))∨((jj r.2.l j).2.2=me∧d.p.fin=0∧holds d j)
theorem OO {ss:List Int} {k:Nat} (h:k<ss.length):qB ss (k:Int)=ss[k]:=by simp_all[qB,Int.toNat_natCast]
theorem kg.aN (MO:kg S M) (k:Int):kg S { M with aN:=k }:=⟨MO.w,MO.l,MO.n,MO.lk⟩
theorem kg.put (MO:kg S M) {z:Int} (h0:0≤z) (h1:z<S.ae) {x:dz} (hx:kB x) (hn:x.1≤M.n) (k:Int):kg S { M with l:=M.l.set z.toNat x,aN:=k }:=by
 refine⟨MO.w,by show((M.l.set _ _).length:Int)=_;rw[List.length_set];exact MO.l,MO.n,λj j0 j1=>?_⟩;have:=MO.l;show kB (jj (M.l.set z.toNat x) j)∧(jj (M.l.set z.toNat x) j).1≤M.n;rw[ZD h0 j0 omQ]
 split
 ·grind
 ·exact MO.lk j j0 j1
theorem N8 (MO:kg S M) {z:Int} (h0:0≤z) (h1:z<S.ae):qR M (bx 3 z 0)=(⟨0,jj M.l z,false,0⟩,{ M with aN:=M.aN+1 }):=by have:=MO.l;exact GH (.inl rfl) (by unfold Xp;rw[iQ (by show¬(z<0∨(M.l.length:Int)≤z);omega)];rfl) rfl
theorem RE (MO:kg S M) {z:Int} (h0:0≤z) (h1:z<S.ae) {x:dz} (hx:kB x):qR M ⟨5,z,0,0,cC,x⟩=(cO,{ M with l:=M.l.set z.toNat x,aN:=M.aN+1 }):=by have:=MO.l;refine GH (M:=M) (N:={ M with l:=M.l.set z.toNat x }) (.inr (.inr rfl)) ?_ rfl;unfold Xp;grind
theorem Yk {w:Int} {l:dz} {b:Bool} (h:0≤w∧w<18446744073709551616):vB ⟨w,l,b,0⟩:=h
theorem ZT (MO:kg S M) (C:wT S M.n c me) (hm:0≤me∧me<4) (hp:c.p.fin=0):∃o,yq c=some o∧qGP S M c me (qR M o) (jV c (qR M o).1):=by
 have O:=C.ok;have bK:=O.st
 have mT:yq c=(if c.state=0 then some (bx 3 (qB c.s c.aw.length) 0)
   else if c.state=1 then some ⟨4,qB c.s c.aw.length,0,0,c.lk,(c.lk.1,true,c.me)⟩
   else if c.state=2 then some (bx 6 0 0)
   else if c.state=3 then some ⟨7,0,c.now,c.now+1,cC,cC⟩
   else if c.state=4 then some (bx 3 (zW c.seen c.at_).1 0)
   else if c.state=5 then some (bx 2 (yp c.cells c.at_).1 (yp c.cells c.at_).2)
   else if c.state=6 then some ⟨5,qB c.s c.at_,0,0,cC,(c.now+1,false,0)⟩
   else some ⟨5,qB c.s c.at_,0,0,cC,jj c.aw c.at_⟩):=by
  simp_all[yq]
 have nl:∀k:Nat,k<c.s.length→∃z,c.s[k]? =some z∧qB c.s (k:Int)=z∧0≤z∧z<S.ae:=λk hk=>⟨c.s[k],iW hk,OO hk,C.s _ (List.getElem_mem hk)⟩
 have hnn:=MO.n;have same:∀{M':zG} {d:jX},M'.l=M.l→Kp c d→∀j,0≤j→j<S.ae→(jj M'.l j).2.1=true→(jj M'.l j=jj M.l j∧(holds c j→d.p.fin=0∧holds d j))∨((jj M'.l j).2.2=me∧d.p.fin=0∧holds d j) :=
  λhl K j _ _ _=>.inl ⟨by rw[hl],λh=>K.holds h⟩
 by_cases s0:c.state=0
 ·obtain⟨z,hz,hn,z0,z1⟩:=nl _ (O.hJ hp omQ);refine⟨bx 3 z 0,by grind,?_⟩;rw[N8 MO z0 z1];have hA:vB ⟨0,jj M.l z,false,0⟩:=Yk omQ;have hk:=yR O hA;have et:jV c ⟨0,jj M.l z,false,0⟩=if(jj M.l z).2.1=true then xq c (jj M.l z)else{ c with lk:=jj M.l z,state:=1 }:=by
   rw[zX hp rfl,iJ (.inl s0)];unfold yf;grind
  have hlk:=MO.lk z z0 z1;dsimp only;rw[et]at hk ⊢;by_cases hh:(jj M.l z).2.1=true
  ·rw[iJ hh]at hk ⊢;have K:=qG1 (l:=jj M.l z) hp omQ;exact⟨rfl,hA,MO.aN _,C.kp K hk (Int.le_refl _) omQ (λh=>by omega) omQ,⟨Int.le_refl _,by grind⟩,same rfl K⟩
  ·rw[iQ hh]at hk ⊢;have hf:(jj M.l z).2.1=false:=by grind
   refine⟨rfl,hA,MO.aN _,⟨C.me,hk,C.s,C.seen,C.cells,C.aw,λ_=>⟨?_,hlk.2⟩,λh=>(by grind),λh=>absurd h (by simp)⟩,⟨Int.le_refl _,by grind⟩,λj _ _ _=>.inl ⟨rfl,λh=>⟨hp,?_⟩⟩⟩
   ·have:=hlk.1;unfold kB at this;grind
   ·obtain⟨k,h1,h2,_⟩:=h;exact⟨k,h1,h2,λh=>absurd h (by simp)⟩
 by_cases s1:c.state=1
 ·have mU:=O.hJ hp omQ;obtain⟨z,hz,hn,z0,z1⟩:=nl _ mU;obtain⟨l1,l2⟩:=C.s1 s1;have hl:=MO.l;refine⟨⟨4,z,0,0,c.lk,(c.lk.1,true,c.me)⟩,by grind,?_⟩;have hx:kB (c.lk.1,true,c.me):=by rw[Ge,C.me];omega
  by_cases he:jj M.l z=c.lk
  ·have e:qR M ⟨4,z,0,0,c.lk,(c.lk.1,true,c.me)⟩=(⟨0,cC,true,0⟩,{ M with l:=M.l.set z.toNat (c.lk.1,true,c.me),aN:=M.aN+1 }):=by
    refine GH (M:=M) (N:={ M with l:=M.l.set z.toNat (c.lk.1,true,c.me) }) (.inr (.inl rfl)) ?_ rfl;simp_all[Xp,iQ]
   rw[e];have hA:vB ⟨0,cC,true,0⟩:=Yk omQ;have hk:=yR O hA;have et:jV c ⟨0,cC,true,0⟩=zk { c with aw:=c.aw++[c.lk] }:=by rw[zX hp rfl,iJ (.inr s1)];unfold yf;grind
   dsimp only;rw[et]at hk ⊢;have I2:(zk { c with aw:=c.aw++[c.lk] }).state=0∨(zk { c with aw:=c.aw++[c.lk] }).state=2:=by
    unfold zk;grind
   have hw:(zk { c with aw:=c.aw++[c.lk] }).aw=c.aw++[c.lk]:=rfl;refine⟨rfl,hA,MO.put z0 z1 hx l2 _,⟨C.me,hk,C.s,C.seen,C.cells,λw hw=>?_,λh=>omQ,λh=>omQ,λh=>by omega⟩,⟨Int.le_refl _,by grind⟩,λj j0 j1 hj=>?_⟩
   ·rcases List.mem_append.1 hw with hw |hw
    ·exact C.aw w hw
    grind
   ·have grow:∀{j},holds c j→holds (zk { c with aw:=c.aw++[c.lk] }) j:=λ⟨k,h1,h2,_⟩=>⟨k,h1,by grind,λh=>by omega⟩;have rC:(jj (M.l.set z.toNat (c.lk.1,true,c.me)) j).2.1=true:=hj;rw[show(({ M with l:=M.l.set z.toNat (c.lk.1,true,c.me),aN:=M.aN+1 }:zG)).l=M.l.set z.toNat (c.lk.1,true,c.me)from rfl];rw[ZD z0 j0 omQ]at rC ⊢;by_cases ej:z=j
    ·subst ej;rw[iJ rfl];exact .inr ⟨C.me,hp,c.aw.length,hz,by grind,λh=>by omega⟩
    ·rw[iQ ej];exact .inl ⟨rfl,λh=>⟨hp,grow h⟩⟩
  ·have e:qR M ⟨4,z,0,0,c.lk,(c.lk.1,true,c.me)⟩=(cO,{ M with aN:=M.aN+1 }):=by
    refine GH (M:=M) (N:=M) (.inr (.inl rfl)) ?_ rfl;simp_all[Xp,iQ]
   rw[e];have hA:vB cO:=Yk omQ;have hk:=yR O hA;have et:jV c cO={ c with state:=0 }:=by rw[zX hp rfl,iJ (.inr s1)];unfold yf;rw[iQ (λh=>s0 h.1),iQ s0,iQ (by nofun)]
   dsimp only;rw[et]at hk ⊢;refine⟨rfl,hA,MO.aN _,⟨C.me,hk,C.s,C.seen,C.cells,C.aw,λh=>(by grind),λh=>(by grind),λh=>absurd h (by simp)⟩,⟨Int.le_refl _,by grind⟩,λj _ _ _=>.inl ⟨rfl,λ⟨k,h1,h2,_⟩=>⟨hp,k,h1,h2,λh=>absurd h (by simp)⟩⟩⟩
 by_cases s2:c.state=2
 ·refine⟨bx 6 0 0,by grind,?_⟩;have e:qR M (bx 6 0 0)=(⟨M.n,cC,false,0⟩,{ M with aN:=M.aN+1 }):=X6 (.inl rfl) rfl rfl;rw[e];have hA:vB ⟨M.n,cC,false,0⟩:=Yk omQ;have hk:=yR O hA;have et:jV c ⟨M.n,cC,false,0⟩=if 4611686018427387903≤M.n then zH c 4 7 (-1)else{ c with now:=M.n,state:=3 }:=by
   rw[zX hp rfl,iQ omQ,iJ (.inl s2)];simp_all[yC]
  dsimp only;rw[et]at hk ⊢;by_cases hc:4611686018427387903≤M.n
  ·rw[iJ hc]at hk ⊢;have K:=VW (f:=4) (e:=7) (y:=-1) hp;exact⟨rfl,hA,MO.aN _,C.kp K hk (Int.le_refl _) omQ (λh=>by omega) omQ,⟨Int.le_refl _,by grind⟩,same rfl K⟩
  ·rw[iQ hc]at hk ⊢;exact⟨rfl,hA,MO.aN _,⟨C.me,hk,C.s,C.seen,C.cells,C.aw,λh=>(by grind),λ_=>(by grind),λh=>absurd h (by simp)⟩,⟨Int.le_refl _,by grind⟩,λj _ _ _=>.inl ⟨rfl,λ⟨k,h1,h2,_⟩=>⟨hp,k,h1,h2,λh=>absurd h (by simp)⟩⟩⟩
 by_cases s3:c.state=3
 ·have mI:=C.s3 s3;have lA:0≤c.now:=by have:=O.ar;grind[zi]
  have AG:=(O.Rv omQ omQ).1;refine⟨⟨7,0,c.now,c.now+1,cC,cC⟩,by grind,?_⟩;by_cases hq:M.n=c.now
  ·have e:qR M ⟨7,0,c.now,c.now+1,cC,cC⟩=(⟨0,cC,true,0⟩,{ M with n:=c.now+1,aN:=M.aN+1 }):=by
    refine X6 (M:=M) (N:={ M with n:=c.now+1 }) (.inr rfl) ?_ rfl;unfold YA;grind
   rw[e];have hA:vB ⟨0,cC,true,0⟩:=Yk omQ;have hk:=yR O hA;have et:jV c ⟨0,cC,true,0⟩=if c.now=c.aa then zf c else xm c:=by rw[zX hp rfl,iQ omQ,iJ (.inr s3)];simp_all[yC]
   dsimp only;rw[et]at hk ⊢;have K:Kp c (if c.now=c.aa then zf c else xm c):=by
    split
    ·exact Nw hp omQ AG
    ·exact qJf hp omQ omQ AG
   exact⟨rfl,hA,⟨MO.w,MO.l,by grind,λj a b=>⟨(MO.lk j a b).1,by have:=(MO.lk j a b).2;grind⟩⟩,C.kp K hk (by grind) omQ (λ_ _=>Int.le_refl _) omQ,⟨by grind,by grind⟩,same rfl K⟩
  ·have e:qR M ⟨7,0,c.now,c.now+1,cC,cC⟩=(cO,{ M with aN:=M.aN+1 }):=by
    refine X6 (M:=M) (N:=M) (.inr rfl) ?_ rfl;unfold YA;grind
   rw[e];have hA:vB cO:=Yk omQ;have hk:=yR O hA;have et:jV c cO={ c with state:=2 }:=by rw[zX hp rfl,iQ omQ,iJ (.inr s3)];unfold yC;rw[iQ (λh=>s2 h.1),iQ s2,iJ (by rfl)]
   dsimp only;rw[et]at hk ⊢;exact⟨rfl,hA,MO.aN _,⟨C.me,hk,C.s,C.seen,C.cells,C.aw,λh=>(by grind),λh=>(by grind),λh=>absurd h (by simp)⟩,⟨Int.le_refl _,by grind⟩,λj _ _ _=>.inl ⟨rfl,λ⟨k,h1,h2,_⟩=>⟨hp,k,h1,h2,λh=>absurd h (by simp)⟩⟩⟩
 by_cases s4:c.state=4
 ·have AG:=(O.Rv omQ omQ).1;have cx:=O.DD hp s4;have fh:=O.lo;have hz:0≤(zW c.seen c.at_).1∧(zW c.seen c.at_).1<S.ae:=by
   refine C.seen _ ?_;simp_all[zW,List.getElem_mem]
  refine⟨bx 3 (zW c.seen c.at_).1 0,by grind,?_⟩;rw[N8 MO hz.1 hz.2];generalize jj M.l (zW c.seen c.at_).1=l;have hA:vB ⟨0,l,false,0⟩:=Yk omQ;have hk:=yR O hA;have et:jV c ⟨0,l,false,0⟩=xe c l:=by rw[zX hp rfl,iQ omQ,iQ omQ,iJ s4]
  dsimp only;rw[et]at hk ⊢;have K:Kp c (xe c l):=by
   unfold xe
   split
   ·exact qG1 hp omQ
   ·split
    ·grind[VW]
    ·have K:=qJf (c:={ c with at_:=c.at_+1 }) hp (by grind) (by grind) AG;exact⟨K.me,K.s,K.seen,K.cells,K.aw,K.now,K.h,K.f,K.st⟩
  exact⟨rfl,hA,MO.aN _,C.kp K hk (Int.le_refl _) omQ (λh _=>C.s4 omQ omQ) omQ,⟨Int.le_refl _,by grind⟩,same rfl K⟩
 by_cases s5:c.state=5
 ·have cx:=O.Rw hp s5;have fh:=O.lo;have AG:c.aw.length=c.s.length:=by have:=O.ar;grind[zi]
  have hz:1≤(yp c.cells c.at_).1∧(yp c.cells c.at_).1<S.words:=by refine C.cells _ ?_;simp_all[yp,List.getElem_mem]
  have hw:=MO.w;refine⟨bx 2 (yp c.cells c.at_).1 (yp c.cells c.at_).2,by grind,?_⟩;generalize yp c.cells c.at_=q at hz;have e:qR M (bx 2 q.1 q.2)=(cO,{ M with w:=M.w.set q.1.toNat q.2,aN:=M.aN+1 }):=by refine Uy (M:=M) (N:={ M with w:=M.w.set q.1.toNat q.2 }) (.inr rfl) ?_ rfl;unfold Xm;rw[iQ (by show¬(q.1<1∨(M.w.length:Int)≤q.1);omega),iQ (by nofun)];rfl
  rw[e];have hA:vB cO:=Yk omQ;have hk:=yR O hA;have et:jV c cO=zV { c with at_:=c.at_+1 }:=by rw[zX hp rfl,iQ omQ,iQ omQ,iQ omQ,iJ s5]
  dsimp only;rw[et]at hk ⊢;have hs4:=C.s4 omQ omQ;have K:∀{j},holds c j→(zV { c with at_:=c.at_+1 }).p.fin=0∧holds (zV { c with at_:=c.at_+1 }) j:=λ{j} ⟨k,h1,h2,_⟩=>by
   unfold zV zo
   split
   ·split
    ·grind
    ·exact⟨hp,k,h1,h2,λ_=>(by simp)⟩
   ·exact⟨hp,k,h1,h2,λh=>absurd h (by grind)⟩
  have F:(zV { c with at_:=c.at_+1 }).me=c.me∧(zV { c with at_:=c.at_+1 }).s=c.s∧(zV { c with at_:=c.at_+1 }).seen=c.seen∧(zV { c with at_:=c.at_+1 }).cells=c.cells∧(zV { c with at_:=c.at_+1 }).aw=c.aw∧(zV { c with at_:=c.at_+1 }).now=c.now∧5≤(zV { c with at_:=c.at_+1 }).state:=by
   unfold zV zo
   grind
  generalize zV { c with at_:=c.at_+1 }=d at*;obtain⟨f1,f2,f3,f4,f5,f6,f7⟩:=F;refine⟨rfl,hA,⟨by grind,MO.l,MO.n,MO.lk⟩,⟨f1.trans C.me,hk,by rw[f2];exact C.s,by rw[f3];exact C.seen,by rw[f4];exact C.cells,by rw[f5];exact C.aw,λh=>omQ,λh=>omQ,λ_ _=>by grind⟩,⟨Int.le_refl _,by grind⟩,λj _ _ _=>.inl ⟨rfl,K⟩⟩
 have oD:∀(z:Int) (k:Nat) (x:dz) (d:jX),c.s[k]? =some z→0≤z→z<S.ae→kB x→x.2.1=false→x.1≤M.n→c.at_=(k:Int)→6≤c.state→xf d→d.me=c.me→d.s=c.s→d.seen=c.seen→d.cells=c.cells→d.aw=c.aw→d.now=c.now→d.state=c.state→d.at_=c.at_+1→(d.p.fin≠0→c.aw.length≤k+1)→
   qGP S M c me (cO,{ M with l:=M.l.set z.toNat x,aN:=M.aN+1 }) d:=λz k x d hz z0 z1 hx hxf hxn hak h6 hk g1 g2 g3 g4 g5 g6 g7 g8 g9=>by
  have hl:=MO.l;refine⟨rfl,Yk omQ,MO.put z0 z1 hx hxn _,⟨g1.trans C.me,hk,by rw[g2];exact C.s,by rw[g3];exact C.seen,by rw[g4];exact C.cells,by rw[g5];exact C.aw,λh=>omQ,λh=>omQ,λh1 h2=>by rw[g6];exact C.s4 omQ omQ⟩,⟨Int.le_refl _,by grind⟩,λj j0 j1 hj=>?_⟩;have rC:(jj (M.l.set z.toNat x) j).2.1=true:=hj;show(jj (M.l.set z.toNat x) j=jj M.l j∧_)∨_;rw[ZD z0 j0 omQ]at rC ⊢;by_cases ej:z=j
  ·grind
  ·rw[iQ ej];refine .inl ⟨rfl,λ⟨q,h1,h2,h3⟩=>?_⟩;have h3:=h3 h6;have bW:q≠k:=λe=>by
    grind
   refine⟨?_,q,by grind,by grind,λ_=>by omega⟩;grind
 by_cases s6:c.state=6
 ·have cx:=O.Rx hp s6;have fh:=O.lo;obtain⟨k,hk⟩:∃k:Nat,c.at_=k:=⟨c.at_.toNat,by omega⟩;obtain⟨z,hz,hn,z0,z1⟩:=nl k omQ;have hs4:=C.s4 omQ omQ;have mI:0≤c.now:=by have:=O.ar;grind[zi]
  have AG:c.aw.length=c.s.length:=by have:=O.ar;grind[zi]
  refine⟨⟨5,z,0,0,cC,(c.now+1,false,0)⟩,by grind,?_⟩;have hx:kB (c.now+1,false,0):=by grind[Uh]
  rw[RE MO z0 z1 hx];have hA:vB cO:=Yk omQ;grind[yR,jV,cO,zo,zX]
 ·have s7:c.state=7:=by omega
  have cx:=O.Ry hp s7;have fh:=O.lo;obtain⟨k,hk⟩:∃k:Nat,c.at_=k:=⟨c.at_.toNat,by omega⟩;have oP:k<c.aw.length:=by omega
  obtain⟨z,hz,hn,z0,z1⟩:=nl k (by have:=O.aw;omega);have hw:=C.aw _ (List.getElem_mem oP);have ew:jj c.aw c.at_=c.aw[k]:=by unfold jj;grind
  refine⟨⟨5,z,0,0,cC,c.aw[k]⟩,by grind,?_⟩;have hx:kB c.aw[k]:=by unfold kB;grind
  rw[RE MO z0 z1 hx];have hA:vB cO:=Yk omQ;grind[yR,jV,cO,xK,zX]
end
section
section
variable {S:je} {M:zG} {me:Int}
theorem qJM {j:Xn} {V:VM} (h:cG V):cG (Lh j V).2.2:=by
 cases j with
 |prog q=>exact cG.run _ h
 |ay bs k=>exact cG.gives _ _ h
structure Ended (S:je) (M:zG) (me:Int) (R:(Int×Int)×Xn×VM) (y:q9) (N:zG):Prop where
  st:y.state=8
  me_:y.me=me
  set:y.set=S
  fin:y.fin=R.1.1
  err:y.err=if R.1.1=4 then R.1.2 else 0
  lv:y.v.lv=R.2.2.lv
  aD:y.aD=R.2.1
  bH:y.bH= -1
  calm:Vn S N me
  s:N.s=M.s.set me.toNat 0
  w:N.w=if R.1.1=2 then stoW M.w (jP R.2.2.lv)else M.w
  n:N.n=M.n+(if R.1.1=2∧jP R.2.2.lv≠[]then 1 else 0)
  aa:y.aa=N.n
  begun:y.begun=true
  kind:R.1.1=2∨R.1.1=3∨R.1.1=4
end
end
namespace fW
variable {g h:AH} {L R:List SP}
def yb (a:Int×Int×Bool):List AV:=[.int .i64 a.1,.int .i64 a.2.1,.bool a.2.2]
end fW
section
variable {g h:AH} {L R:List SP}
def Ma (zs:List Int):List Int:=(List.range (iR zs.length)).map λi=>if i=0 then 0 else vT zs i
def Ca (l:List Int) (c:Cl):List Int:=if 1≤c.1∧c.1<l.length then l.set c.1.toNat c.2 else l
def vA (zs:List Int) (cs:List Cl):List Int:=cs.foldl Ca (Ma zs)
theorem qZF (l:List Int) (c:Cl):(Ca l c).length=l.length:=by grind[Ca]
theorem qjC:∀(cs:List Cl) (l:List Int),(cs.foldl Ca l).length=l.length:=by
 intro cs
 induction cs with
 |nil=>simp
 |cons c cs ih=>grind[qZF]
theorem Np (zs:List Int):(Ma zs).length=iR zs.length:=by simp[Ma]
theorem XP (zs:List Int) (cs:List Cl):(vA zs cs).length=iR zs.length:=by simp[vA,qjC,Np]
theorem qw4 (zs:List Int) {i:Nat} (hi:0<i) (h:i<iR zs.length):vT (Ma zs) i=vT zs i:=by unfold Ma;show((List.map _ _)[i]?).getD 0=_;grind
theorem qyO (l:List Int) (c:Cl) (i:Nat):vT (Ca l c) i=if(c.1=(i:Int)∧1≤c.1∧c.1<l.length)then c.2 else vT l i:=by
 unfold Ca vT;grind
def Ev (zs:List Int) (m:Int) (C:List Cl) (F:List Int):VM:={ QP zs m with lv:=[(C,F)] }
structure FullS (zs:List Int) (T c i:Nat):Prop where
  len:zs.length=T
  lo:32≤T
  hi:T≤256
  mX:1≤c∧c≤4
  nn:∀z∈zs,0≤z∧z<18446744073709551616
  head:vT zs c=0
  DN:vT zs 5=14+(i:Int)*(wZ c+1)
  RF:∀j,j<i→∀p:Nat,(p:Int)=14+(j:Int)*(wZ c+1)→vT zs p=(c:Int)+8
end
namespace r7
open Go Go.Ae fW
set_option maxRecDepth 100000
variable {g h:AH} {L R:List SP}
end r7
section
structure DR (S:je) (M:zG) (k:Int):Prop where
  w:(M.w.length:Int)=S.words
  wd:∀z∈M.w,nJ z
  w0:M.w[0]? =some 0
  l:M.l=List.replicate S.ae.toNat cC
  n:M.n=S.start
  s:M.s=List.replicate S.ad.toNat 0
  aN:0≤M.aN∧M.aN≤k
theorem qG2 {S:je} (O:xo S):DR S (xw S) 0:=by
 have h1:=O.words;refine⟨by show((List.replicate S.words.toNat (0:Int)).length:Int)=_;grind,λz hz=>?_,?_,rfl,rfl,rfl,⟨Int.le_refl _,Int.le_refl _⟩⟩
 ·have:=List.eq_of_mem_replicate hz;grind
 ·show(List.replicate S.words.toNat (0:Int))[0]? =some 0;grind
theorem qWu {S:je} {M:zG} {k at_ w:Int} (Q:DR S M k) (ha:1≤at_) (hw:nJ w):DR S (qR M (bx 2 at_ w)).2 (k+1):=by
 have hc:=Oh (M:=M) (o:=bx 2 at_ w);have hq:=Q.aN;have e:(qR M (bx 2 at_ w)).2.w=(if at_<1∨(M.w.length:Int)≤at_ then M.w else M.w.set at_.toNat w)∧(qR M (bx 2 at_ w)).2.l=M.l∧(qR M (bx 2 at_ w)).2.n=M.n∧(qR M (bx 2 at_ w)).2.s=M.s:=by
  have eW:gX M (bx 2 at_ w)=if at_<1∨(M.w.length:Int)≤at_ then(ng 2,M)else(cO,{ M with w:=M.w.set at_.toNat w }):=by rfl
  rw[gG,eW];grind
 refine⟨?_,?_,?_,by rw[e.2.1];exact Q.l,by rw[e.2.2.1];exact Q.n,by rw[e.2.2.2];exact Q.s,by omega⟩
 ·rw[e.1]
  split
  ·exact Q.w
  ·rw[List.length_set];exact Q.w
 ·rw[e.1]
  split
  ·exact Q.wd
  ·exact qQm Q.wd hw
 ·rw[e.1]
  split
  ·exact Q.w0
  ·rw[List.getElem?_set_ne omQ];exact Q.w0
end
section
def vC (n:Nat):Nat:=max 32 (min n 256)
def ky (zs:List Int):List Int:=(List.range (vC zs.length)).map λi=>if i=0 then 0 else zs[i]?.getD 0
def YS (l:List Int) (c:Int×Int):List Int:=if 1≤c.1∧c.1<l.length then l.set c.1.toNat c.2 else l
def UM (zs:List Int) (cs:List (Int×Int)):List Int:=cs.foldl YS (ky zs)
theorem qvF (l:List Int) (c:Int×Int):(YS l c).length=l.length:=by grind[YS]
theorem OC (cs:List (Int×Int)):∀l:List Int,(cs.foldl YS l).length=l.length:=by
 induction cs with
 |nil=>simp
 |cons c cs ih=>grind[qvF]
theorem Zy (zs:List Int):(ky zs).length=vC zs.length:=by simp[ky]
theorem Ks (n:Nat):32≤vC n∧vC n≤256:=by grind[vC]
theorem qwf (zs:List Int):QH (List.replicate (vC zs.length) (AV.int .u64 0)) 1 (((zs.map (AV.int .u64)).drop (min 1 zs.length)).take (min (zs.length-min 1 zs.length) (vC zs.length-1)*1))=(ky zs).map (AV.int .u64):=by
 have hb:=Ks zs.length;have hl:(((zs.map (AV.int .u64)).drop (min 1 zs.length)).take (min (zs.length-min 1 zs.length) (vC zs.length-1)*1)).length=min (zs.length-min 1 zs.length) (vC zs.length-1):=by simp
 apply List.ext_getElem?;intro i;rw[qQ3 (by grind),hl];by_cases hi:i<vC zs.length
 ·have hr:((ky zs).map (AV.int .u64))[i]? =some (AV.int .u64 (if i=0 then 0 else zs[i]?.getD 0)):=by
   grind[ky,List.getElem?_range]
  grind
 ·rw[iQ omQ,List.getElem?_eq_none (by grind),List.getElem?_eq_none (by grind[ky])]
theorem qK6 {D1 D2:Nat→Prop} {n p q:Nat} (hn:1≤n) {a0 a1:AV} {zs:List Int} {cs:List (Int×Int)} {h:AH} (S0:Sl D1 h 1 p a0 (zs.map (.int .u64))) 
  (m5:∀(h':AH) (K:AV→Go.Ae.R) (Q:AV→AH→Prop),fj h.nx h h'→(∀v',Sl (λ_=>True) h' 1 (p-min 1 p) v' ((zs.map (AV.int .u64)).drop (min 1 p*1))→wp (K v') Q)→wp (xC h' 22 1 a0 (some (.int .i64 ((min 1 p:Nat):Int))) none K) Q)
  (S1:Sl D2 h 2 q a1 (cs.flatMap jH)) (_:p<1000000000) (hq:q<1000000000) :
  ba n 28 [a0,a1] h λv h'=>∃b e,v=.slice b 0 (vC p) (vC p) false∧h.nx≤b∧Row h' b ((UM zs cs).map (.int .u64)) e false∧fj h.nx h h':=by
 have lM:zs.length=p:=by simpa using S0.len
 have dE:cs.length=q:=by have:=S1.len;rw[wo (sz:=2) jH (λ_=>rfl)]at this;omega
 have hN:=Ks p;refine cu (S:=S28) rfl omQ λk hk=>?_;unfold S28;try simp only[iZ]
 refine yH S0 (vX (vy ?_));rw[show max ((32:Nat):Int) (min (p:Int) ((256:Nat):Int))=((vC p:Nat):Int) by grind[vC]];refine TN (Nat.le_refl _) omQ λb h4 hb A F4=>?_;rw[V9]at A;refine UC (hi:=vC p) (lo:=1) rfl (yz omQ) ?_;rw[show Nat.beq (vC p) 1=false from yY omQ,cond_false];have S0':=S0.fr F4 (λ_ _ hf=>hf);have S1':=S1.fr F4 (λ_ _ hf=>hf);refine yH S0' (vX ?_);rw[show min ((1:Nat):Int) (p:Int)=((min 1 p:Nat):Int) by omega];refine m5 _ _ _ ((fj.refl h.nx h).step F4 (λ_ hf=>hf.elim)) λv8 S8=>?_;refine qy4 S8 A (by grind) omQ ?_ λia RG F10 hx10=>?_
 ·unfold jW;rw[List.all_eq_true];intro v hv;have:=List.mem_of_mem_take hv;have:=List.mem_of_mem_drop this;obtain⟨z,_,rfl⟩:=List.mem_map.1 this;rfl
 have e10:=qwf zs;rw[lM]at e10;rw[show((0:Nat)+1*1)=1 from rfl,Nat.mul_one]at RG;rw[Nat.mul_one]at e10;obtain⟨e,RG⟩:∃e,Row ia b ((ky zs).map (.int .u64)) e false:=⟨_,by rw[← e10];simpa using RG⟩;have O10:fj h.nx h ia:=((fj.refl h.nx h).step F4 (λ_ hf=>hf.elim)).step F10 (by omega);have O4:fj h.nx h h4:=(fj.refl h.nx h).step F4 (λ_ hf=>hf.elim);refine yH (S1.bU O10) ?_;refine jB (λm s g=>∃i:Nat,s=(.int .i64 (i:Int),.int .i64 (q:Int),a1,.slice b 0 (vC p) (vC p) false,())∧i≤q∧m=q-i∧Row g b (((cs.take i).foldl YS (ky zs)).map (.int .u64)) e false∧fj h.nx h g) ?_ (m:=q)
  (by grind) ⟨0,rfl,by omega,by rfl,RG,O10⟩
 rintro m ih s g bj ⟨i,rfl,h1,rfl,A,O⟩;dsimp only;have S1g:=S1.bU O;refine j8 (λap=>qK ?_) λeO=>qJ (qj (qq ?_))
 ·have hi:i<q:=by omega
  refine qG (xI (l:=jH cs[i]) S1g hi omQ ?_ ?_)
  ·rw[J9 (sz:=2) jH (λ_=>rfl),List.drop_eq_getElem_cons omQ,List.flatMap_cons];rfl
  refine UH rfl λb2 TW oN A2 F2=>?_;refine UW A2 rfl (by trivial) rfl λE5 A3 F3 Te=>?_;obtain⟨e3,A3⟩:∃e3,Row E5 b2 [.int .i64 cs[i].1,.int .u64 cs[i].2] e3 false:=⟨_,A3⟩;have O26:fj h.nx h E5:=(O.step F2 (λ_ hf=>hf.elim)).step F3 (by rintro x rfl;exact Nat.le_trans O.nx oN);have sA:=A.lt;have A26:=(A.fr F2 (λhf=>hf)).fr F3 (λhf:b=b2=>by omega);have hlen:((cs.take i).foldl YS (ky zs)).length=vC p:=by rw[OC,Zy,lM]
  have next:∀g',Row g' b ((YS ((cs.take i).foldl YS (ky zs)) cs[i]).map (.int .u64)) e false→fj h.nx h g'→wp (ih (.int .i64 ((i:Int)+((1:Nat):Int)),.int .i64 (q:Int),a1,.slice b 0 (vC p) (vC p) false,()) g' []) λv h'=>∃b e,v=.slice b 0 (vC p) (vC p) false∧h.nx≤b∧Row h' b ((UM zs cs).map (.int .u64)) e false∧fj h.nx h h':=λg' A' O'=>bj (q-(i+1)) _ _ omQ ⟨i+1,rfl,by omega,rfl,by rw[List.take_succ_eq_append_getElem omQ,List.foldl_append];grind,O'⟩
  refine QM A3 rfl (Ql (λrY=>?_) λrY=>?_)
  ·repeat (first |with_reducible refine qK ?_ |with_reducible refine qJ ?_ |(with_reducible refine qf ?_;try dsimp only) |(with_reducible refine ql ?_;try dsimp only) |(with_reducible refine qe ?_;try dsimp only) |(with_reducible refine qP ?_;try dsimp only) |(with_reducible refine zQ ?_;try dsimp only) |with_reducible refine qF ?_ |with_reducible refine qy ?_ |(with_reducible refine qG ?_;try dsimp only) |with_reducible refine qj ?_ |with_reducible refine jE ?_ |with_reducible refine jo ?_ |with_reducible refine qE omQ ?_ |with_reducible refine qn omQ ?_ |with_reducible refine yK omQ ?_ |with_reducible refine yc omQ ?_ |with_reducible refine vX ?_ |with_reducible refine vy ?_)
   refine QM A3 rfl (Zo (j8 (λlN=>?_) λlN=>?_))
   ·repeat (first |with_reducible refine qK ?_ |with_reducible refine qJ ?_ |(with_reducible refine qf ?_;try dsimp only) |(with_reducible refine ql ?_;try dsimp only) |(with_reducible refine qe ?_;try dsimp only) |(with_reducible refine qP ?_;try dsimp only) |(with_reducible refine zQ ?_;try dsimp only) |with_reducible refine qF ?_ |with_reducible refine qy ?_ |(with_reducible refine qG ?_;try dsimp only) |with_reducible refine qj ?_ |with_reducible refine jE ?_ |with_reducible refine jo ?_ |with_reducible refine qE omQ ?_ |with_reducible refine qn omQ ?_ |with_reducible refine yK omQ ?_ |with_reducible refine yc omQ ?_ |with_reducible refine vX ?_ |with_reducible refine vy ?_)
    refine QM A3 rfl (QM A3 rfl ?_);obtain⟨j,hj⟩:∃j:Nat,cs[i].1=(j:Int):=⟨cs[i].1.toNat,by omega⟩;rw[hj];refine TP A26 rfl rfl omQ (by grind) λDs A39 F39 hx39=>?_
    repeat (first |with_reducible refine qK ?_ |with_reducible refine qJ ?_ |(with_reducible refine qf ?_;try dsimp only) |(with_reducible refine ql ?_;try dsimp only) |(with_reducible refine qe ?_;try dsimp only) |(with_reducible refine qP ?_;try dsimp only) |(with_reducible refine zQ ?_;try dsimp only) |with_reducible refine qF ?_ |with_reducible refine qy ?_ |(with_reducible refine qG ?_;try dsimp only) |with_reducible refine qj ?_ |with_reducible refine jE ?_ |with_reducible refine jo ?_ |with_reducible refine qE omQ ?_ |with_reducible refine qn omQ ?_ |with_reducible refine yK omQ ?_ |with_reducible refine yc omQ ?_ |with_reducible refine vX ?_ |with_reducible refine vy ?_)
    refine next Ds ?_ (O26.step F39 (by omega));rw[show YS ((cs.take i).foldl YS (ky zs)) cs[i]=((cs.take i).foldl YS (ky zs)).set j cs[i].2 from(iJ (by grind)).trans (by grind),List.map_set];grind
   ·repeat (first |with_reducible refine qK ?_ |with_reducible refine qJ ?_ |(with_reducible refine qf ?_;try dsimp only) |(with_reducible refine ql ?_;try dsimp only) |(with_reducible refine qe ?_;try dsimp only) |(with_reducible refine qP ?_;try dsimp only) |(with_reducible refine zQ ?_;try dsimp only) |with_reducible refine qF ?_ |with_reducible refine qy ?_ |(with_reducible refine qG ?_;try dsimp only) |with_reducible refine qj ?_ |with_reducible refine jE ?_ |with_reducible refine jo ?_ |with_reducible refine qE omQ ?_ |with_reducible refine qn omQ ?_ |with_reducible refine yK omQ ?_ |with_reducible refine yc omQ ?_ |with_reducible refine vX ?_ |with_reducible refine vy ?_)
    refine next E5 ?_ O26;rw[show YS ((cs.take i).foldl YS (ky zs)) cs[i]=(cs.take i).foldl YS (ky zs)from iQ (by grind)];grind
  ·repeat (first |with_reducible refine qK ?_ |with_reducible refine qJ ?_ |(with_reducible refine qf ?_;try dsimp only) |(with_reducible refine ql ?_;try dsimp only) |(with_reducible refine qe ?_;try dsimp only) |(with_reducible refine qP ?_;try dsimp only) |(with_reducible refine zQ ?_;try dsimp only) |with_reducible refine qF ?_ |with_reducible refine qy ?_ |(with_reducible refine qG ?_;try dsimp only) |with_reducible refine qj ?_ |with_reducible refine jE ?_ |with_reducible refine jo ?_ |with_reducible refine qE omQ ?_ |with_reducible refine qn omQ ?_ |with_reducible refine yK omQ ?_ |with_reducible refine yc omQ ?_ |with_reducible refine vX ?_ |with_reducible refine vy ?_)
   refine next E5 ?_ O26;rw[show YS ((cs.take i).foldl YS (ky zs)) cs[i]=(cs.take i).foldl YS (ky zs)from iQ (by grind)];grind
 ·refine⟨b,e,rfl,hb,?_,O⟩;rw[List.take_of_length_le omQ]at A;exact A
theorem qYB (zs:List Int) (cs:List Cl):UM zs cs=vA zs cs:=by
 have e1:∀n:Nat,iR (n:Int)=vC n:=by grind[iR,vC]
 have e2:ky zs=Ma zs:=by unfold ky Ma;rw[e1];rfl
 unfold UM vA;rw[e2];rfl
abbrev AI (g:AH) (R:List SP) (a0:AV) (zs:List Int):Prop:=∀(h':AH) (K:AV→Go.Ae.R) (Q:AV→AH→Prop),HS g h' R→(∀v',Sl (λ_=>True) h' 1 (zs.length-min 1 zs.length) v' ((zs.map (AV.int .u64)).drop (min 1 zs.length*1))→wp (K v') Q)→
 wp (xC h' 22 1 a0 (some (.int .i64 ((min 1 zs.length:Nat):Int))) none K) Q
theorem qxR {g:AH} {R:List SP} {a0:AV} {zs:List Int} (S:Rd g R 1 zs.length a0 (zs.map (.int .u64))) (hs:shut a0=true) (hr:Ih a0):AI g R a0 zs :=
 λ_ _ _ H w=>qGa (S.sl H) hs hr omQ λv' S' _ _=>w v' S'
theorem qG0 {g:AH} {R R2:List SP} {a0:AV} {zs:List Int} (s:bB R (qC 22 1 zs.length a0 (zs.map (.int .u64))) R2) (h0:0<zs.length):AI g R a0 zs :=
 λ_ _ _ H w=>qzB (H.aJ s) omQ omQ h0 λv' S'=>w v' S'
theorem Mg {g h:AH} {R:List SP} {n:Nat} (hn:1≤n) {zs:List Int} {cs:List Cl} {a0 c:AV} (H:HS g h R) (S:Rd g R 1 zs.length a0 (zs.map (.int .u64))) (m5:AI g R a0 zs) (S1:Rd g R 2 cs.length c (cs.flatMap jH)) (hz:zs.length<100000) (hc:cs.length<100000) :
  ba n 28 [a0,c] h λr h'=>∃e,(shut r=true∧Ih r)∧HS g h' (qC e 1 (vA zs cs).length r ((vA zs cs).map (.int .u64))::R):=by
 obtain⟨v,h',er,b,e,rfl,hb,A,O⟩:=qK6 hn (S.sl H) (λh' K Q O w=>m5 h' K Q (H.keep O) w) (S1.sl H) omQ omQ;have hl:(UM zs cs).length=vC zs.length:=by simp[UM,OC,Zy]
 refine⟨_,h',er,e,⟨rfl,Nat.le_refl _⟩,?_⟩;rw[← qYB];refine H.add (D':=λa=>a=b) O ⟨by simp,.inr ⟨b,vC zs.length,false,_,by rw[hl],λa=>Iff.rfl,A,by simp,by rw[List.take_of_length_le aM],?_⟩⟩ ?_
 ·grind
 ·rintro a rfl;exact⟨hb,A.lt⟩
end
section
variable {g h:AH} {L R:List SP}
abbrev K4 (l:List qO) (n:Nat) (zs:List Int) (m:Int):RM:=zh l (qT l) n KO (QP zs m)
end
section
def E6:Nat→Nat→qu→zG→qu×zG
 | 0,_,t,M=>(t,M)
 |n+1,i,t,M=>match xW t with
  |none=>(t,M)
  |some o=>E6 n (i+1) (jg t (qR M o).1 0 ((i:Int)+1)) (qR M o).2
inductive AJ:Nat→Nat→qu→zG→qu→zG→Prop
  |nil {i:Nat} {t:qu} {M:zG}:AJ i 0 t M t M
  |cons {i m:Nat} {t u:qu} {M N:zG} {o:dj} (hn:xW t=some o) (r:AJ (i+1) m (jg t (qR M o).1 0 ((i:Int)+1)) (qR M o).2 u N):AJ i (m+1) t M u N
theorem AJ.run {i m:Nat} {t u:qu} {M N:zG} (s:AJ i m t M u N):∀n,E6 (m+n) i t M=E6 n (i+m) u N:=by
 induction s with
 |nil=>simp
 |cons hn r ih=>
  grind[E6,jg,qR,xW]
theorem AJ.trans {i m k:Nat} {t u v:qu} {M N P:zG} (s:AJ i m t M u N):AJ (i+m) k u N v P→AJ i (m+k) t M v P:=by
 induction s with
 |nil=>simp
 |cons hn r ih=>rename_i i m t u M N o;intro q;rw[show m+1+k=(m+k)+1 by omega];exact .cons hn (ih (by grind))
structure Ll (t u:qu):Prop where
  fX:∃r,u.results=t.results++r
  ah:u.ah.length≤t.ah.length+1
structure Jw (t u:qu):Prop where
  fX:u.results=t.results
  ah:u.ah=t.ah
theorem Jw.refl (t:qu):Jw t t:=⟨rfl,rfl⟩
theorem Jw.trans {t u v:qu} (a:Jw t u) (b:Jw u v):Jw t v:=⟨b.fX.trans a.fX,b.ah.trans a.ah⟩
theorem xb (t:qu):Jw t (z8 t):=by unfold z8;split<;>exact⟨rfl,rfl⟩
theorem vk (t:qu):Jw t (xX t):=(Jw.trans (u:={ t with aD:=t.aD+1,ay:=false,ax:=[],ak:=0,aC:=0 }) ⟨rfl,rfl⟩ (xb _))
theorem wy (t:qu) (d:Int):Jw t (yW t d):=by
 unfold yW
 split
 ·exact(Jw.trans (u:={ t with aP:=0,state:=3 }) ⟨rfl,rfl⟩ (xb _))
 ·exact⟨rfl,rfl⟩
theorem Q2 (t:qu):Jw t (vq t):=by
 have key:∀u:qu,Jw u (vw u):=λu=>by
  unfold vw
  split
  ·exact .refl u
  ·split
   ·exact(Jw.trans (u:={ u with af:=u.af.filter λr=>!jm u.au r.2 }) ⟨rfl,rfl⟩ (vk _))
   ·exact(Jw.trans (u:={ u with af:=u.af.filter (λr=>!jm u.au r.2),ay:=true,ax:=u.af.filter (λr=>jm u.au r.2),ak:=0,aC:=0 }) ⟨rfl,rfl⟩ (xb _))
 unfold vq
 split
 ·exact(Jw.trans (u:={ t with au:=t.au++[0] }) ⟨rfl,rfl⟩ (key _))
 grind
theorem O8 (t:qu):Jw t (Qn t):=by
 unfold Qn
 split
 ·simp[vk]
 ·exact(Jw.trans (u:={ t with state:=5,au:=[] }) ⟨rfl,rfl⟩ (Q2 _))
theorem NX (t:qu) (f:Int):Jw t (Qv t f):=by
 unfold Qv
 split
 ·exact(Jw.trans (u:={ t with af:=t.af++t.ax }) ⟨rfl,rfl⟩ (vk _))
 simp[vk]
theorem Ll.of {t u v:qu} (a:Jw u v) {r:List B0} (h:u.results=t.results++r) (hp:u.ah.length≤t.ah.length+1):Ll t v:=⟨⟨r,a.fX.trans h⟩,by rw[a.ah];grind⟩
theorem qX5 (t:qu) (x:q9) (d p:Int):Ll t (yD t x d p):=by
 have h1:(t.ah++[jq t x p]).length≤t.ah.length+1:=by simp
 have h0:t.results=t.results++[]:=(List.append_nil _).symm;unfold yD;dsimp only
 split
 ·split
  ·exact⟨⟨[],h0⟩,h1⟩
  ·exact .of (u:={ t with ah:=t.ah++[jq t x p],ak:=t.ak+1,aC:=t.aC+1 }) (wy _ _) h0 h1
 ·split
  ·split
   ·exact .of (u:={ t with ah:=t.ah++[jq t x p],ak:=t.ak+1 }) (xb _) h0 h1
   ·exact⟨⟨[],h0⟩,h1⟩
  ·split
   ·exact .of (u:={ t with ah:=t.ah++[jq t x p],ak:=t.ak+1 }) (NX _ _) h0 h1
   ·exact .of (u:={ t with ah:=t.ah++[jq t x p],ak:=t.ak+1,results:=t.results++[⟨jf x,vU x,y7 x,x.aa⟩],af:=t.af++(jG x).map λb=>(b,x.aa) }) (O8 _) rfl h1
theorem qji (t:qu) (a:cB) (d p:Int):Ll t (jg t a d p):=by
 have h0:t.results=t.results++[]:=(List.append_nil _).symm;have hr:Ll t t:=⟨⟨[],h0⟩,Nat.le_succ _⟩;unfold jg
 split
 ·split
  ·grind
  ·rename_i x _;unfold xi;dsimp only
   split
   ·exact⟨⟨[],h0⟩,Nat.le_succ _⟩
   ·have G:=qX5 { t with now:=some (qd x a),born:=if(qd x a).begun=true∧x.begun=false then p else t.born } (qd x a) d p;exact⟨G.fX,G.ah⟩
 ·split
  ·split
   ·exact⟨⟨[],h0⟩,Nat.le_succ _⟩
   ·exact .of (u:=t) (wy _ _) h0 (Nat.le_succ _)
  ·split
   ·exact .of (u:={ t with au:=t.au++[if a.err≠0 then 0 else a.word] }) (Q2 _) h0 (Nat.le_succ _)
   grind
def cL (t:qu):Prop:=∀x,t.now=some x→Gi x
theorem cL.same {t u:qu} (W:cL t) (h:u.now=t.now):cL u:=λx hx=>W x (h▸hx)
theorem gV (t:qu):cL (z8 t):=by
 unfold z8
 split
 ·exact λx h=>by grind
 ·intro x h;cases h
  split
  ·exact qv7
  ·exact qv7
theorem gk (t:qu):cL (xX t):=gV _
theorem Vm {t:qu} (W:cL t) (d:Int):cL (yW t d):=by
 unfold yW
 split
 ·simp[gV]
 trivial
theorem Oi {t:qu} (W:cL t):cL (vq t):=by
 grind[cL,vw,gk,gV,vq]
theorem qVL {t:qu} (W:cL t) (x:q9) (d p:Int):cL (yD t x d p):=by
 unfold yD;dsimp only
 split
 ·split
  ·trivial
  ·exact Vm (t:={ t with ah:=t.ah++[jq t x p],ak:=t.ak+1,aC:=t.aC+1 }) (W.same rfl) _
 ·split
  ·split
   ·simp[gV]
   trivial
  ·split
   ·simp[Qv,gk]
   ·unfold Qn
    split
    ·simp[gk]
    ·exact Oi (t:={ t with ah:=t.ah++[jq t x p],ak:=t.ak+1,results:=t.results++[⟨jf x,vU x,y7 x,x.aa⟩],af:=t.af++(jG x).map λb=>(b,x.aa),state:=5,au:=[] }) (W.same rfl)
theorem O7 {t:qu} (O:xR t) (W:cL t) {a:cB} (ha:vB a) (d p:Int):cL (jg t a d p):=by
 unfold jg
 split
 ·rename_i h1
  split
  ·grind
  ·rename_i x hx;have C:=O.c omQ;have hN:=(C.now x hx).1;have W1:Gi (qd x a):=qq4 hN (W x hx) ha;unfold xi;dsimp only
   split
   ·intro y hy;grind
   ·refine qVL (λy hy=>?_) _ _ _;grind
 ·split
  ·split
   ·trivial
   grind[Vm]
  ·split
   ·exact Oi (t:={ t with au:=t.au++[if a.err≠0 then 0 else a.word] }) (W.same rfl)
   grind
theorem kR {t:qu} {o:dj} (O:xR t) (W:cL t) (h:xW t=some o):nJ o.word:=by
 have z0:nJ (0:Int):=⟨Int.le_refl _,by simp⟩;unfold xW at h
 split at h
 ·rename_i h1;have C:=O.c omQ;cases hx:t.now with
  |none=>grind
  |some x=>rw[hx]at h;exact qjU (C.now x hx).1 (W x hx) h
 ·split at h
  ·cases h;exact z0
  ·split at h
   ·cases h;exact z0
   grind
end
section
variable {S:je} {M:zG} {x y:q9} {me n:Int}
theorem qQl {o:dj} (h:o.kind=1∨o.kind=3∨o.kind=6∨o.kind=8∨o.kind=9):(qR M o).2.w=M.w∧(qR M o).2.l=M.l∧(qR M o).2.n=M.n:=by
 have key:∀r:cB×zG,r.2.w=M.w∧r.2.l=M.l∧r.2.n=M.n→(if r.1.err=0 then(r.1,{ r.2 with aN:=r.2.aN+1 })else r).2.w=M.w∧(if r.1.err=0 then(r.1,{ r.2 with aN:=r.2.aN+1 })else r).2.l=M.l∧(if r.1.err=0 then(r.1,{ r.2 with aN:=r.2.aN+1 })else r).2.n=M.n:=λr hr=>by
  grind
 unfold qR;refine key _ ?_;unfold Xm Xp YA VJ;rcases h with h |h |h |h |h<;>rw[h]<;>simp only[reduceIte,Int.reduceEq,or_false,or_self,or_true]<;>(repeat' split)<;>simp
theorem kg.same {M':zG} (MO:kg S M) (h:M'.w=M.w∧M'.l=M.l∧M'.n=M.n):kg S M' :=
 ⟨by rw[h.1];exact MO.w,by rw[h.2.1];exact MO.l,by rw[h.2.2];exact MO.n,by rw[h.2.1,h.2.2];exact MO.lk⟩
theorem wT.mono {n':Int} {c:jX} (C:wT S n c me) (h:n≤n'):wT S n' c me :=
 ⟨C.me,C.ok,C.s,C.seen,C.cells,λw hw=>⟨(C.aw w hw).1,Int.le_trans (C.aw w hw).2 h⟩,λh1=>⟨(C.s1 h1).1,Int.le_trans (C.s1 h1).2 h⟩,C.s3,λa b=>Int.le_trans (C.s4 a b) h⟩
structure AttL0 (S:je) (x:q9) (me:Int):Prop where
  me:x.me=me
  set:x.set=S
  r:∀y∈x.r,0≤y.1∧y.1<S.ae
  inv:cG x.v
structure vp (S:je) (n:Int) (x:q9) (i:Int):Prop extends AttL0 S x i where
  f:x.state=3→(0≤x.f.aA∧x.f.aA<S.ae)∧x.f.p.fin=0
  c:x.state=6→∀c,x.c=some c→wT S n c i∧c.p.fin=0
def Xt (x:q9) (j:Int):Prop:=x.state=6∧∃c,x.c=some c∧c.p.fin=0∧holds c j
theorem vp.mono {n':Int} (L:vp S n x me) (h:n≤n'):vp S n' x me:=⟨L.toAttL0,L.f,λh6 c hc=>⟨(L.c h6 c hc).1.mono h,(L.c h6 c hc).2⟩⟩
theorem AttL0.out (L:AttL0 S x me) {f e z:Int}:vp S n (z4 x f e z) me:=⟨⟨L.me,L.set,L.r,L.inv⟩,λh=>(by cases h),λh=>by cases h⟩
theorem AttL0.ask (SO:xo S) (L:AttL0 S x me) {p:Int} (hp:0≤p):vp S n (Xi x p) me :=
 ⟨⟨L.me,L.set,L.r,L.inv⟩,λ_=>⟨(by show 0≤ofM p x.set.ae x.set.wide∧ofM p x.set.ae x.set.wide<S.ae;rw[L.set];simp_all[qze]),rfl⟩,λh=>by cases h⟩
theorem AttL0.later (L:AttL0 S x me) {s:Int} (hs:s=4∨s=5):vp S n (Qz x s) me :=
 ⟨⟨L.me,L.set,L.r,L.inv⟩,λh=>(by have h:s=3:=h;omega),λh=>by have h:s=6:=h;omega⟩
theorem vp.stamped (L:vp S n x me):vp S n (jZ x) me:=by
 unfold jZ
 repeat' split
 all_goals exact⟨⟨L.me,L.set,L.r,L.inv⟩,L.f,L.c⟩
theorem Gc:(jZ x).state=x.state∧(jZ x).c=x.c:=by
 unfold jZ
 grind
theorem qwt (SO:xo S) {st:Int} {r:List z6} {cs:List Cl} {sp:Int} (hr:r.length≤16) (Wo:∀y∈r,0≤y.1∧y.1<S.ae) (h0:cs≠[]) (hl:cs.length≤1000) (hc:∀q∈cs,1≤q.1∧q.1<S.words) :
  wT S n (Xz me sp st r cs S.ae S.wide) me∧(Xz me sp st r cs S.ae S.wide).p.fin=0:=by
 have hs:∀z,(Xz me sp st r cs S.ae S.wide).state=z→z=0∨z=2:=λz h=>by
  grind[Xz,zk]
 refine⟨⟨rfl,qk2 hr (by grind) hl λc h=>by grind,λz hz=>?_,Wo,hc,λw hw=>(by cases hw),λh=>(by grind),λh=>(by grind),λh4 h6=>(by grind)⟩,rfl⟩;have hz:z∈xn cs S.ae S.wide:=hz;rw[Jr λc h=>by grind]at hz;obtain⟨c,rY,rfl⟩:=List.mem_map.1 hz;exact qze SO (by grind)
theorem AttL0.mq (SO:xo S) (B:JC x) (hj:bS True x.v x.aD) (L:AttL0 S x me):vp S n (yX x) me:=by
 have D:=Uq B.aE B.fr hj;have dY:cG (zl x).2.v:=by rw[qJU];exact qJM L.inv
 have L':AttL0 S (zl x).2 me:=⟨D.same.1.trans L.me,D.same.2.1.trans L.set,by rw[D.same.2.2.1];exact L.r,dY⟩;have bz:((zl x).2.v.sz:Int)=S.words:=by rw[D.kept.1,B.sz,L.set]
 have hm:=Ke D.aE.1;unfold yX;generalize hd:(zl x).1=ke at*;generalize(zl x).2=d at*;unfold xx
 split
 ·rename_i h1;have:=(D.aB h1).1;exact L'.ask SO omQ
 ·split
  ·exact AttL0.later (x:={ d with aL:=true }) ⟨L'.me,L'.set,L'.r,L'.inv⟩ (.inr rfl)
  ·split
   ·exact L'.out
   ·split
    ·exact L'.out
    ·rename_i bW;have hr:d.r.length≤16:=by rw[D.same.2.2.1];exact B.r
     refine⟨⟨L'.me,L'.set,L'.r,L'.inv⟩,λh=>(by grind),λ_ c hc=>?_⟩;cases hc;have e1:=L'.set;have e2:=L'.me;rw[e1,e2];refine qwt SO hr L'.r bW omQ λq hq=>?_;obtain⟨lv,h1,h2⟩:=ND hq;have:=L'.inv lv h1 q h2;omega
theorem qGI {r:List z6} {s:z6} (h:∀y∈r,0≤y.1∧y.1<S.ae) (hs:0≤s.1∧s.1<S.ae):∀y∈(gE r s).2,0≤y.1∧y.1<S.ae:=by
 grind[gE,List.mem_singleton]
theorem qXi {V:VM} (h:cG V) {p w:Int}:cG (yE V p w).2:=by grind[QJ,cG]
theorem AttL0.nk (SO:xo S) (B:JC x) (hj:bS True x.v x.aD) (hw:0≤x.f.word∧x.f.word<18446744073709551616) (hs:0≤x.f.aA∧x.f.aA<S.ae) (hr0:x.f.p.fin=2∨x.f.p.fin=6) (L:AttL0 S x me):vp S n (zZ x) me:=by
 unfold zZ
 split
 ·exact L.later (.inl rfl)
 ·rename_i h6;have hf:x.f.p.fin=2:=by omega
  have es:xl x.f=(x.f.aA,x.f.lk.1):=by simp_all[xl]
  split
  ·have uL:=Gj hw;have k:=QJ (V:=x.v) (p:=x.v.aB) (x:=yj x.f);refine AttL0.mq SO (x:={ x with r:=(gE x.r (xl x.f)).2,v:=(yE x.v x.v.aB (yj x.f)).2 }) ⟨B.set,XJ B.aE uL,by rw[k.2];exact B.sz,by rw[k.1];exact B.fr,Ya B.r,(hj.nh (p:=x.v.aB) uL).dead not_false,B.c⟩ (hj.nh (p:=x.v.aB) uL) ⟨L.me,L.set,?_,qXi L.inv⟩;exact qGI L.r (by grind)
  ·split
   ·exact L.out
   ·exact L.out
structure qG6 (S:je) (M:zG) (x:q9) (me:Int) (r:cB×zG) (y:q9):Prop where
  mem:kg S r.2
  lk:vp S r.2.n y me
  n:M.n≤r.2.n∧r.2.n≤M.n+1
  held:∀j,0≤j→j<S.ae→(jj r.2.l j).2.1=true→(jj r.2.l j=jj M.l j∧(Xt x j→Xt y j))∨((jj r.2.l j).2.2=me∧Xt y j)
theorem qw2 {f:QE} {a:cB} (hp:f.p.fin=0) (ha:a.err=0):(zC f a).p.fin=0∨(zC f a).p.fin=2∨(zC f a).p.fin=5∨(zC f a).p.fin=6:=by
 unfold zC;rw[Qx hp ha,iQ (λh=>by grind)]
 split
 ·grind
 ·split
  ·exact .inr (.inl rfl)
  ·unfold w9
   split
   ·split
    ·exact .inl (cD.trans hp)
    ·exact .inr (.inr (.inl rfl))
   ·split
    ·exact .inr (.inr (.inr rfl))
    grind
theorem jJ9 {f:QE} {a:cB}:(zC f a).aA=f.aA:=by
 grind[zC,w9]
theorem jJ0 (SO:xo S) (MO:kg S M) (O:zm x) (L:vp S M.n x me) (hm:0≤me∧me<4) (ha:∀o,zp x=some o→vB (qR M o).1) {o:dj} (hn:zp x=some o):qG6 S M x me (qR M o) (qd x (qR M o).1):=by
 have ha:=ha o hn;have bK:=O.st;by_cases h6:x.state=6
 ·--at its commit
  obtain⟨c,hc⟩:∃c,x.c=some c:=by
   cases h:x.c with
   |none=>exact absurd h (O.c6 h6)
   |some c=>simp
  obtain⟨CL,hf⟩:=L.c h6 c hc;obtain⟨o',bY,K⟩:=ZT MO CL hm hf;have:o'=o:=by unfold zp at hn;grind
  subst this;generalize qR M o'=r at*;have et:qd x r.1=jz { x with c:=some (jV c r.1) }:=by unfold qd;rw[iQ omQ,iQ (λh=>h K.err),iQ omQ,iQ omQ,iQ omQ,iQ omQ,iQ omQ,iJ h6,hc];rfl
  rw[et];generalize jV c r.1=d at*;have ef:zd { x with c:=some d }=(d.p.fin,d.p.bH):=by simp_all[zd]
  have LB:vp S r.2.n x me:=L.mono K.n.1;have out:∀f e z,vp S r.2.n (z4 { x with c:=some d } f e z) me:=λf e z=>AttL0.out (x:={ x with c:=some d }) ⟨L.me,L.set,L.r,L.inv⟩;unfold jz;rw[ef];by_cases h0:d.p.fin=0
  ·rw[iJ h0];have hA:∀j,holds d j→Xt (jZ { x with c:=some d }) j:=λj h=>⟨Gc.1.trans h6,d,Gc.2,h0,h⟩;refine⟨K.mem,vp.stamped ⟨⟨L.me,L.set,L.r,L.inv⟩,L.f,λ_ e he=>?_⟩,K.n,λj j0 j1 hj=>?_⟩
   ·cases he;exact⟨K.dL,h0⟩
   ·rcases K.held j j0 j1 hj with⟨h1,h2⟩ |⟨h1,_,h2⟩
    ·exact .inl ⟨h1,λ⟨_,e,he,_,hh⟩=>by grind⟩
    grind
  ·have none:∀z:q9,∀j,0≤j→j<S.ae→(jj r.2.l j).2.1=true→(jj r.2.l j=jj M.l j∧(Xt x j→Xt z j))∨((jj r.2.l j).2.2=me∧Xt z j):=λz j j0 j1 hj=>by
    rcases K.held j j0 j1 hj with⟨h1,h2⟩ |⟨_,h1,_⟩
    ·exact .inl ⟨h1,λ⟨_,e,he,_,hh⟩=>by grind⟩
    grind
   rw[iQ h0]
   split
   ·exact⟨K.mem,(out ..).stamped,K.n,none _⟩
   ·unfold jd;rw[iQ (by grind),iQ (by grind),iQ (by grind)];exact⟨K.mem,(out ..).stamped,K.n,none _⟩
 ·--elsewhere it writes nothing
  have hk:o.kind=1∨o.kind=3∨o.kind=6∨o.kind=8∨o.kind=9:=by
   unfold zp at hn
   split at hn
   ·grind[bx]
   ·split at hn
    ·grind[bx]
    ·split at hn
     ·grind[bx]
     ·split at hn
      ·grind[bx]
      ·split at hn
       ·grind
       ·split at hn
        ·grind[Qf,bx]
        ·try rw[iQ h6]at hn
         grind[Qi,bx]
  have e3:=qQl (M:=M) hk;have fin:∀y,vp S M.n y me→qG6 S M x me (qR M o) y:=λy hy=>by
   refine⟨MO.same e3,by grind,by grind,λj _ _ _=>.inl ⟨by grind,λh=>absurd h.1 h6⟩⟩
  refine fin _ ?_;generalize(qR M o).1=a at*;have G:∀(s:Int) (b:Bool) (z w fin err bH:Int),s≠3→s≠6→vp S M.n { x with state:=s,begun:=b,aI:=z,aa:=w,fin:=fin,err:=err,bH:=bH } me:=λs b z w fin err bH h1 h2=>⟨⟨L.me,L.set,L.r,L.inv⟩,λh=>absurd h h1,λh=>absurd h h2⟩;unfold qd
  split
  ·grind
  ·split
   ·exact G 8 x.begun x.aI x.aa 4 a.err (-1) od od
   ·rename_i AK;have AK:a.err=0:=by omega
    split
    ·grind
    ·split
     ·grind
     ·split
      ·rename_i h2;exact AttL0.mq SO O.b (O.aD.same λ_=>by omega) L.toAttL0
      ·split
       ·grind
       ·split
        ·rename_i h3;have hf:=qw2 (L.f h3).2 AK;have hfs:=jJ9 (f:=x.f) (a:=a);have uM:=XI (O.f h3).2 ha;have B:=O.b;have hj:bS True x.v x.aD:=O.aD.same λ_=>by omega
         have uf:=(L.f h3).1;generalize zC x.f a=f at*;have LF:AttL0 S { x with f:=f } me:=⟨L.me,L.set,L.r,L.inv⟩;unfold jz;have ef:zd { x with f:=f }=(f.p.fin,f.p.bH):=by simp_all[zd]
         rw[ef];refine vp.stamped ?_
         split
         ·rename_i RH;exact⟨LF,λ_=>⟨by grind,RH⟩,λh=>absurd h h6⟩
         ·rename_i RH
          split
          ·exact LF.out
          ·rename_i RI;unfold jd;rw[iJ (by grind)];exact AttL0.nk SO (x:={ x with f:=f }) ⟨B.set,B.aE,B.sz,B.fr,B.r,B.aD,B.c⟩ hj uM (by grind) (by grind) LF
        ·rename_i h3;have LE:∀e z,AttL0 S { x with e:=e,aa:=z } me:=λe z=>⟨L.me,L.set,L.r,L.inv⟩;have h8:x.state=4∨x.state=5:=by omega
         unfold jz;refine vp.stamped ?_
         split
         ·exact⟨LE _ x.aa,λh=>absurd h h3,λh=>absurd h h6⟩
         ·split
          ·exact(LE _ x.aa).out
          ·unfold jd;rw[iQ (by grind)]
           split
           ·rename_i h4;have h4:x.state=4:=h4;have:=O.aB omQ omQ;exact(LE _ _).ask SO (by grind)
           ·rename_i h4;have h4:¬x.state=4:=h4;rw[iJ (by grind)];exact(LE _ _).out
structure ThrLk (S:je) (n:Int) (t:qu) (i:Int):Prop where
  me:t.me=i
  set:t.set=S
  a:t.state=1→∀x,t.now=some x→vp S n x i
def vG (t:qu) (j:Int):Prop:=t.state=1∧∃x,t.now=some x∧Xt x j
variable {t u:qu} {i:Int}
theorem ThrLk.mono {n':Int} (L:ThrLk S n t i) (h:n≤n'):ThrLk S n' t i:=⟨L.me,L.set,λh1 x hx=>(L.a h1 x hx).mono h⟩
theorem qWU (_:xo S) {j:Xn}:vp S n (KK me S j) me :=
 ⟨⟨rfl,rfl,λy hy=>(by cases hy),λx hx c hc=>by
  have hx:x∈[([],[])]:=hx
  grind⟩,λh=>(by cases h),λh=>by cases h⟩
structure AL (S:je) (n:Int) (t:qu) (i:Int):Prop extends ThrLk S n t i where
  no:∀j,¬vG t j
theorem Gy (SO:xo S) (h1:t.me=i) (h2:t.set=S):AL S n (z8 t) i:=by
 have hS:jT t.set=S:=by grind[Xa]
 unfold z8
 split
 ·exact⟨⟨h1,h2,λh=>by simp⟩,λj h=>by cases h.1⟩
 ·refine⟨⟨h1,h2,λ_ x hx=>?_⟩,λj h=>?_⟩
  ·grind[Option.some.inj,QG,qWU,Jm]
  ·obtain⟨_,x,hx,h6,_⟩:=h;have hx:=Option.some.inj hx;subst hx
   split at h6
   ·cases h6
   ·cases h6
theorem YC (h1:t.me=i) (h2:t.set=S) (h:t.state≠1):AL S n t i:=⟨⟨h1,h2,λh'=>absurd h' h⟩,λ_ h'=>h h'.1⟩
theorem Jo (SO:xo S) (h1:t.me=i) (h2:t.set=S):AL S n (xX t) i:=Gy SO h1 h2
theorem qWC (SO:xo S) (h1:t.me=i) (h2:t.set=S) (draw:Int):AL S n (yW t draw) i:=by
 grind[yW,Gy,YC]
theorem qkP (SO:xo S) (h1:t.me=i) (h2:t.set=S) (h5:t.state≠1):AL S n (vq t) i:=by
 grind[vw,YC,Jo,Gy,vq]
theorem qga (SO:xo S) (h1:t.me=i) (h2:t.set=S) (draw pick:Int):AL S n (yD t x draw pick) i:=by
 unfold yD;dsimp only
 split
 ·grind[YC,qWC,jq]
 ·split
  ·grind[Gy,jq,YC]
  grind[Qv,Jo,Qn,qkP]
theorem qzs (SO:xo S) (L:ThrLk S n t i) (h:t.state≠1):AL S n (jC t) i:=by
 unfold jC
 split
 ·split
  ·exact Gy SO L.me L.set
  ·exact YC L.me L.set (by grind)
 ·exact YC L.me L.set h
structure qwU (S:je) (M:zG) (t:qu) (i:Int) (r:cB×zG) (u:qu):Prop where
  mem:kg S r.2
  lk:ThrLk S r.2.n u i
  n:M.n≤r.2.n∧r.2.n≤M.n+1
  held:∀j,0≤j→j<S.ae→(jj r.2.l j).2.1=true→(jj r.2.l j=jj M.l j∧(vG t j→vG u j))∨((jj r.2.l j).2.2=i∧vG u j)
theorem jJ2 (SO:xo S) (MO:kg S M) (R:DP M) (O:xR t) (W:cL t) (L:ThrLk S M.n t i) (hm:0≤i∧i<4) {o:dj} (hn:xW t=some o) (draw pick:Int):qwU S M t i (qR M o) (jg t (qR M o).1 draw pick):=by
 by_cases h1:t.state=1
 ·obtain⟨x,hx⟩:∃x,t.now=some x:=by
   cases h:t.now with
   |none=>exact absurd h (O.c omQ).some
   |some x=>simp
  have OA:=((O.c omQ).now x hx).1;have bY:zp x=some o:=by simp_all[xW]
  have r8:=(Jn R (kR O W hn)).1
  have K:=jJ0 SO MO OA (L.a h1 x hx) hm (λo' ma=>by
   grind) bY
  generalize qR M o=r at*;have et:jg t r.1 draw pick=xi t x (qd x r.1) draw pick:=by simp_all[jg]
  rw[et];generalize qd x r.1=y at*;unfold xi;dsimp only;have hT:∀j,vG t j→Xt x j:=λj ⟨_,z,hz,h⟩=>by grind
  split
  ·refine⟨K.mem,⟨L.me,L.set,λ_ z hz=>by cases hz;exact K.lk⟩,K.n,λj j0 j1 hj=>?_⟩;rcases K.held j j0 j1 hj with⟨a,b⟩ |⟨a,b⟩
   ·exact .inl ⟨a,λh=>⟨h1,y,rfl,b (hT j h)⟩⟩
   ·exact .inr ⟨a,h1,y,rfl,b⟩
  ·rename_i he;have h8:y.state=8:=by
    unfold jf at he
    grind
   refine⟨K.mem,(qga SO (by show t.me=i;exact L.me) (by show t.set=S;exact L.set) draw pick).toThrLk,K.n,λj j0 j1 hj=>?_⟩;rcases K.held j j0 j1 hj with⟨a,b⟩ |⟨a,b⟩
   ·exact .inl ⟨a,λh=>by have:=(b (hT j h)).1;omega⟩
   ·have:=b.1;omega
 ·have hk:o.kind=8:=by
   unfold xW at hn;rw[iQ h1]at hn
   split at hn
   ·cases hn;rfl
   ·split at hn
    ·cases hn;rfl
    grind
  have e3:=qQl (M:=M) (o:=o) omQ;have N:AL S M.n (jg t (qR M o).1 draw pick) i:=by
   unfold jg;rw[iQ h1]
   split
   ·split
    ·exact YC L.me L.set h1
    ·exact qWC SO L.me L.set _
   ·split
    ·rename_i h5;exact qkP SO L.me L.set (by grind)
    ·exact YC L.me L.set h1
  exact⟨MO.same e3,by rw[e3.2.2];exact N.toThrLk,by grind,λj _ _ _=>.inl ⟨by grind,λh=>absurd h.1 h1⟩⟩
theorem qw3 (SO:xo S) (L:ThrLk S n t i) {s v:Int}:ThrLk S n (zy t s v) i∧∀j,vG t j→vG (zy t s v) j:=by
 unfold zy
 split
 ·grind
 ·rename_i x hx
  split
  ·split
   ·rename_i h4;exact⟨(Gy SO L.me L.set).toThrLk,λj h=>by have:=h.1;omega⟩
   ·split
    ·exact⟨⟨L.me,L.set,L.a⟩,λj h=>h⟩
    grind
  grind
theorem qJ2 (W:cL t):cL (jC t):=by
 unfold jC
 split
 ·split
  ·simp[gV]
  trivial
 grind
theorem qYO (W:cL t) {s v:Int}:cL (zy t s v):=by
 unfold zy
 split
 ·grind
 ·split
  ·split
   ·simp[gV]
   ·split
    all_goals trivial
  grind
structure JI (m:vY):Prop where
  so:xo m.s
  th:m.s.ad≤4
  mem:kg m.s m.m
  r:DP m.m
  len:(m.t.length:Int)=m.s.ad
  t:∀(i:Nat) (t:qu),m.t[i]? =some t→xR t∧cL t∧ThrLk m.s m.m.n t i
  held:∀j,0≤j→j<m.s.ae→(jj m.m.l j).2.1=true→∃(i:Nat) (t:qu),(jj m.m.l j).2.2=(i:Int)∧m.t[i]? =some t∧vG t j
theorem KW {ts:List qu} {i:Nat} {s v:Int} {k:Nat}:(yQ ts i s v)[k]? =(ts[k]?).map λt=>if k=i then t else zy t s v:=by simp[yQ,List.getElem?_mapIdx]
theorem YI {m:vY} (K:JI m) {i:Nat} (hi:i<m.t.length) {draw:Int} (hd:0≤draw):JI (xZ m i draw)∧(xZ m i draw).s=m.s∧(xZ m i draw).az=m.az+1∧m.m.n≤(xZ m i draw).m.n∧(xZ m i draw).m.n≤m.m.n+1:=by
 obtain⟨t,ht⟩:∃t,m.t[i]? =some t:=⟨m.t[i],iW hi⟩;obtain⟨O,W,L⟩:=K.t i t ht;have Le:0≤(i:Int)∧(i:Int)<4:=by have:=K.len;have:=K.th;omega
 unfold xZ;rw[ht];dsimp only;have fD:∀(u:qu),(m.t.set i u)[i]? =some u:=λu=>by grind
 have eI:∀(u:qu) {k:Nat},k≠i→(m.t.set i u)[k]? =m.t[k]?:=λu k hk=>by grind
 split
 ·rename_i hn;have h1:t.state≠1∨(t.state=1∧∀j,¬vG t j):=by
   by_cases h1:t.state=1
   ·refine .inr ⟨h1,λj ⟨_,x,hx,h6,c,hc,hf,_⟩=>?_⟩;have hn:zp x=none:=by
     simp_all[xW]
    unfold zp at hn;rw[iQ omQ,iQ omQ,iQ omQ,iQ omQ,iQ omQ,iQ omQ,iJ h6,hc]at hn;have hn:yq c=none:=hn;unfold yq at hn;grind
   grind
  have L':ThrLk m.s m.m.n (jC t) i∧∀j,vG t j→vG (jC t) j:=by
   rcases h1 with h1 |⟨h1,h2⟩
   ·exact⟨(qzs K.so L h1).toThrLk,λj h=>absurd h.1 h1⟩
   simp_all[jC,omQ]
  refine⟨⟨K.so,K.th,K.mem,K.r,by show((m.t.set i _).length:Int)=_;rw[List.length_set];exact K.len,λk u hu=>?_,λj j0 j1 hj=>?_⟩,rfl,rfl,Int.le_refl _,by grind⟩
  ·have hu:(m.t.set i (jC t))[k]? =some u:=hu;by_cases hk:k=i
   ·grind[U3,qJ2]
   ·rw[eI _ hk]at hu;exact K.t k u hu
  ·obtain⟨k,u,h1,h2,h3⟩:=K.held j j0 j1 hj;grind
 ·rename_i o hn;have T:=jJ2 K.so K.mem K.r O W L Le hn draw (m.az+1);have ho:=kR O W hn;obtain⟨a1,a2⟩:=Jn K.r ho;have O':=Ue O a1 hd (pick:=m.az+1) (draw:=draw);have W':=O7 O W a1 draw (m.az+1);generalize qR m.m o=r at*;generalize jg t r.1 draw (m.az+1)=u at*;have base:∀ts:List qu,ts.length=m.t.length→(∀(k:Nat) (v:qu),ts[k]? =some v→xR v∧cL v∧ThrLk m.s r.2.n v k∧(k=i→∀j,vG u j→vG v j)∧(k≠i→∀w,m.t[k]? =some w→∀j,vG w j→vG v j))→
    JI { m with az:=m.az+1,last:=o,did:=true,m:=r.2,t:=ts }:=λts hl H=>by
   refine⟨K.so,K.th,T.mem,a2,by show(ts.length:Int)=_;rw[hl];exact K.len,λk v hv=>⟨(H k v hv).1,(H k v hv).2.1,(H k v hv).2.2.1⟩,λj j0 j1 hj=>?_⟩;have pB:vG u j→(jj r.2.l j).2.2=(i:Int)→∃(k:Nat) (t:qu),(jj r.2.l j).2.2=(k:Int)∧ts[k]? =some t∧vG t j:=λh e=>by
    grind
   rcases T.held j j0 j1 hj with⟨h1,h2⟩ |⟨h1,h2⟩
   ·obtain⟨k,w,g1,g2,g3⟩:=K.held j j0 j1 (by grind);grind
   grind
  have one:∀(k:Nat) (v:qu),(m.t.set i u)[k]? =some v→xR v∧cL v∧ThrLk m.s r.2.n v k∧(k=i→∀j,vG u j→vG v j)∧(k≠i→∀w,m.t[k]? =some w→∀j,vG w j→vG v j):=λk v hv=>by
   by_cases hk:k=i
   ·subst hk;rw[fD]at hv;cases hv;exact⟨O',W',T.lk,λ_ j h=>h,λh=>absurd rfl h⟩
   ·rw[eI _ hk]at hv;obtain⟨b1,b2,b3⟩:=K.t k v hv;exact⟨b1,b2,b3.mono T.n.1,λh=>absurd h hk,λ_ w hw j h=>by grind⟩
  refine⟨?_,rfl,rfl,T.n⟩
  split
  ·refine base _ (by simp[yQ]) λk v hv=>?_;rw[KW]at hv;cases hq:(m.t.set i u)[k]? with
   |none=>grind
   |some q=>
    rw[hq]at hv;have hv:(if k=i then q else zy q o.at_ o.lk.1)=v:=Option.some.inj hv;obtain⟨b1,b2,b3,b4,b5⟩:=one k q hq;by_cases hk:k=i
    ·grind
    ·rw[iQ hk]at hv;subst hv;have wk:=qw3 K.so b3 (s:=o.at_) (v:=o.lk.1);grind[ZK,qYO,absurd]
  grind
theorem qWO {s:je} {jobs:List (List (List qO))} (hs:0≤s.start) (hj:∀js∈jobs,∀l∈js,(yn l).2=0∧bO l):JI (wu s jobs):=by
 have so:xo (jT { s with ad:=((jobs.take 4).length:Int) }):=wY hs;have q1:=so.words;have q2:=so.ae;have q3:=so.ad;have q4:=so.start;generalize hS:jT { s with ad:=((jobs.take 4).length:Int) }=S at*;have e:qR (xw S) (bx 2 5 14)=(cO,{ xw S with w:=(xw S).w.set 5 14,aN:=1 }):=by refine(Uy (M:=xw S) (N:={ xw S with w:=(xw S).w.set 5 14 }) (a:=cO) (.inr rfl) ?_ rfl);unfold Xm;rw[iQ (by show¬((5:Int)<1∨((List.replicate S.words.toNat (0:Int)).length:Int)≤5);grind)];rfl
 have lkz:∀j,jj (List.replicate S.ae.toNat cC) j=cC:=λj=>by
  grind[jj]
 unfold wu;rw[hS];dsimp only;rw[e];refine⟨so,q3.2,⟨?_,?_,?_,λj j0 j1=>?_⟩,?_,?_,λi t ht=>?_,λj j0 j1 hj=>?_⟩
 ·show((((List.replicate S.words.toNat (0:Int)).set 5 14).length:Nat):Int)=S.words;grind
 ·show(((List.replicate S.ae.toNat cC).length:Nat):Int)=S.ae;grind
 ·show 0≤S.start∧S.start<4611686018427387904;omega
 ·show kB (jj (List.replicate S.ae.toNat cC) j)∧(jj (List.replicate S.ae.toNat cC) j).1≤S.start;rw[lkz];exact⟨by trivial,q4.1⟩
 ·have r0:DP (xw S):=by
   have Q:=qG2 so;refine⟨Q.wd,by rw[Q.n];grind,λz hz=>?_⟩;rw[Q.s]at hz;grind
  grind[Jn,xw,bx]
 ·grind
 ·rw[List.getElem?_map]at ht;by_cases hi:i<S.ad.toNat
  ·rw[List.getElem?_range hi]at ht;have ht:=Option.some.inj ht;subst ht;have ug:∀l∈(((jobs.take 4)[i]?).getD []),(yn l).2=0∧bO l:=λl hl=>by
    grind
   have O:xR (Vs i S (((jobs.take 4)[i]?).getD [])):=qv0 q4.1 ug;have hh:=Xa so;have me:max 0 (min (i:Int) ((jT S).ad-1))=(i:Int):=by grind
   refine⟨O,gk _,(Jo so ?_ hh).toThrLk⟩;grind
  grind
 ·have hj:(jj (List.replicate S.ae.toNat cC) j).2.1=true:=hj;rw[lkz]at hj;cases hj
end
section
abbrev wB:Type:=Nat→List Cl
def hv (G:wB) (w0:List Int):Nat→Int→Int
 | 0,p=>qB w0 p
 |k+1,p=>(zt p (G (k+1))).getD (hv G w0 k p)
theorem qyf {G:wB} {w0:List Int} {p:Int}:∀(d a:Nat),(∀k,a<k→k≤a+d→zt p (G k)=none)→hv G w0 (a+d) p=hv G w0 a p:=by
 intro d
 induction d with
 |zero=>simp
 |succ d ih=>intro a h;show(zt p (G (a+d+1))).getD (hv G w0 (a+d) p)=_;grind
theorem RJ {G:wB} {w0:List Int} {p:Int} {a b:Nat} (EH:a≤b) (h:∀k,a<k→k≤b→zt p (G k)=none):hv G w0 b p=hv G w0 a p:=by obtain⟨d,rfl⟩:=Nat.exists_eq_add_of_le EH;simp_all[qyf]
theorem qKO {G G':wB} {w0:List Int} {p:Int}:∀(a:Nat),(∀k,k≤a→zt p (G' k)=zt p (G k))→hv G' w0 a p=hv G w0 a p:=by
 intro a
 induction a with
 |zero=>intro _;rfl
 |succ a ih=>intro h;show(zt p (G' (a+1))).getD _=(zt p (G (a+1))).getD _;grind
theorem YK {p:Int} {l:List Cl}:zt p l=none↔∀c∈l,c.1≠p:=by
 induction l with
 |nil=>exact⟨λ_ c hc=>(by grind),λ_=>rfl⟩
 |cons a l ih=>
  unfold zt
  grind
def nq (S:je) (p:Int):Int:=ofM p S.ae S.wide
def Touch (S:je) (cs:List Cl) (j:Int):Prop:=∃q∈cs,nq S q.1=j
theorem Touch.none {S:je} {cs:List Cl} {p:Int} (h:¬Touch S cs (nq S p)):zt p cs=none :=
 YK.2 λc hc e=>h ⟨c,hc,by rw[e]⟩
def x9 (t:qu):Option jX:=if t.state=1 then(match t.now with |some x=>if x.state=6 then x.c else none |none=>none)else none
structure Env where
  M:zG
  G:wB
  C:Nat→Option jX
def yG (m:vY) (G:wB):Env:=⟨m.m,G,λi=>(m.t[i]?).bind x9⟩
variable {S:je} {w0:List Int} {E F:Env}
def iT (E:Env) (T j:Int):Prop:=∀i c,E.C i=some c→c.state=4→c.now+1≤T→j∉c.s
def Gd (S:je) (E:Env) (j a b:Int):Prop:=∀s:Int,a<s→s≤b→¬Touch S (E.G (s-S.start).toNat) j
structure oV (S:je) (E:Env) (T j v:Int):Prop where
  le:v≤T
  q:Gd S E j v T
  np:iT E T j
def RT (S:je) (w0:List Int) (E:Env) (T:Int) (K:List Cl):Prop:=∀c∈K,c.2=hv E.G w0 (T-S.start).toNat c.1∧iT E T (nq S c.1)
def bV (c:jX):Prop:=c.state=5∨c.state=6
def nr (E:Env) (j:Int):Prop:=∃i c,E.C i=some c∧bV c∧holds c j
structure yi (S:je) (E F:Env):Prop where
  n:E.M.n≤F.M.n
  g:∀k:Nat,F.G k=E.G k∨(E.M.n-S.start).toNat<k∨(E.G k=[]∧∃i c,E.C i=some c∧c.state=4∧(c.now+1-S.start).toNat=k∧F.G k=c.cells)
  p:∀i c,F.C i=some c→c.state=4→E.M.n<c.now+1∨∃d,E.C i=some d∧d.state=4∧d.now=c.now∧d.s=c.s∧d.cells=c.cells
  v:∀j:Int,0≤j→j<S.ae→(jj E.M.l j).1≤(jj F.M.l j).1
  w:∀j:Int,0≤j→j<S.ae→nr E j→nr F j∨(jj E.M.l j).1<(jj F.M.l j).1
  b:∀(k:Nat) (j:Int),0≤j→j<S.ae→k≤(E.M.n-S.start).toNat→Touch S (F.G k) j→Touch S (E.G k) j∨nr F j∨(jj E.M.l j).1<(jj F.M.l j).1
structure Ys (S:je) (E:Env):Prop where
  start:S.start≤E.M.n
  dL:∀i c,E.C i=some c→(∀q∈c.cells,nq S q.1∈c.s)∧(4≤c.state→c.state≤6→S.start≤c.now∧c.now+1≤E.M.n)
theorem iT.later {T j:Int} (h:iT E T j) (L:yi S E F) (hT:T≤E.M.n):iT F T j:=λi c hc h4 hle=>by
 rcases L.p i c hc h4 with h1 |⟨d,h1,h2,h3,h5,_⟩
 ·omega
 ·rw[← h5];exact h i d h1 h2 omQ
theorem yi.gets (L:yi S E F) (O:Ys S E) {T p:Int} (_:S.start≤T) (hT:T≤E.M.n) (np:iT E T (nq S p)) {k:Nat} (hk:k≤(T-S.start).toNat):zt p (F.G k)=zt p (E.G k):=by
 rcases L.g k with h |h |⟨h1,i,c,hc,h4,hs,hg⟩
 ·rw[h]
 ·omega
 ·have hn:=(O.dL i c hc).2 omQ omQ;have:=np i c hc h4 omQ;rw[h1,hg];show zt p c.cells=none;exact YK.2 λq hq e=>this (e▸(O.dL i c hc).1 q hq)
theorem oV.later {T j v:Int} (h:oV S E T j v) (L:yi S E F) (O:Ys S E) (hT:T≤E.M.n):oV S F T j v:=by
 refine⟨h.le,λs h1 h2 ht=>?_,h.np.later L hT⟩;have hq:=h.q s h1 h2;have hs0:=O.start;rcases L.g (s-S.start).toNat with e |e |⟨e1,i,c,hc,h4,hs,hg⟩
 ·grind
 ·omega
 ·have hn:=(O.dL i c hc).2 omQ omQ;have:=h.np i c hc h4 omQ;rw[hg]at ht;obtain⟨q,Af,Ag⟩:=ht;exact this (Ag▸(O.dL i c hc).1 q Af)
theorem RT.later {T:Int} {K:List Cl} (h:RT S w0 E T K) (L:yi S E F) (O:Ys S E) (h0:S.start≤T) (hT:T≤E.M.n):RT S w0 F T K:=λc hc=>by
 obtain⟨h1,h2⟩:=h c hc;refine⟨?_,h2.later L hT⟩;rw[h1];exact(qKO _ λk hk=>L.gets O h0 hT h2 hk).symm
theorem Mw {p v a b:Int} (h0:S.start≤a) (h1:S.start≤b) (sZ:v≤a) (Tm:v≤b) (ha:Gd S E (nq S p) v a) (hb:Gd S E (nq S p) v b):hv E.G w0 (a-S.start).toNat p=hv E.G w0 (b-S.start).toNat p:=by
 have key:∀c,S.start≤c→v≤c→Gd S E (nq S p) v c→hv E.G w0 (c-S.start).toNat p=hv E.G w0 (max v S.start-S.start).toNat p:=λc hc hvc hq=>by
  refine RJ omQ λk h1 h2=>?_;have:=hq (S.start+k) omQ omQ;grind[Touch.none]
 grind
theorem yi.trans {D:Env} (a:yi S D E) (b:yi S E F) (O:Ys S D):yi S D F:=by
 have h0:=O.start;refine⟨Int.le_trans a.n b.n,λk=>?_,λi c hc h4=>?_,λj j0 j1=>Int.le_trans (a.v j j0 j1) (b.v j j0 j1),λj j0 j1 h=>?_,λk j j0 j1 hk ht=>?_⟩
 ·have hn:=a.n;rcases b.g k with e |e |⟨e,i,c,hc,h4,hs,hg⟩
  ·rw[e];exact a.g k
  ·omega
  ·rcases a.p i c hc h4 with h |⟨d,hd,d4,dn,_,dc⟩
   ·omega
   ·rcases a.g k with g |g |⟨g,_⟩
    all_goals grind
 ·have hn:=a.n;rcases b.p i c hc h4 with h |⟨d,hd,d4,dn,ds,dc⟩
  ·omega
  ·rcases a.p i d hd d4 with h |⟨e,he,e4,en,es,ec⟩
   all_goals grind
 ·have h1:=a.v j j0 j1;have h2:=b.v j j0 j1;rcases a.w j j0 j1 h with h |h
  ·rcases b.w j j0 j1 h with h |h
   all_goals grind
  omega
 ·have hn:=a.n;have h1:=a.v j j0 j1;have h2:=b.v j j0 j1;rcases b.b k j j0 j1 omQ ht with h |h |h
  ·rcases a.b k j j0 j1 hk h with h |h |h
   ·grind
   ·rcases b.w j j0 j1 h with h |h
    all_goals grind
   omega
  all_goals grind
end
section
structure E8 (S:je) (n:Int) (c:jX):Prop where
  dw:c.s.Pairwise (· < ·)
  s:∀z∈c.s,0≤z∧z<S.ae
  cells:∀q∈c.cells,1≤q.1∧q.1<S.words
  s1:c.state=1→c.lk.2=(false,0)∧c.lk.1≤n
  s3:c.state=3→c.now<4611686018427387903
  s4:4≤c.state→c.state≤6→c.now+1≤n
  full:2≤c.state→c.state≤6→c.aw.length=c.s.length
  a7:6≤c.state→c.at_<c.aw.length
theorem wT.mJ {S:je} {n me:Int} {c:jX} (C:wT S n c me) (hp:c.p.fin=0):E8 S n c:=by have h:=C.ok.ar;unfold zi at h;exact⟨C.ok.dw,C.s,C.cells,C.s1,C.s3,C.s4,λ_ _=>by omega,λ_=>by omega⟩
theorem E8.mono {S:je} {n n':Int} {c:jX} (C:E8 S n c) (h:n≤n'):E8 S n' c :=
 ⟨C.dw,C.s,C.cells,λh1=>⟨(C.s1 h1).1,Int.le_trans (C.s1 h1).2 h⟩,C.s3,λa b=>Int.le_trans (C.s4 a b) h,C.full,C.a7⟩
structure Gn (S:je) (n:Int) (c:jX) (i:Nat):Prop where
  lk:E8 S n c
  fin:c.p.fin=0
  mH:∀q∈c.cells,nq S q.1∈c.s
  un:lQ c.cells
  ne:c.cells≠[]
  now:3≤c.state→c.state≤6→S.start≤c.now∧∀w∈c.aw,w.1≤c.now
structure xk (S:je) (w0:List Int) (E:Env):Prop where
  st:S.start≤E.M.n
  ml:kg S E.M
  dL:∀i c,E.C i=some c→Gn S E.M.n c i
  hold:∀i c,E.C i=some c→∀(k:Nat) (z:Int) (w:dz),c.s[k]? =some z→c.aw[k]? =some w→(6≤c.state→c.at_≤k)→jj E.M.l z=(w.1,true,(i:Int))
  sD:∀i c,E.C i=some c→bV c→E.G (c.now+1-S.start).toNat=c.cells
  uN:∀i c,E.C i=some c→c.state=4→E.G (c.now+1-S.start).toNat=[]
  fE:∀i j c d,E.C i=some c→E.C j=some d→4≤c.state→c.state≤6→4≤d.state→d.state≤6→c.now=d.now→i=j
  AM:∀k:Nat,(E.M.n-S.start).toNat<k→E.G k=[]
  g0:E.G 0=[]
  dH:∀j s:Int,0≤j→j<S.ae→(jj E.M.l j).1<s→s≤E.M.n→Touch S (E.G (s-S.start).toNat) j→∃i c,E.C i=some c∧bV c∧c.now+1=s∧holds c j
  mem:∀p:Int,1≤p→p<S.words→qB E.M.w p=hv E.G w0 (E.M.n-S.start).toNat p∨∃i c,E.C i=some c∧c.state=5∧∃(k:Nat) (q:Cl),c.at_≤k∧c.cells[k]? =some q∧q.1=p
variable {S:je} {w0:List Int} {E:Env} {i:Nat} {c d:jX}
theorem xk.env (I:xk S w0 E):Ys S E :=
 ⟨I.st,λi c hc=>⟨(I.dL i c hc).mH,λh4 h6=>⟨((I.dL i c hc).now omQ h6).1,(I.dL i c hc).lk.s4 h4 h6⟩⟩⟩
theorem Gn.full {n:Int} (I:Gn S n c i) (h2:2≤c.state) (h6:c.state≤6):c.aw.length=c.s.length:=I.lk.full h2 h6
theorem Gn.holds {n:Int} (I:Gn S n c i) (h2:2≤c.state) (h5:c.state≤5) {j:Int} (hj:j∈c.s):holds c j:=by obtain⟨k,hk,e⟩:=List.mem_iff_getElem.1 hj;have:=I.full h2 omQ;exact⟨k,by grind,by omega,λh=>by omega⟩
theorem xk.own (I:xk S w0 E) (hc:E.C i=some c) {j:Int} (h:holds c j):(jj E.M.l j).2.1=true∧(jj E.M.l j).2.2=(i:Int):=by obtain⟨k,h1,h2,h3⟩:=h;have:=I.hold i c hc k j _ h1 (iW h2) h3;grind
theorem xk.one (I:xk S w0 E) {i':Nat} {c':jX} (hc:E.C i=some c) (bA:E.C i'=some c') {j:Int} (h:holds c j) (h':holds c' j):i'=i∧c'=c:=by
 have a:=(I.own hc h).2;have b:=(I.own bA h').2;grind
theorem xk.free (I:xk S w0 E) {j T:Int} (j0:0≤j) (j1:j<S.ae) (hf:(jj E.M.l j).2.1=false) (hv:(jj E.M.l j).1≤T) (hT:T≤E.M.n):oV S E T j (jj E.M.l j).1:=by
 have no:∀i c,E.C i=some c→¬holds c j:=λi c hc h=>by
  rw[(I.own hc h).1]at hf;grind
 refine⟨hv,λs h1 h2 ht=>?_,λi c hc h4 _ hj=>no i c hc ((I.dL i c hc).holds omQ omQ hj)⟩;obtain⟨i,c,hc,_,_,hh⟩:=I.dH j s j0 j1 h1 omQ ht;grind
theorem xk.pB (I:xk S w0 E) (hc:E.C i=some c) (hw:¬bV c) {j T:Int} (j0:0≤j) (j1:j<S.ae) (hh:holds c j) (hv:(jj E.M.l j).1≤T) (hT:T≤E.M.n) (h4:c.state=4→T≤c.now):oV S E T j (jj E.M.l j).1:=by
 refine⟨hv,λs h1 h2 ht=>?_,λi' c' bA pN hle hj=>?_⟩
 ·obtain⟨i',c',bA,dS,_,iB⟩:=I.dH j s j0 j1 h1 omQ ht;obtain⟨_,rfl⟩:=I.one hc bA hh iB;grind
 ·obtain⟨_,rfl⟩:=I.one hc bA hh ((I.dL i' c' bA).holds omQ omQ hj);grind
theorem xk.word (I:xk S w0 E) {p:Int} (h1:1≤p) (h2:p<S.words) (no:∀i c,E.C i=some c→bV c→¬holds c (nq S p)):qB E.M.w p=hv E.G w0 (E.M.n-S.start).toNat p:=by
 rcases I.mem p h1 h2 with h |⟨i,c,hc,h5,k,q,_,hq,rfl⟩
 ·grind
 ·exact absurd ((I.dL i c hc).holds omQ omQ ((I.dL i c hc).mH q (List.mem_of_getElem? hq))) (no i c hc (.inl h5))
theorem nr.keep {M:zG} {G:wB} {C:Nat→Option jX} {o:Option jX} {M':zG} {G':wB} {j:Int} (h:nr ⟨M,G,C⟩ j) (hn:∀c,C i=some c→¬bV c):nr ⟨M',G',λk=>if k=i then o else C k⟩ j:=by
 obtain⟨i',c',bA,dS,iB⟩:=h;have:i'≠i:=λe=>by grind
 exact⟨i',c',by grind,dS,iB⟩
def cU (C:Nat→Option jX) (i:Nat) (o:Option jX):Nat→Option jX:=λj=>if j=i then o else C j
theorem Ju {C:Nat→Option jX} {o:Option jX}:cU C i o i=o:=iJ rfl
theorem jS {C:Nat→Option jX} {o:Option jX} {j:Nat} {e:jX} (h:cU C i o j=some e):(j=i∧o=some e)∨(j≠i∧C j=some e):=by
 grind[cU]
theorem gU {C:Nat→Option jX} {o:Option jX} {j:Nat} (h:j≠i):cU C i o j=C j:=iQ h
theorem xk.same {M':zG} (I:xk S w0 E) (h:M'.w=E.M.w∧M'.l=E.M.l∧M'.n=E.M.n):xk S w0 ⟨M',E.G,E.C⟩ :=
 ⟨by show S.start≤M'.n;rw[h.2.2];exact I.st,I.ml.same h,by show∀i c,E.C i=some c→Gn S M'.n c i;rw[h.2.2];exact I.dL,by show∀i c,E.C i=some c→∀(k:Nat) (z:Int) (w:dz),c.s[k]? =some z→c.aw[k]? =some w→(6≤c.state→c.at_≤k)→jj M'.l z=(w.1,true,(i:Int));rw[h.2.1];exact I.hold,
  I.sD,I.uN,I.fE,by show∀k:Nat,(M'.n-S.start).toNat<k→E.G k=[];rw[h.2.2];exact I.AM,I.g0,
  by show∀j s:Int,0≤j→j<S.ae→(jj M'.l j).1<s→s≤M'.n→Touch S (E.G (s-S.start).toNat) j→∃i c,E.C i=some c∧bV c∧c.now+1=s∧holds c j;rw[h.2.1,h.2.2];exact I.dH,
  by show∀p:Int,1≤p→p<S.words→qB M'.w p=hv E.G w0 (M'.n-S.start).toNat p∨∃i c,E.C i=some c∧c.state=5∧∃(k:Nat) (q:Cl),c.at_≤k∧c.cells[k]? =some q∧q.1=p;rw[h.1,h.2.2];exact I.mem⟩
structure jZF (S:je) (E:Env) (i:Nat) (d:jX):Prop where
  dL:Gn S E.M.n d i
  hold:∀(k:Nat) (z:Int) (w:dz),d.s[k]? =some z→d.aw[k]? =some w→(6≤d.state→d.at_≤k)→jj E.M.l z=(w.1,true,(i:Int))
  nw:¬bV d
  p4:d.state=4→∃c,E.C i=some c∧c.state=4∧c.now=d.now∧c.s=d.s∧c.cells=d.cells
theorem xk.swap (I:xk S w0 E) (hn:∀c,E.C i=some c→¬bV c) {o:Option jX} (ho:∀d,o=some d→jZF S E i d):xk S w0 ⟨E.M,E.G,cU E.C i o⟩∧yi S E ⟨E.M,E.G,cU E.C i o⟩:=by
 refine⟨⟨I.st,I.ml,λj e he=>?_,λj e he=>?_,λj e he hw=>?_,λj e he h4=>?_,λj k e f he hf a1 a2 b1 b2 hq=>?_,I.AM,I.g0,λj s j0 j1 h1 h2 ht=>?_,λp p0 p1=>?_⟩,⟨Int.le_refl _,λk=>.inl rfl,λj e he h4=>?_,λ_ _ _=>Int.le_refl _,λj _ _ h=>.inl (h.keep hn),λ_ _ _ _ _ h=>.inl h⟩⟩
 ·rcases jS he with⟨rfl,h⟩ |⟨_,h⟩
  ·exact(ho e h).dL
  ·exact I.dL j e h
 ·rcases jS he with⟨rfl,h⟩ |⟨_,h⟩
  ·exact(ho e h).hold
  ·exact I.hold j e h
 ·rcases jS he with⟨rfl,h⟩ |⟨_,h⟩
  ·exact absurd hw (ho e h).nw
  ·exact I.sD j e h hw
 ·rcases jS he with⟨rfl,h⟩ |⟨_,h⟩
  ·obtain⟨c,hc,pN,Ln,_⟩:=(ho e h).p4 h4;show E.G (e.now+1-S.start).toNat=[];rw[← Ln];exact I.uN _ c hc pN
  ·exact I.uN j e h h4
 ·have DD:∀{e},o=some e→4≤e.state→e.state≤6→e.state=4:=λ{e} h a b=>by
   have:=(ho e h).nw;grind[bV]
  rcases jS he with⟨rfl,h⟩ |⟨hj,h⟩<;>rcases jS hf with⟨rfl,h'⟩ |⟨hk,h'⟩
  ·rfl
  ·obtain⟨c,hc,pN,Ln,_⟩:=(ho e h).p4 (DD h a1 a2);exact I.fE _ _ c f hc h' omQ omQ b1 b2 omQ
  ·obtain⟨c,hc,pN,Ln,_⟩:=(ho f h').p4 (DD h' b1 b2);exact I.fE _ _ e c h hc a1 a2 omQ omQ omQ
  ·exact I.fE j k e f h h' a1 a2 b1 b2 hq
 ·obtain⟨i',c',bA,dS,fi,iB⟩:=I.dH j s j0 j1 h1 h2 ht;have:i'≠i:=λe=>by grind
  exact⟨i',c',(gU this).trans bA,dS,fi,iB⟩
 ·rcases I.mem p p0 p1 with h |⟨i',c',bA,h5,hr⟩
  ·grind
  ·have:i'≠i:=λe=>by subst e;exact hn c' bA (.inl h5)
   exact .inr ⟨i',c',(gU this).trans bA,h5,hr⟩
 ·rcases jS he with⟨rfl,h⟩ |⟨_,h⟩
  ·obtain⟨c,hc,pN,Ln,fi⟩:=(ho e h).p4 h4;grind
  grind
theorem Y0 (I:xk S w0 E) {z j:Int} {x:dz} (z0:0≤z) (z1:z<S.ae) (j0:0≤j):jj (E.M.l.set z.toNat x) j=if z=j then x else jj E.M.l j:=by have:=I.ml.l;simp_all[ZD,omQ]
theorem xk.take (I:xk S w0 E) (hc:E.C i=some c) (h1:c.state=1) (hi:i<4) {z:Int} (hz:c.s[c.aw.length]? =some z) (hl:jj E.M.l z=c.lk) {k:Int} (hd:Gn S E.M.n (zk { c with aw:=c.aw++[c.lk] }) i) :
  xk S w0 ⟨{ E.M with l:=E.M.l.set z.toNat (c.lk.1,true,(i:Int)),aN:=k },E.G,cU E.C i (some (zk { c with aw:=c.aw++[c.lk] }))⟩∧
   yi S E ⟨{ E.M with l:=E.M.l.set z.toNat (c.lk.1,true,(i:Int)),aN:=k },E.G,cU E.C i (some (zk { c with aw:=c.aw++[c.lk] }))⟩:=by
 have CI:=I.dL i c hc;have hI:=CI.lk.s z (List.mem_of_getElem? hz);obtain⟨l1,l2⟩:=CI.lk.s1 h1;have bK:(zk { c with aw:=c.aw++[c.lk] }).state=0∨(zk { c with aw:=c.aw++[c.lk] }).state=2:=by
  unfold zk;grind
 have hs:(zk { c with aw:=c.aw++[c.lk] }).s=c.s:=rfl;have hws:(zk { c with aw:=c.aw++[c.lk] }).aw=c.aw++[c.lk]:=rfl;generalize zk { c with aw:=c.aw++[c.lk] }=d at*;have hnw:¬bV d:=by grind[bV]
 have ib:∀c',E.C i=some c'→¬bV c':=λc' bA=>by
  grind[bV]
 have other:∀j e,E.C j=some e→j≠i→∀y,holds e y→z≠y:=λj e he _ y hy h=>by
  subst h;have:=(I.own he hy).1;grind
 have vs:∀j,0≤j→(jj (E.M.l.set z.toNat (c.lk.1,true,(i:Int))) j).1=(jj E.M.l j).1:=λj j0=>by
  grind[Y0]
 refine⟨⟨I.st,I.ml.put (x:=(c.lk.1,true,(i:Int))) hI.1 hI.2 (by rw[Ge];have:=I.ml.n;omega) l2 k,λj e he=>?_,λj e he q y w h2 h3 h4=>?_,λj e he hw=>?_,λj e he h4=>?_,λj q e f he hf a1 a2 b1 b2 hq=>?_,I.AM,I.g0,λj s j0 j1 g1 g2 ht=>?_,λp p0 p1=>?_⟩,⟨Int.le_refl _,λk=>.inl rfl,λj e he h4=>?_,λj j0 _=>by grind,λj _ _ h=>.inl (h.keep ib),λ_ _ _ _ _ h=>.inl h⟩⟩
 ·rcases jS he with⟨rfl,h⟩ |⟨_,h⟩
  ·grind
  ·exact I.dL j e h
 ·show jj (E.M.l.set z.toNat (c.lk.1,true,(i:Int))) y=_;rcases jS he with⟨rfl,h⟩ |⟨hj,h⟩
  ·cases h;have dG:=CI.lk.s y (by grind);rw[Y0 I hI.1 hI.2 dG.1];rw[hs]at h2;rw[hws]at h3;by_cases hq:q<c.aw.length
   ·rw[List.getElem?_append_left hq]at h3;rw[iQ λe=>?_,I.hold _ c hc q y w h2 h3 λh6=>by omega];subst e;have:=qJm CI.lk.dw h2 hz;omega
   grind
  ·have hy:holds e y:=⟨q,h2,(List.getElem?_eq_some_iff.1 h3).1,h4⟩;rw[Y0 I hI.1 hI.2 ((I.dL j e h).lk.s y (List.mem_of_getElem? h2)).1,iQ (other j e h hj y hy)];exact I.hold j e h q y w h2 h3 h4
 ·rcases jS he with⟨rfl,h⟩ |⟨_,h⟩
  ·grind
  ·exact I.sD j e h hw
 ·rcases jS he with⟨rfl,h⟩ |⟨_,h⟩
  ·grind
  ·exact I.uN j e h h4
 ·rcases jS he with⟨rfl,h⟩ |⟨hj,h⟩
  ·grind
  ·rcases jS hf with⟨rfl,h'⟩ |⟨hk,h'⟩
   ·grind
   ·exact I.fE j q e f h h' a1 a2 b1 b2 hq
 ·have g1:(jj (E.M.l.set z.toNat (c.lk.1,true,(i:Int))) j).1<s:=g1;rw[vs j j0]at g1;obtain⟨i',c',bA,dS,fi,iB⟩:=I.dH j s j0 j1 g1 g2 ht;have:i'≠i:=λe=>by
   grind
  exact⟨i',c',(gU this).trans bA,dS,fi,iB⟩
 ·rcases I.mem p p0 p1 with h |⟨i',c',bA,h5,hr⟩
  ·grind
  ·have:i'≠i:=λe=>by
    grind
   exact .inr ⟨i',c',(gU this).trans bA,h5,hr⟩
 ·rcases jS he with⟨rfl,h⟩ |⟨_,h⟩
  all_goals grind
theorem xk.raise (I:xk S w0 E) (hc:E.C i=some c) (h3:c.state=3) (hq:E.M.n=c.now) {k:Int} (hd:Gn S (c.now+1) { c with state:=4 } i) :
  xk S w0 ⟨{ E.M with n:=c.now+1,aN:=k },E.G,cU E.C i (some { c with state:=4 })⟩∧yi S E ⟨{ E.M with n:=c.now+1,aN:=k },E.G,cU E.C i (some { c with state:=4 })⟩:=by
 have CI:=I.dL i c hc;have bK:=I.st;have ib:∀c',E.C i=some c'→¬bV c':=λc' bA=>by
  grind[bV]
 have mI:=CI.lk.s3 h3;have gf:E.G (c.now+1-S.start).toNat=[]:=I.AM _ omQ;have pW:∀j e,E.C j=some e→4≤e.state→e.state≤6→e.now+1≤E.M.n:=λj e he a b=>(I.dL j e he).lk.s4 a b;refine⟨⟨by grind,⟨I.ml.w,I.ml.l,by have:=I.ml.n;grind,λj a b=>⟨(I.ml.lk j a b).1,by have:=(I.ml.lk j a b).2;grind⟩⟩,λj e he=>?_,λj e he q y w g2 g3 g4=>?_,λj e he hw=>?_,λj e he h4=>?_,λj q e f he hf a1 a2 b1 b2 lG=>?_,λq lG=>I.AM q (by grind),I.g0,λj s j0 j1 g1 g2 ht=>?_,λp p0 p1=>?_⟩,⟨by grind,λk=>.inl rfl,λj e he h4=>?_,λ_ _ _=>Int.le_refl _,λj _ _ h=>.inl (h.keep ib),λ_ _ _ _ _ h=>.inl h⟩⟩
 ·rcases jS he with⟨rfl,h⟩ |⟨_,h⟩
  ·grind
  ·have:=I.dL j e h;exact⟨this.lk.mono (by grind),this.fin,this.mH,this.un,this.ne,this.now⟩
 ·rcases jS he with⟨rfl,h⟩ |⟨_,h⟩
  ·cases h;exact I.hold _ c hc q y w g2 g3 λh6=>by omega
  ·exact I.hold j e h q y w g2 g3 g4
 ·rcases jS he with⟨rfl,h⟩ |⟨_,h⟩
  ·cases h;rcases hw with h |h<;>cases h
  ·exact I.sD j e h hw
 ·rcases jS he with⟨rfl,h⟩ |⟨_,h⟩
  ·grind
  ·exact I.uN j e h h4
 ·rcases jS he with⟨rfl,h⟩ |⟨hj,h⟩<;>rcases jS hf with⟨rfl,h'⟩ |⟨hk,h'⟩
  ·rfl
  ·grind
  ·grind
  ·exact I.fE j q e f h h' a1 a2 b1 b2 lG
 ·have g2:s≤c.now+1:=g2;by_cases hs:s=c.now+1
  ·grind[Touch]
  ·obtain⟨i',c',bA,dS,fi,iB⟩:=I.dH j s j0 j1 g1 omQ ht;have:i'≠i:=λe=>by
    grind
   exact⟨i',c',(gU this).trans bA,dS,fi,iB⟩
 ·have e:hv E.G w0 (c.now+1-S.start).toNat p=hv E.G w0 (E.M.n-S.start).toNat p :=
   RJ omQ λq h1 h2=>by
    rw[I.AM q h1];rfl
  rcases I.mem p p0 p1 with h |⟨i',c',bA,h5,hr⟩
  ·grind
  ·have:i'≠i:=λe=>by
    grind
   exact .inr ⟨i',c',(gU this).trans bA,h5,hr⟩
 ·rcases jS he with⟨rfl,h⟩ |⟨_,h⟩
  all_goals grind
def UI (G:wB) (k:Nat) (cs:List Cl):wB:=λj=>if j=k then cs else G j
theorem xk.aI (I:xk S w0 E) (hc:E.C i=some c) (h4:c.state=4) (hd:Gn S E.M.n d i) (e5:d.state=5) (ea:d.at_=0) (es:d.s=c.s) (ew:d.aw=c.aw) (ec:d.cells=c.cells) (en:d.now=c.now) :
  xk S w0 ⟨E.M,UI E.G (c.now+1-S.start).toNat c.cells,cU E.C i (some d)⟩∧yi S E ⟨E.M,UI E.G (c.now+1-S.start).toNat c.cells,cU E.C i (some d)⟩:=by
 have CI:=I.dL i c hc;have bK:=I.st;have ib:∀c',E.C i=some c'→¬bV c':=λc' bA=>by
  grind[bV]
 have mI:=(CI.now omQ omQ).1;have pf:=CI.lk.s4 omQ omQ;have gp:=I.uN i c hc h4;have idx:∀j e,E.C j=some e→j≠i→4≤e.state→e.state≤6→(e.now+1-S.start).toNat≠(c.now+1-S.start).toNat:=λj e he hj a b h=>by
  have:=((I.dL j e he).now omQ b).1;exact hj (I.fE j i e c he hc a b omQ omQ omQ)
 have pg:∀k,k≠(c.now+1-S.start).toNat→UI E.G (c.now+1-S.start).toNat c.cells k=E.G k:=λk h=>iQ h;have pk:UI E.G (c.now+1-S.start).toNat c.cells (c.now+1-S.start).toNat=c.cells:=iJ rfl;refine⟨⟨I.st,I.ml,λj e he=>?_,λj e he q y w g2 g3 g4=>?_,λj e he hw=>?_,λj e he pN=>?_,λj q e f he hf a1 a2 b1 b2 lG=>?_,λk hk=>?_,?_,λj s j0 j1 g1 g2 ht=>?_,λp p0 p1=>?_⟩,⟨Int.le_refl _,λk=>?_,λj e he pN=>?_,λ_ _ _=>Int.le_refl _,λj _ _ h=>.inl (h.keep ib),λk j _ _ hk ht=>?_⟩⟩
 ·rcases jS he with⟨rfl,h⟩ |⟨_,h⟩
  ·grind
  ·exact I.dL j e h
 ·rcases jS he with⟨rfl,h⟩ |⟨_,h⟩
  ·cases h;exact I.hold _ c hc q y w (by grind) (by grind) λh6=>by omega
  ·exact I.hold j e h q y w g2 g3 g4
 ·rcases jS he with⟨rfl,h⟩ |⟨hj,h⟩
  ·grind
  ·show UI _ _ _ (e.now+1-S.start).toNat=_;rw[pg _ (idx j e h hj (by grind[bV]) (by grind[bV]))];exact I.sD j e h hw
 ·rcases jS he with⟨rfl,h⟩ |⟨hj,h⟩
  ·grind
  ·show UI _ _ _ (e.now+1-S.start).toNat=_;rw[pg _ (idx j e h hj omQ omQ)];exact I.uN j e h pN
 ·rcases jS he with⟨rfl,h⟩ |⟨hj,h⟩<;>rcases jS hf with⟨rfl,h'⟩ |⟨hk,h'⟩
  ·rfl
  ·grind
  ·grind
  ·exact I.fE j q e f h h' a1 a2 b1 b2 lG
 ·have hk:(E.M.n-S.start).toNat<k:=hk;show UI _ _ _ k=_;rw[pg k omQ];exact I.AM k hk
 ·show UI _ _ _ 0=_;rw[pg 0 omQ];exact I.g0
 ·have ht:Touch S (UI E.G (c.now+1-S.start).toNat c.cells (s-S.start).toNat) j:=ht;by_cases hs:(s-S.start).toNat=(c.now+1-S.start).toNat
  ·rw[hs,pk]at ht;obtain⟨q,Af,Ag⟩:=ht;refine⟨i,d,Ju,.inl e5,by grind,hd.holds omQ omQ ?_⟩;rw[es,← Ag];exact CI.mH q Af
  ·rw[pg _ hs]at ht;obtain⟨i',c',bA,dS,fi,iB⟩:=I.dH j s j0 j1 g1 g2 ht;have:i'≠i:=λe=>by
    grind
   exact⟨i',c',(gU this).trans bA,dS,fi,iB⟩
 ·by_cases hp:∃q∈c.cells,q.1=p
  ·obtain⟨q,hq,hqp⟩:=hp;obtain⟨k,hk,e⟩:=List.mem_iff_getElem.1 hq;exact .inr ⟨i,d,Ju,e5,k,q,by grind,by grind,hqp⟩
  ·have bY:zt p c.cells=none:=YK.2 λq hq e=>hp ⟨q,hq,e⟩;have e:hv (UI E.G (c.now+1-S.start).toNat c.cells) w0 (E.M.n-S.start).toNat p=hv E.G w0 (E.M.n-S.start).toNat p :=
    qKO _ λk _=>by
     by_cases hk:k=(c.now+1-S.start).toNat
     ·subst hk;rw[pk,gp,bY];rfl
     grind
   rcases I.mem p p0 p1 with h |⟨i',c',bA,h5,hr⟩
   ·grind
   ·have:i'≠i:=λe=>by
     grind
    exact .inr ⟨i',c',(gU this).trans bA,h5,hr⟩
 ·grind
 ·rcases jS he with⟨rfl,h⟩ |⟨_,h⟩
  all_goals grind
 ·have ht:Touch S (UI E.G (c.now+1-S.start).toNat c.cells k) j:=ht;by_cases oh:k=(c.now+1-S.start).toNat
  ·subst oh;rw[pk]at ht;obtain⟨q,Af,Ag⟩:=ht;exact .inr (.inl ⟨i,d,Ju,.inl e5,hd.holds omQ omQ (by rw[es,← Ag];exact CI.mH q Af)⟩)
  grind
end
section
variable {S:je} {w0:List Int} {E:Env} {i:Nat} {c d:jX}
theorem qwm {cs:List Cl} (h:lQ cs) {q:Cl} (hq:q∈cs):zt q.1 cs=some q.2:=by
 induction cs with
 |nil=>grind
 |cons a l ih=>
  have h':(a.1::l.map (·.1)).Nodup:=h;rw[List.nodup_cons]at h';unfold zt;rcases List.mem_cons.1 hq with rfl |lG
  ·simp
  ·rw[iQ (λe:a.1=q.1=>h'.1 (by grind))];exact ih h'.2 lG
theorem qzo {w:List Int} {a b x:Int} (ha:0≤a) (hb:0≤b) (hl:a<w.length):qB (w.set a.toNat x) b=if a=b then x else qB w b:=by
 unfold qB;grind
theorem xk.store (I:xk S w0 E) (hc:E.C i=some c) (h5:c.state=5) {a:Nat} (ha:c.at_=a) {q:Cl} (hq:c.cells[a]? =some q) {k:Int} (hd:Gn S E.M.n d i) (es:d.s=c.s) (ew:d.aw=c.aw) (ec:d.cells=c.cells) (en:d.now=c.now)
  (hs:(d.state=5∧d.at_=a+1)∨(d.state=6∧d.at_=0∧a+1=c.cells.length)) :
  xk S w0 ⟨{ E.M with w:=E.M.w.set q.1.toNat q.2,aN:=k },E.G,cU E.C i (some d)⟩∧yi S E ⟨{ E.M with w:=E.M.w.set q.1.toNat q.2,aN:=k },E.G,cU E.C i (some d)⟩:=by
 have CI:=I.dL i c hc;have RK:=List.mem_of_getElem? hq;have hqr:=CI.lk.cells q RK;have mI:=(CI.now omQ omQ).1;have pf:=CI.lk.s4 omQ omQ;have hw:=I.ml.w;have wd:bV d:=by grind[bV]
 have ei:∀j,holds c j→holds d j:=λj ⟨k,h1,h2,_⟩=>⟨k,by grind,by grind,λh=>by omega⟩;refine⟨⟨I.st,⟨by grind,I.ml.l,I.ml.n,I.ml.lk⟩,λj e he=>?_,λj e he q y w g2 g3 g4=>?_,λj e he dS=>?_,λj e he h4=>?_,λj q e f he hf a1 a2 b1 b2 lG=>?_,I.AM,I.g0,λj s j0 j1 g1 g2 ht=>?_,λp p0 p1=>?_⟩,⟨Int.le_refl _,λk=>.inl rfl,λj e he h4=>?_,λ_ _ _=>Int.le_refl _,λj _ _ h=>.inl ?_,λ_ _ _ _ _ h=>.inl h⟩⟩
 ·rcases jS he with⟨rfl,h⟩ |⟨_,h⟩
  ·grind
  ·exact I.dL j e h
 ·rcases jS he with⟨rfl,h⟩ |⟨_,h⟩
  ·cases h;exact I.hold _ c hc q y w (by grind) (by grind) λh6=>by omega
  ·exact I.hold j e h q y w g2 g3 g4
 ·rcases jS he with⟨rfl,h⟩ |⟨_,h⟩
  ·cases h;show E.G (d.now+1-S.start).toNat=_;rw[en,ec];exact I.sD _ c hc (.inl h5)
  ·exact I.sD j e h dS
 ·rcases jS he with⟨rfl,h⟩ |⟨_,h⟩
  ·grind
  ·exact I.uN j e h h4
 ·rcases jS he with⟨rfl,h⟩ |⟨hj,h⟩<;>rcases jS hf with⟨rfl,h'⟩ |⟨hk,h'⟩
  ·rfl
  ·cases h;exact I.fE _ _ c f hc h' omQ omQ b1 b2 omQ
  ·cases h';exact I.fE _ _ e c h hc a1 a2 omQ omQ omQ
  ·exact I.fE j q e f h h' a1 a2 b1 b2 lG
 ·obtain⟨i',c',bA,dS,fi,iB⟩:=I.dH j s j0 j1 g1 g2 ht;by_cases e:i'=i
  ·subst e;rw[hc]at bA;cases bA;exact⟨i',d,Ju,wd,by grind,ei j iB⟩
  ·exact⟨i',c',(gU e).trans bA,dS,fi,iB⟩
 ·show qB (E.M.w.set q.1.toNat q.2) p=_∨_;rw[qzo omQ omQ omQ];by_cases hp:q.1=p
  ·subst hp;rw[iJ rfl];refine .inl ?_;have hg:E.G (c.now+1-S.start).toNat=c.cells:=I.sD i c hc (.inl h5);have hh:holds c (nq S q.1):=CI.holds omQ omQ (CI.mH q RK);have hver:(jj E.M.l (nq S q.1)).1≤c.now:=by
    obtain⟨k',h1,h2,h3⟩:=hh;rw[I.hold i c hc k' _ _ h1 (iW h2) h3];show(c.aw[k']).1≤c.now;exact(CI.now omQ omQ).2 _ (List.getElem_mem h2)
   have E9:=CI.lk.s _ (CI.mH q RK);have later:∀k',(c.now+1-S.start).toNat<k'→k'≤(E.M.n-S.start).toNat→zt q.1 (E.G k')=none:=λk' h1 h2=>by
    cases hx:zt q.1 (E.G k')with
    |none=>rfl
    |some v=>
     have bW:¬(∀c'∈E.G k',c'.1≠q.1):=λh=>by grind[YK]
     have ht:Touch S (E.G (S.start+(k':Int)-S.start).toNat) (nq S q.1):=by
      rw[show(S.start+(k':Int)-S.start).toNat=k' by omega];rcases Classical.em (∃c'∈E.G k',c'.1=q.1)with⟨c',h3,h4⟩ |h
      ·exact⟨c',h3,by rw[h4]⟩
      grind
     obtain⟨i',c',bA,dS,fi,iB⟩:=I.dH _ (S.start+(k':Int)) E9.1 E9.2 omQ (by grind) ht;obtain⟨_,rfl⟩:=I.one hc bA hh iB;omega
   have e1:hv E.G w0 (E.M.n-S.start).toNat q.1=hv E.G w0 (c.now+1-S.start).toNat q.1:=RJ omQ later;show q.2=hv E.G w0 (E.M.n-S.start).toNat q.1;rw[e1];obtain⟨m,hm⟩:∃m,(c.now+1-S.start).toNat=m+1:=⟨(c.now-S.start).toNat,by omega⟩;rw[hm]at hg ⊢;show _=(zt q.1 (E.G (m+1))).getD _;rw[hg,qwm CI.un RK];rfl
  ·rw[iQ hp];rcases I.mem p p0 p1 with h |⟨i',c',bA,B6,k',q',oh,lG,e'⟩
   ·grind
   ·by_cases e:i'=i
    ·subst e;rw[hc]at bA;cases bA;have hka:k'≠a:=λh=>by
      grind
     have ap:=(List.getElem?_eq_some_iff.1 lG).1;rcases hs with⟨s5,sa⟩ |⟨_,_,sl⟩
     ·exact .inr ⟨i',d,Ju,s5,k',q',by omega,by grind,e'⟩
     grind
    ·exact .inr ⟨i',c',(gU e).trans bA,B6,k',q',oh,lG,e'⟩
 ·rcases jS he with⟨rfl,h⟩ |⟨_,h⟩
  all_goals grind
 ·obtain⟨i',c',bA,dS,iB⟩:=h;by_cases e:i'=i
  ·subst e;rw[hc]at bA;cases bA;exact⟨i',d,Ju,wd,ei j iB⟩
  ·exact⟨i',c',(gU e).trans bA,dS,iB⟩
theorem xk.oD (I:xk S w0 E) (hc:E.C i=some c) (IH:c.state=6∨c.state=7) {a:Nat} (ha:c.at_=a) {z:Int} (hz:c.s[a]? =some z) {x:dz} (_:x.2=(false,0)) (hx0:kB x) (hxn:x.1≤E.M.n) (eO:(jj E.M.l z).1≤x.1) (BH:bV c→(jj E.M.l z).1<x.1)
  (bY:∀s:Int,x.1<s→s≤E.M.n→¬Touch S (E.G (s-S.start).toNat) z) {k:Int} {o:Option jX}
  (ho:∀d,o=some d→Gn S E.M.n d i∧d.s=c.s∧d.aw=c.aw∧d.cells=c.cells∧d.now=c.now∧d.state=c.state∧d.at_=a+1) (pV:o=none→c.aw.length≤a+1) :
  xk S w0 ⟨{ E.M with l:=E.M.l.set z.toNat x,aN:=k },E.G,cU E.C i o⟩∧yi S E ⟨{ E.M with l:=E.M.l.set z.toNat x,aN:=k },E.G,cU E.C i o⟩:=by
 have CI:=I.dL i c hc;have hI:=CI.lk.s z (List.mem_of_getElem? hz);have hhz:∀y w,c.s[y]? =some z→c.aw[y]? =some w→y=a:=λy w h _=>qJm CI.lk.dw h hz;have DT:a<c.aw.length→holds c z:=λh=>⟨a,hz,h,λ_=>by omega⟩;refine⟨⟨I.st,I.ml.put hI.1 hI.2 hx0 hxn k,λj e he=>?_,λj e he q y w g2 g3 g4=>?_,λj e he dS=>?_,λj e he h4=>?_,λj q e f he hf a1 a2 b1 b2 lG=>?_,I.AM,I.g0,λj s j0 j1 g1 g2 ht=>?_,λp p0 p1=>?_⟩,⟨Int.le_refl _,λk=>.inl rfl,λj e he h4=>?_,λj j0 j1=>?_,λj j0 j1 h=>?_,λ_ _ _ _ _ h=>.inl h⟩⟩
 ·rcases jS he with⟨rfl,h⟩ |⟨_,h⟩
  ·grind
  ·exact I.dL j e h
 ·show jj (E.M.l.set z.toNat x) y=_;rcases jS he with⟨rfl,h⟩ |⟨hj,h⟩
  ·obtain⟨_,e1,e2,_,_,e5,e6⟩:=ho e h;rw[e1]at g2;rw[e2]at g3;have hq:=g4 omQ;have dG:=CI.lk.s y (List.mem_of_getElem? g2);rw[Y0 I hI.1 hI.2 dG.1,iQ λRL=>?_]
   ·exact I.hold _ c hc q y w g2 g3 λ_=>by omega
   grind
  ·have dG:=(I.dL j e h).lk.s y (List.mem_of_getElem? g2);have hy:holds e y:=⟨q,g2,(List.getElem?_eq_some_iff.1 g3).1,g4⟩;by_cases RL:z=y
   ·subst RL;by_cases hl:a<c.aw.length
    ·exact absurd (I.one hc h (DT hl) hy).1 hj
    ·have h7:=CI.lk.a7 omQ;omega
   ·rw[Y0 I hI.1 hI.2 dG.1,iQ RL];exact I.hold j e h q y w g2 g3 g4
 ·rcases jS he with⟨rfl,h⟩ |⟨_,h⟩
  ·obtain⟨_,e1,e2,e3,e4,e5,e6⟩:=ho e h;show E.G (e.now+1-S.start).toNat=_;rw[e4,e3];exact I.sD _ c hc (by grind[bV])
  ·exact I.sD j e h dS
 ·rcases jS he with⟨rfl,h⟩ |⟨_,h⟩
  ·grind
  ·exact I.uN j e h h4
 ·rcases jS he with⟨rfl,h⟩ |⟨hj,h⟩<;>rcases jS hf with⟨rfl,h'⟩ |⟨hk,h'⟩
  ·rfl
  ·obtain⟨_,_,_,_,e4,e5,_⟩:=ho e h;exact I.fE _ _ c f hc h' omQ omQ b1 b2 omQ
  ·obtain⟨_,_,_,_,e4,e5,_⟩:=ho f h';exact I.fE _ _ e c h hc a1 a2 omQ omQ omQ
  ·exact I.fE j q e f h h' a1 a2 b1 b2 lG
 ·have g1:(jj (E.M.l.set z.toNat x) j).1<s:=g1;rw[Y0 I hI.1 hI.2 j0]at g1;by_cases Fa:z=j
  ·grind
  ·rw[iQ Fa]at g1;obtain⟨i',c',bA,dS,fi,iB⟩:=I.dH j s j0 j1 g1 g2 ht;by_cases e:i'=i
   ·subst e;rw[hc]at bA;cases bA;obtain⟨q,h1,h2,h3⟩:=iB;have hqa:q≠a:=λh=>by
     grind
    have:=h3 omQ;cases ma:o with
    |none=>grind
    |some d=>obtain⟨_,e1,e2,_,e4,e5,e6⟩:=ho d ma;exact⟨i',d,by simp[Ju],by grind[bV],by grind,q,by grind,by grind,λ_=>by omega⟩
   ·exact⟨i',c',(gU e).trans bA,dS,fi,iB⟩
 ·rcases I.mem p p0 p1 with h |⟨i',c',bA,B6,hr⟩
  ·grind
  ·have:i'≠i:=λe=>by
    grind
   exact .inr ⟨i',c',(gU this).trans bA,B6,hr⟩
 ·rcases jS he with⟨rfl,h⟩ |⟨_,h⟩
  all_goals grind
 ·show _≤(jj (E.M.l.set z.toNat x) j).1;rw[Y0 I hI.1 hI.2 j0]
  grind
 ·show _∨_<(jj (E.M.l.set z.toNat x) j).1;rw[Y0 I hI.1 hI.2 j0];obtain⟨i',c',bA,dS,iB⟩:=h;by_cases e:i'=i
  ·subst e;rw[hc]at bA;cases bA;by_cases Fa:z=j
   ·grind
   ·obtain⟨q,h1,h2,h3⟩:=iB;have hqa:q≠a:=λh=>by
     grind
    have:=h3 omQ;cases ma:o with
    |none=>grind
    |some d=>obtain⟨_,e1,e2,_,e4,e5,e6⟩:=ho d ma;exact .inl ⟨i',d,by simp[cU],by grind[bV],q,by grind,by grind,λ_=>by omega⟩
  ·exact .inl ⟨i',c',(gU e).trans bA,dS,iB⟩
theorem xk.AN (I:xk S w0 E) (hc:E.C i=some c) (h6:c.state=6) {a:Nat} (ha:c.at_=a) {z:Int} (hz:c.s[a]? =some z) (hl:a<c.aw.length):∀s:Int,c.now+1<s→s≤E.M.n→¬Touch S (E.G (s-S.start).toNat) z:=λs h1 h2 ht=>by
 have CI:=I.dL i c hc;have hI:=CI.lk.s z (List.mem_of_getElem? hz);have hh:holds c z:=⟨a,hz,hl,λ_=>by omega⟩;have hv:(jj E.M.l z).1≤c.now:=by rw[I.hold i c hc a z _ hz (iW hl) λ_=>by omega];show(c.aw[a]).1≤c.now;exact(CI.now omQ omQ).2 _ (List.getElem_mem hl)
 obtain⟨i',c',bA,_,fi,iB⟩:=I.dH z s hI.1 hI.2 omQ h2 ht;obtain⟨_,rfl⟩:=I.one hc bA hh iB;omega
theorem xk.uh (I:xk S w0 E) (hc:E.C i=some c) (h7:c.state=7) {a:Nat} (ha:c.at_=a) {z:Int} (hz:c.s[a]? =some z) (hl:a<c.aw.length):∀s:Int,(c.aw[a]).1<s→s≤E.M.n→¬Touch S (E.G (s-S.start).toNat) z:=λs h1 h2 ht=>by
 have CI:=I.dL i c hc;have hI:=CI.lk.s z (List.mem_of_getElem? hz);have hh:holds c z:=⟨a,hz,hl,λ_=>by omega⟩;have hv:(jj E.M.l z).1=(c.aw[a]).1:=by rw[I.hold i c hc a z _ hz (iW hl) λ_=>by omega]
 obtain⟨i',c',bA,dS,_,iB⟩:=I.dH z s hI.1 hI.2 omQ h2 ht;obtain⟨_,rfl⟩:=I.one hc bA hh iB;grind[bV]
end
end Go.Proofs.YtaljafbgbfmcbaaGreat
