/- Lemmas for 'quietus/quietustop.TopBank': Threads: plain: what a step keeps;A run on a view that knows less: it asks for a word, or does the same. Plain;What a run writes lies within the heap: plain;... No condition. -/
import Derived.Test.YtolpbdncppeohaaGreatDoorTopBankM3
import Derived.Test.YtolpbdncppeohaaGreatDoorTopBankM2
import Derived.Test.YtolpbdncppeohaaGreatDoorTopBankM1
namespace Go.Proofs.YtolpbdncppeohaaGreatDoor
open Go Go.Ae
set_option maxRecDepth 100000
section
def uG:wc→Bool
 | .prog _=>false
 | .au _ _=>true
structure kO (x y:qr):Prop where
  me:y.me=x.me
  set:y.set=x.set
  sw:uG y.ap=uG x.ap
theorem kO.refl (x:qr):kO x x:=⟨rfl,rfl,rfl⟩
theorem kO.trans {x y z:qr} (a:kO x y) (b:kO y z):kO x z:=⟨b.me.trans a.me,b.set.trans a.set,b.sw.trans a.sw⟩
theorem qVO (x:qr):kO x (z8 x).2:=by
 unfold z8;cases hx:x.ap with
 |prog q=>exact⟨rfl,rfl,by rw[hx];rfl⟩
 |au bs k=>exact⟨rfl,rfl,by rw[hx];rfl⟩
theorem qQP (x:qr) (k e:Int):kO x (xd x k e):=by
 unfold xd
 repeat' split
 all_goals exact⟨rfl,rfl,rfl⟩
theorem UX (x:qr):kO x (xp x):=(qVO x).trans (qQP ..)
theorem VX (x:qr):kO x (jh x):=by
 unfold jh
 split
 ·exact⟨rfl,rfl,rfl⟩
 ·split
  ·exact(kO.trans (y:={ x with r:=(vw x.r (xE x.f)).2,v:=(xc x.v x.v.aB (xm x.f)).2 }) ⟨rfl,rfl,rfl⟩ (UX _))
  ·split<;>exact⟨rfl,rfl,rfl⟩
theorem XO (x:qr):kO x (jZ x):=by
 have hs:∀y:qr,kO y (q9 y):=λy=>by
  unfold q9
  repeat' split
  all_goals exact⟨rfl,rfl,rfl⟩
 unfold jZ;refine kO.trans ?_ (hs _)
 split
 ·exact .refl x
 ·split
  ·exact⟨rfl,rfl,rfl⟩
  ·unfold jF
   split
   ·simp[VX]
   ·repeat' split
    all_goals exact⟨rfl,rfl,rfl⟩
theorem Ky (x:qr) (a:cx):kO x (qS x a):=by
 unfold qS
 split
 ·exact .refl x
 ·split
  ·exact⟨rfl,rfl,rfl⟩
  ·split
   ·exact⟨rfl,rfl,rfl⟩
   ·split
    ·exact⟨rfl,rfl,rfl⟩
    ·split
     ·simp[UX]
     ·split
      ·exact⟨rfl,rfl,rfl⟩
      ·split
       ·exact kO.trans (y:={ x with f:=jE x.f a }) ⟨rfl,rfl,rfl⟩ (XO _)
       ·split
        ·exact kO.trans (y:={ x with c:=x.c.map λc=>qp c a }) ⟨rfl,rfl,rfl⟩ (XO _)
        ·exact kO.trans (y:={ x with e:=je x.e a }) ⟨rfl,rfl,rfl⟩ (XO _)
structure ThrB (t:qe):Prop where
  set:xM t.set
  me:0≤t.me∧t.me<t.set.ad
  jobs:∀l∈t.jobs,(zi l).2=0∧Quiet l
  jl:t.jobs.length≤6
  ap:0≤t.ap∧t.ap≤t.jobs.length
  ao:t.ao.length+t.al.length≤9000*t.results.length
  aj:t.aj.length≤6
  ah:0≤t.ah∧t.ah≤t.af.length
  aI:0≤t.aI∧t.aI≤t.ah
  nT:t.au=false→t.al=[]
structure QN (t:qe):Prop extends ThrB t where
  now:∀x,t.now=some x→zH x∧x.me=t.me∧x.set=t.set∧uG x.ap=t.au
  lt:t.ap<t.jobs.length
  some:t.now≠none
structure yK (t:qe):Prop where
  st:1≤t.state∧t.state≤6
  b:ThrB t
  c:t.state≠6→QN t
  fin:t.state=6→t.ap=t.jobs.length∧t.now=none
  cW:(t.results.length:Int)≤t.ap+(if t.state≠6∧(t.au=true∨t.state=5)then 1 else 0)
  R0:t.state=5→(t.aj.length:Int)<t.set.ad∧(t.aj.length:Int)≠t.me
  R5:t.state=3→0<t.bz∧t.bz≤8
  byy:t.state=2→0≤t.dj∧t.dj<t.set.ad
  IV:t.state=5→t.au=false
variable {t:qe}
theorem ThrB.len (B:ThrB t) (h:(t.results.length:Int)≤t.ap+1):t.ao.length+t.al.length≤63000:=by have h1:=B.jl;have h2:=B.ap;have h3:=B.ao;omega
theorem ki (B:ThrB t) (hr:(t.results.length:Int)≤t.ap+(if t.au=true∧t.ap≠t.jobs.length then 1 else 0)):yK (zJ t):=by
 have hlen:=B.len (by grind);have hs:=B.set.start.1;have lO:=kT B.set;unfold zJ
 split
 ·rename_i hj;refine⟨by simp,⟨B.set,B.me,B.jobs,B.jl,B.ap,B.ao,B.aj,B.ah,B.aI,B.nT⟩,λh=>absurd rfl h,λ_=>⟨hj,rfl⟩,?_,λh=>(by grind),λh=>(by grind),λh=>(by grind),λh=>by grind⟩;grind
 ·rename_i hj;have B':ThrB { t with born:=0,dz:=false,state:=1,now:=some (if t.au=true then w8 t.me t.set (t.al.map (·.1))else gL t.me t.set ((t.jobs[t.ap.toNat]?).getD [])) }:=⟨B.set,B.me,B.jobs,B.jl,B.ap,B.ao,B.aj,B.ah,B.aI,B.nT⟩;refine⟨by simp,B',λ_=>⟨B',λx hx=>?_,by have:=B.ap;grind,λh=>by grind⟩,λh=>(by grind),?_,λh=>(by grind),λh=>(by grind),λh=>(by grind),λh=>by grind⟩
  ·cases hx
   split
   ·rename_i eX;exact⟨qZu hs (by grind),rfl,lO,eX.symm⟩
   ·rename_i eX;have aw:t.ap.toNat<t.jobs.length:=by have:=B.ap;omega
    rw[iW aw];have:=B.jobs _ (List.getElem_mem aw);exact⟨qVP hs this.1 this.2,rfl,lO,by simp only[Bool.not_eq_true]at eX;exact eX.symm⟩
  grind
theorem JJ (B:ThrB { t with ap:=t.ap+1,au:=false,al:=[],ah:=0,aI:=0 }) (hr:(t.results.length:Int)≤t.ap+1):yK (xx t):=by simp_all[xx,ki]
theorem Jv (B:ThrB t) (hj:t.ap<t.jobs.length) (hr:(t.results.length:Int)≤t.ap+1):yK (xx t):=by have:=B.ap;have:=B.ah;refine JJ ⟨B.set,B.me,B.jobs,B.jl,by grind,?_,B.aj,by simp,by simp,λ_=>rfl⟩ hr;have:=B.ao;grind
theorem R6 (c:Int):1≤gu c∧gu c≤8:=by
 grind[gu]
theorem QN.go (C:QN t) {u:qe} (h1:u.set=t.set) (h2:u.me=t.me) (h3:u.jobs=t.jobs) (h4:u.ap=t.ap) (h5:u.ao=t.ao) (h6:u.al=t.al) (h7:u.results=t.results) (h8:u.aj.length≤6) (h9:0≤u.ah∧u.ah≤u.af.length) (fk:0≤u.aI∧u.aI≤u.ah) (dy:u.now=t.now) (nP:u.au=t.au):QN u:=by have B:=C.toThrB;refine⟨⟨by rw[h1];exact B.set,by rw[h1,h2];exact B.me,by rw[h3];exact B.jobs,by rw[h3];exact B.jl,by rw[h3,h4];exact B.ap,by rw[h5,h6,h7];exact B.ao,h8,h9,fk,by rw[nP,h6];exact B.nT⟩,by rw[dy,h1,h2,nP];exact C.now,by rw[h3,h4];exact C.lt,by rw[dy];exact C.some⟩
theorem Nw (C:QN t) {draw:Int} (_:0≤draw) (hr:(t.results.length:Int)≤t.ap+(if t.au=true then 1 else 0)):yK (zo t draw):=by
 have hm:=R6 t.aI;have aw:=C.lt;unfold zo
 split
 ·refine ki (C.go (u:={ t with bz:=0,state:=3 }) rfl rfl rfl rfl rfl rfl rfl C.aj C.ah C.aI rfl rfl).toThrB ?_;grind
 ·rename_i hn;have C':QN { t with bz:=draw%(gu t.aI+1),state:=3 }:=C.go rfl rfl rfl rfl rfl rfl rfl C.aj C.ah C.aI rfl rfl;have h1:=Int.emod_nonneg draw (show gu t.aI+1≠0 by omega);have h2:=Int.emod_lt_of_pos draw (show 0<gu t.aI+1 by omega);refine⟨by simp,C'.toThrB,λ_=>C',λh=>(by grind),?_,λh=>(by grind),λ_=>⟨by grind,by grind⟩,λh=>(by grind),λh=>by grind⟩;grind
theorem qXi {α:Type} (p:α→Bool) (l:List α):(l.filter p).length+(l.filter λx=>!p x).length=l.length:=by
 induction l with
 |nil=>rfl
 |cons x r ih=>grind
theorem ZL (C:QN t) (hr:(t.results.length:Int)≤t.ap+1) (h5:t.state=5) (hl:(t.aj.length:Int)≤t.set.ad) (eX:t.au=false):yK (yE t):=by
 have h4:=C.set.ad;have aw:=C.lt;have hg:=C.nT eX;have sG:=C.ao;rw[hg]at sG;unfold yE;have key:∀u:qe,u={ t with aj:=u.aj }→(u.aj.length:Int)≤5→(u.aj.length:Int)≠t.me→yK (yy u):=by
  intro u hu B9 Ca;have C':QN u:=by rw[hu];exact C.go rfl rfl rfl rfl rfl rfl rfl (by grind) C.ah C.aI rfl rfl
  have FN:(u.aj.length:Nat)≤6:=by omega
  unfold yy;have e1:u.set=t.set:=by rw[hu]
  have e2:u.ao=t.ao:=by rw[hu]
  have e3:u.results=t.results:=by rw[hu]
  have e4:u.ap=t.ap:=by rw[hu]
  have e5:u.state=5:=by grind
  have e6:u.me=t.me:=by rw[hu]
  have e7:u.jobs=t.jobs:=by rw[hu]
  have e8:u.al=[]:=by grind
  have hf:=qXi (λr:Va=>jM u.aj r.2) u.ao
  split
  ·rename_i h;refine⟨by omega,C'.toThrB,λ_=>C',λh=>by omega,?_,λ_=>⟨h,by grind⟩,λh=>by omega,λh=>by omega,λ_=>by grind⟩;grind
  ·split
   ·refine Jv (t:={ u with ao:=u.ao.filter λr=>!jM u.aj r.2 }) ⟨C'.set,C'.me,C'.jobs,C'.jl,C'.ap,?_,FN,C'.ah,C'.aI,C'.nT⟩ C'.lt (by grind);grind
   ·refine ki (t:={ u with ao:=u.ao.filter (λr=>!jM u.aj r.2),au:=true,al:=u.ao.filter (λr=>jM u.aj r.2),ah:=0,aI:=0 }) ⟨C'.set,C'.me,C'.jobs,C'.jl,C'.ap,?_,FN,by simp,by simp,λh=>by grind⟩ ?_
    all_goals grind
 grind
theorem qYb (lv:List bH):(vD lv).length≤bO lv:=by simp[vD,bO,List.length_flatMap,List.map_reverse,List.sum_reverse]
theorem K7 {x:qr} (O:zH x) (hp:uG x.ap=false):(zk x).length≤9000:=by
 unfold zk
 split
 ·cases hj:x.ap with
  |prog q=>dsimp only;have h1:=O.fr;grind[qYb]
  |au bs k=>rw[hj]at hp;cases hp
 simp
theorem qGD (C:QN t) {x:qr} (hx:t.now=some x) (_:t.state=1) {draw pick:Int} (hd:0≤draw) (hr:(t.results.length:Int)≤t.ap+(if t.au=true then 1 else 0)):yK (zv t x draw pick):=by
 have ht:=C.ah;have hc:=C.aI;have aw:=C.lt;have hlen:(t.af++[jJ t x pick]).length=t.af.length+1:=by simp
 have hr1:(t.results.length:Int)≤t.ap+1:=by grind
 have hr6:∀s:Int,s≠6→(t.results.length:Int)≤t.ap+(if s≠6∧(t.au=true∨s=5)then 1 else 0):=λs h6=>by
  grind
 unfold zv;dsimp only
 split
 ·split
  ·rename_i hb;have C':QN { t with af:=t.af++[jJ t x pick],ah:=t.ah+1,aI:=t.aI+1,state:=2,dj:=JC x,br:=false } :=
    C.go rfl rfl rfl rfl rfl rfl rfl C.aj (by grind) (by grind) rfl rfl
   exact⟨by simp,C'.toThrB,λ_=>C',λh=>(by grind),hr6 2 od,λh=>(by grind),λh=>(by grind),λ_=>hb,λh=>by grind⟩
  ·exact Nw (t:={ t with af:=t.af++[jJ t x pick],ah:=t.ah+1,aI:=t.aI+1 }) (C.go rfl rfl rfl rfl rfl rfl rfl C.aj (by grind) (by grind) rfl rfl) hd hr
 ·have C':∀s:Int,QN { t with af:=t.af++[jJ t x pick],ah:=t.ah+1,state:=s }:=λs=>
   C.go rfl rfl rfl rfl rfl rfl rfl C.aj (by grind) (by grind) rfl rfl
  have CB:=(C' t.state).toThrB
  split
  ·split
   ·refine ki (t:={ t with af:=t.af++[jJ t x pick],ah:=t.ah+1 }) CB ?_;grind
   ·exact⟨by simp,(C' 4).toThrB,λ_=>C' 4,λh=>(by grind),hr6 4 od,λh=>(by grind),λh=>(by grind),λh=>(by grind),λh=>by grind⟩
  ·split
   ·rename_i eX;unfold kX
    split
    ·refine JJ (t:={ t with af:=t.af++[jJ t x pick],ah:=t.ah+1,ao:=t.ao++t.al }) ⟨C.set,C.me,C.jobs,C.jl,by grind,?_,C.aj,by grind,by simp,λ_=>rfl⟩ hr1;have:=C.ao;grind
    grind[Jv,jJ]
   ·rename_i eX;have eX:t.au=false:=by grind
    have hn:=C.now x hx;have II:=K7 hn.1 (hn.2.2.2.trans eX);rw[eX,iQ aS]at hr;have AE:=C.nT eX;have sG:=C.ao;rw[AE]at sG;unfold wq;have e1:(t.results++[(⟨jK x,yJ x,zc x,x.aa⟩:VV)]).length=t.results.length+1:=by simp
    have e2:(t.ao++(zk x).map λb=>(b,x.aa)).length=t.ao.length+(zk x).length:=by simp
    have B2:ThrB { t with af:=t.af++[jJ t x pick],ah:=t.ah+1,results:=t.results++[⟨jK x,yJ x,zc x,x.aa⟩],ao:=t.ao++(zk x).map λb=>(b,x.aa) } :=
     ⟨C.set,C.me,C.jobs,C.jl,C.ap,by grind,
      C.aj,by grind,by grind,C.nT⟩
    dsimp only
    split
    ·grind[Jv,jK,yJ,zc]
    ·refine ZL (t:={ t with af:=t.af++[jJ t x pick],ah:=t.ah+1,results:=t.results++[⟨jK x,yJ x,zc x,x.aa⟩],ao:=t.ao++(zk x).map λb=>(b,x.aa),state:=5,aj:=[] })
      ⟨⟨B2.set,B2.me,B2.jobs,B2.jl,B2.ap,B2.ao,Nat.zero_le _,B2.ah,B2.aI,B2.nT⟩,C.now,C.lt,C.some⟩ (by grind) rfl (by have:=C.set.ad;grind) eX
theorem GG (O:yK t) {a:cx} (ha:vz a) {draw pick:Int} (hd:0≤draw):yK (ql t a draw pick):=by
 have cK:=O.cW;unfold ql
 split
 ·rename_i h1;have C:=O.c omQ;cases hn:t.now with
  |none=>grind
  |some x=>
   dsimp only;have hx:=C.now x hn;have hS:=Ky x a;have hr:(t.results.length:Int)≤t.ap+(if t.au=true then 1 else 0):=by
    grind
   unfold xz;dsimp only
   have C':∀b:Int,QN { t with now:=some (qS x a),born:=b }:=λb=>⟨⟨C.set,C.me,C.jobs,C.jl,C.ap,C.ao,C.aj,C.ah,C.aI,C.nT⟩,λy hy=>by
    cases hy
    exact⟨Xy hx.1 ha,hS.me.trans hx.2.1,hS.set.trans hx.2.2.1,hS.sw.trans hx.2.2.2⟩,C.lt,λh=>by grind⟩
   split
   ·exact⟨O.st,(C' _).toThrB,λ_=>C' _,λh=>absurd h (by grind),O.cW,λh=>absurd h (by grind),λh=>absurd h (by grind),λh=>absurd h (by grind),λh=>absurd h (by grind)⟩
   ·exact qGD (t:={ t with now:=some (qS x a),born:=if(qS x a).begun=true∧x.begun=false then pick else t.born }) (C' _) rfl h1 hd hr
 ·split
  ·rename_i h2;have C:=O.c omQ
   split
   ·have C':QN { t with br:=true,since:=a.word }:=C.go rfl rfl rfl rfl rfl rfl rfl C.aj C.ah C.aI rfl rfl;exact⟨O.st,C'.toThrB,λ_=>C',λh=>absurd h (by grind),O.cW,λh=>absurd h (by grind),λh=>absurd h (by grind),O.byy,λh=>absurd h (by grind)⟩
   simp_all[Nw]
  ·split
   ·rename_i AT;have C:=O.c omQ;have nO:=O.R0 AT;rw[iJ ⟨by omega,.inr AT⟩]at cK;have h4:=C.set.ad;have e:(t.aj++[if a.err≠0 then 0 else a.word]).length=t.aj.length+1:=by simp
    refine ZL (t:={ t with aj:=t.aj++[if a.err≠0 then 0 else a.word] }) (C.go rfl rfl rfl rfl rfl rfl rfl (by grind) C.ah C.aI rfl rfl) cK AT ?_ (O.IV AT);grind
   grind
theorem U6 (O:yK t):yK (qs t):=by
 have cK:=O.cW;unfold qs
 split
 ·rename_i h3;have C:=O.c omQ;have hp:=O.R5 h3
  split
  ·refine ki (t:={ t with bz:=0 }) (C.go (u:={ t with bz:=0 }) rfl rfl rfl rfl rfl rfl rfl C.aj C.ah C.aI rfl rfl).toThrB ?_;have aw:=C.lt;grind
  ·have C':QN { t with bz:=t.bz-1 }:=C.go rfl rfl rfl rfl rfl rfl rfl C.aj C.ah C.aI rfl rfl;exact⟨O.st,C'.toThrB,λ_=>C',λh=>absurd h (by grind),O.cW,λh=>absurd h (by grind),λ_=>(by grind),λh=>absurd h (by grind),λh=>absurd h (by grind)⟩
 grind
theorem Zz (O:yK t) {s v:Int}:yK (jN t s v):=by
 have cK:=O.cW;unfold jN
 split
 ·grind
 ·split
  ·split
   ·rename_i h4;have C:=O.c omQ;refine ki C.toThrB ?_;have aw:=C.lt;grind
   ·split
    ·rename_i h1;have C:=O.c omQ;have C':QN { t with dz:=true }:=C.go rfl rfl rfl rfl rfl rfl rfl C.aj C.ah C.aI rfl rfl;exact⟨O.st,C'.toThrB,λ_=>C',O.fin,O.cW,O.R0,O.R5,O.byy,O.IV⟩
    grind
  grind
theorem qwe {me:Int} {s:jD} {jobs:List (List qa)} (hs:0≤s.start) (hj:∀l∈jobs,(zi l).2=0∧Quiet l):yK (gr me s jobs):=by have S:=yr hs;have h4:=S.ad;refine JJ ⟨S,by grind,λl hl=>hj l (List.mem_of_mem_take hl),?_,by simp,Nat.le_refl _,Nat.zero_le _,by simp,by simp,λ_=>rfl⟩ (by simp);grind
end
section
structure xR (V W:VM):Prop where
  sz:V.sz=W.sz
  most:V.most=W.most
  lv:V.lv=W.lv
  K:∀p x,jO p V.K=some x→jO p W.K=some x
theorem xR.same {V W:VM} (h:xR V W) (lv:List bH):xR { V with lv:=lv } { W with lv:=lv }:=⟨h.sz,h.most,rfl,h.K⟩
theorem xR.read {V W:VM} (h:xR V W) (p:Int):(qn V p).1.2=11∨((qn V p).1=(qn W p).1∧xR (qn V p).2 (qn W p).2):=by
 unfold qn;rw[← h.sz,← h.lv]
 split
 ·cases hl:YW p V.lv with
  |some x=>grind
  |none=>
   dsimp only;cases hk:jO p V.K with
   |some x=>rw[h.K p x hk];grind
   |none=>simp
 grind
theorem xR.take {V W:VM} (h:xR V W) (cs:List Cl):(zl V cs).1=(zl W cs).1∧xR (zl V cs).2 (zl W cs).2:=by
 unfold zl;rw[← h.sz,← h.lv,← h.most]
 split
 ·refine⟨rfl,?_⟩;exact⟨rfl,rfl,rfl,h.K⟩
 grind
theorem xR.ask {V W:VM} (h:xR V W) (b:Int):(zS V b).1.2.2=11∨((zS V b).1=(zS W b).1∧xR (zS V b).2 (zS W b).2):=by
 unfold zS;rw[← h.sz]
 split
 ·grind
 ·rcases h.read (b-1)with e |⟨e,h2⟩
  all_goals grind
theorem xR.again {V W:VM} (h:xR V W) (c b:Int):(yh V c b).1.2=11∨((yh V c b).1=(yh W c b).1∧xR (yh V c b).2 (yh W c b).2):=by
 unfold yh
 split
 ·grind
 ·rcases h.read b with e |⟨e,h2⟩
  ·grind
  ·rw[← e];have ht:=h2.take [(c,(qn V b).1.1),(b-1,c+8)];grind
theorem xR.grown {V W:VM} (h:xR V W) (c:Int):(ye V c).1.2=11∨((ye V c).1=(ye W c).1∧xR (ye V c).2 (ye W c).2):=by
 unfold ye;rw[← h.sz];rcases h.read 5 with e |⟨e,h2⟩
 ·grind
 ·rw[← e];have ht:=h2.take [(5,(qn V 5).1.1+1+wZ c),((qn V 5).1.1,c+8)];grind
theorem xR.alloc {V W:VM} (h:xR V W) (n:Int):(xI V n).1.2=11∨((xI V n).1=(xI W n).1∧xR (xI V n).2 (xI W n).2):=by
 unfold xI
 split
 ·grind
 ·rcases h.read (yx n)with e |⟨e,h2⟩
  ·grind
  ·rw[← e]
   split
   ·split
    ·exact h2.grown _
    ·exact h2.again _ _
   grind
theorem xR.free {V W:VM} (h:xR V W) (b:Int):(gn V b).1=11∨((gn V b).1=(gn W b).1∧xR (gn V b).2 (gn W b).2):=by
 unfold gn;rcases h.ask b with e |⟨e,h2⟩
 ·grind
 ·rw[← e];have ht:=h2.take [(b-1,(zS V b).1.1)];rw[← ht.1]
  split
  ·split
   ·split
    ·refine .inr ⟨rfl,?_⟩;unfold fR;rw[← ht.2.lv];exact⟨ht.2.sz,ht.2.most,rfl,ht.2.K⟩
    grind
   grind
  grind
theorem xR.iD {V W:VM} (h:xR V W) (b:Int):(xj V b).1=11∨((xj V b).1=(xj W b).1∧xR (xj V b).2 (xj W b).2):=by
 unfold xj;rcases h.ask b with e |⟨e,h2⟩
 ·grind
 ·rw[← e]
  split
  ·split
   ·grind
   ·rcases h2.read (zS V b).1.1 with e2 |⟨e2,h3⟩
    ·grind
    ·rw[← e2]
     split
     ·exact .inr (h3.take _)
     grind
  grind
theorem xR.nE {V W:VM} (h:xR V W):(vp V).1=(vp W).1∧xR (vp V).2 (vp W).2:=by unfold vp;rw[← h.lv];exact⟨rfl,h.same _⟩
theorem xR.drop {V W:VM} (h:xR V W):(yg V).1=(yg W).1∧xR (yg V).2 (yg W).2:=by unfold yg;rw[← h.lv];exact⟨rfl,h.same _⟩
theorem xR.keep {V W:VM} (h:xR V W):(gU V).1=(gU W).1∧xR (gU V).2 (gU W).2:=by unfold gU;rw[← h.lv];exact⟨rfl,h.same _⟩
structure VQ (a b:SM):Prop where
  e:a.e=b.e
  nx:a.nx=b.nx
  bp:a.bp=b.bp
  s:a.s=b.s
  v:xR a.v b.v
theorem xR.aP {V W:VM} (h:xR V W) (op a nx:Int) (s:IM):VQ (xS op a nx s V) (xS op a nx s W):=by
 unfold xS;rw[← h.nE.1]
 split
 ·exact⟨rfl,rfl,rfl,rfl,h.nE.2⟩
 ·exact⟨rfl,rfl,rfl,rfl,h.nE.2⟩
theorem xR.sH {mt:List Int} {s:IM}:∀(o:List fZ) {V W:VM},xR V W→VQ (gJ mt o s V) (gJ mt o s W):=by
 intro o
 induction o with
 |nil=>intro V W h;exact⟨rfl,rfl,rfl,rfl,h⟩
 |cons p o ih=>
  intro V W h;unfold gJ;rw[← h.drop.1]
  split
  ·split
   ·exact h.drop.2.aP ..
   ·exact ih h.drop.2
  ·exact⟨rfl,rfl,rfl,rfl,h.drop.2⟩
theorem xR.Cb {V W:VM} (h:xR V W) (mt:List Int) (s:IM) (op:Int):VQ (Q5 mt s V op) (Q5 mt s W op):=by
 unfold Q5
 split
 ·exact h.aP ..
 ·split
  ·exact⟨h.keep.1,rfl,rfl,rfl,h.keep.2⟩
  ·split
   ·exact⟨h.keep.1,rfl,rfl,rfl,h.keep.2⟩
   ·split
    ·exact⟨h.drop.1,rfl,rfl,rfl,h.drop.2⟩
    grind[xR.sH]
theorem xR.sI {V W:VM} (h:xR V W) (s:IM) (x:qa):(zy s V x).1=11∨((zy s V x).1=(zy s W x).1∧(zy s V x).2.1=(zy s W x).2.1∧xR (zy s V x).2.2 (zy s W x).2.2):=by
 unfold zy
 split
 ·split
  ·rcases h.read (yt (qC s.aC x.2.2.1) x.2.2.2.1).1 with e |⟨e,h2⟩
   all_goals grind
  grind
 ·split
  ·split
   ·have ht:=h.take [((yt (qC s.aC x.2.1) x.2.2.2.1).1,qC s.aC x.2.2.1)];grind
   grind
  ·split
   ·split
    ·grind
    ·rcases h.alloc (qC s.aC x.2.2.1)with e |⟨e,h2⟩
     all_goals grind
   ·split
    ·grind
    ·rcases h.free (qC s.aC x.2.1)with e |⟨e,h2⟩
     all_goals grind
theorem vv {c:Prop} [Decidable c] {a b a' b':SM} (ha:a.e=11∨VQ a a') (hb:b.e=11∨VQ b b'):(if c then a else b).e=11∨VQ (if c then a else b) (if c then a' else b'):=by
 grind
theorem xR.R7 {V W:VM} (h:xR V W) (mt:List Int) (s:IM) (x:qa):(bK mt s V x).e=11∨VQ (bK mt s V x) (bK mt s W x):=by
 have sm:∀(e nx:Int) (b:Bool) (s':IM),(⟨e,nx,b,s',V⟩:SM).e=11∨VQ ⟨e,nx,b,s',V⟩ ⟨e,nx,b,s',W⟩:=λe nx b s'=>.inr ⟨rfl,rfl,rfl,rfl,h⟩;unfold bK;refine vv (sm ..) (vv (sm ..) (vv (sm ..) (vv (sm ..) (vv (sm ..) (vv (sm ..) (vv (sm ..) (vv (sm ..) (vv (sm ..) (vv (vv (sm ..) (sm ..)) (vv (sm ..) (vv ?_ (.inr (h.Cb ..)))))))))))));rcases h.sI s x with e |⟨e1,e2,h2⟩
 ·grind
 ·exact .inr ⟨e1,rfl,rfl,e2,h2⟩
theorem qgL {l:List qa} (F:Fit l) (Q:Quiet l):∀(n:Nat) {s:IM} {V W:VM},GI l s V→GI l s W→bO V.lv+n<9000→xR V W→
  ((jr l (qT l) n s V).kind=1∧∃W',xR (jr l (qT l) n s V).v W'∧W'.K=W.K∧W'.sz=W.sz∧GI l (jr l (qT l) n s V).s W'∧jr l (qT l) n s W=jr l (qT l) (jr l (qT l) n s V).left (jr l (qT l) n s V).s W')∨
  ((jr l (qT l) n s V).kind≠1∧(jr l (qT l) n s W).kind=(jr l (qT l) n s V).kind∧(jr l (qT l) n s W).err=(jr l (qT l) n s V).err∧(jr l (qT l) n s W).left=(jr l (qT l) n s V).left∧
   (jr l (qT l) n s W).s=(jr l (qT l) n s V).s∧xR (jr l (qT l) n s V).v (jr l (qT l) n s W).v):=by
 intro n
 induction n with
 |zero=>
  intro s V W G GW hf h;right;rw[Js,Js]
  grind
 |succ n ih=>
  intro s V W G GW hf h;by_cases h0:s.pc=l.length
  ·right;rw[Jg h0,Jg h0];grind
  ·obtain⟨i,hi,oT⟩:=G.pc;have aw:i<l.length:=by omega
   have hfW:bO W.lv=bO V.lv:=by rw[h.lv]
   have S:=UK F G hi aw omQ (Q.at aw).2 (Q.at aw).1;have SW:=UK F GW hi aw omQ (Q.at aw).2 (Q.at aw).1;have D:=h.R7 (qT l) s (qf l i);have eV:=JI (l:=l) (mt:=qT l) (n:=n) (s:=s) (V:=V);have eW:=JI (l:=l) (mt:=qT l) (n:=n) (s:=s) (V:=W);rw[iQ h0,hi]at eV eW;generalize bK (qT l) s V (qf l i)=A at*;generalize bK (qT l) s W (qf l i)=B at*;rcases D with R8 |D
   ·left;obtain⟨n1,n2,_⟩:=S.aB R8;rw[eV,iQ (by grind),iJ R8];refine⟨rfl,W,⟨by rw[← h.sz];exact S.sz,by rw[← h.most];exact S.most,by rw[← h.lv];grind,λp x hx=>h.K p x (by rw[← S.K];grind)⟩,rfl,rfl,?_,?_⟩
    all_goals grind
   ·rw[eV,eW,← D.e,← D.nx,← D.bp,← D.s];by_cases h1:A.e=0
    ·rw[iJ h1,iJ h1];by_cases h2:A.bp=true
     ·right;rw[iJ h2,iJ h2];exact⟨(λh=>by grind),rfl,rfl,rfl,rfl,D.v⟩
     ·rw[iQ h2,iQ h2];have hb:A.bp=false:=by grind
      have nW:=SW.next (by rw[← D.e];grind) (by rw[← D.bp];grind);rw[← D.nx,← D.s]at nW;have Dj:=S.fr;rcases ih (S.next h1 hb) nW omQ D.v with⟨k,W',p,hK,hz,g,e⟩ |r
      ·exact .inl ⟨k,W',p,hK.trans SW.K,hz.trans SW.sz,g,e⟩
      grind
    ·rw[iQ h1,iQ h1];by_cases h2:A.e=11
     ·left;obtain⟨n1,n2,_⟩:=S.aB h2;obtain⟨m1,m2,_⟩:=SW.aB (by rw[← D.e];grind);rw[iJ h2,iJ h2];refine⟨rfl,W,⟨by rw[← h.sz];exact S.sz,by rw[← h.most];exact S.most,by rw[← h.lv];grind,λp x hx=>h.K p x (by rw[← S.K];grind)⟩,rfl,rfl,?_,?_⟩
      ·grind
      ·show _=jr l (qT l) (n+1) A.s W;rw[n1,eW,← D.e,← D.nx,← D.bp,← D.s,iQ h1,iJ h2,n1]
     ·right;rw[iQ h2,iQ h2];exact⟨(λh=>by grind),rfl,rfl,rfl,rfl,D.v⟩
end
section
theorem qJH {p v:Int} {l:List Cl} {c:Cl} (h:c∈yo p v l):c=(p,v)∨c∈l:=by
 induction l with
 |nil=>exact .inl (List.mem_singleton.1 h)
 |cons d l ih=>
  unfold yo at h
  grind
theorem qJN {cs:List Cl}:∀{l:List Cl} {c:Cl},c∈vA l cs→c∈cs∨c∈l:=by
 induction cs with
 |nil=>intro l c h;exact .inr h
 |cons d r ih=>
  intro l c h;rcases ih (l:=yo d.1 d.2 l) h with h |h
  ·grind
  ·rcases qJH h with h |h
   all_goals grind
theorem qjM:∀{lv:List bH} {out:List Cl} {c:Cl},c∈lv.foldl (λout x=>vA x.1 out) out→c∈out∨∃x∈lv,c∈x.1:=by
 intro lv
 induction lv with
 |nil=>simp
 |cons x r ih=>
  intro out c h;rcases ih h with h |⟨y,hy,h⟩
  ·rcases qJN h with h |h
   all_goals grind
  grind
theorem NA {lv:List bH} {c:Cl} (h:c∈jz lv):∃x∈lv,c∈x.1:=by
 rcases qjM h with h |h
 all_goals grind
theorem qqN {lv:List bH} (h:∀x∈lv,∀c∈x.1,0≤c.2∧c.2<18446744073709551616):∀c∈jz lv,0≤c.2∧c.2<18446744073709551616:=λc hc=>by
 obtain⟨x,hx,h1⟩:=NA hc;grind
def Dp (n:Nat) (lv:List bH):Prop:=∀x∈lv,∀c∈x.1,1≤c.1∧c.1<n
theorem qwD {n most:Nat} {lv:List bH} {p v:Int} (h:Dp n lv) (hp:1≤p∧p<n):Dp n (gd most lv p v).2:=by
 unfold gd;cases lv with
 |nil=>grind
 |cons x r=>
  dsimp only
  split
  ·grind
  ·split
   ·grind
   ·intro y hy c hc;rcases List.mem_cons.1 hy with rfl |hy
    ·rcases qJH hc with rfl |hc
     ·grind
     ·exact h x (iK ..) c hc
    ·exact h y (iX _ hy) c hc
theorem qqm {n most:Nat} {ax:List bH} (hw:Dp n ax):∀{cs:List Cl} {lv:List bH},Dp n lv→(∀c∈cs,1≤c.1∧c.1<n)→Dp n (gB most ax lv cs).2:=by
 intro cs
 induction cs with
 |nil=>intro lv h _;exact h
 |cons c cs ih=>
  intro lv h hc;rw[wC]
  split
  all_goals simp_all[qwD]
def cy (V:VM):Prop:=Dp V.sz V.lv
theorem cy.read {V:VM} (h:cy V) (p:Int):cy (qn V p).2:=by
 unfold qn
 repeat' split
 all_goals exact h
theorem cy.take {V:VM} (h:cy V) (cs:List Cl):cy (zl V cs).2:=by
 unfold zl
 split
 ·rename_i hc;exact qqm h h hc
 grind
theorem cy.ask {V:VM} (h:cy V) (b:Int):cy (zS V b).2:=by
 unfold zS
 repeat' split
 all_goals first |exact h |exact h.read _
theorem cy.again {V:VM} (h:cy V) (c b:Int):cy (yh V c b).2:=by
 unfold yh
 repeat' split
 all_goals first |exact h |exact h.read _ |exact(h.read _).take _
theorem cy.grown {V:VM} (h:cy V) (c:Int):cy (ye V c).2:=by
 unfold ye
 repeat' split
 all_goals first |exact h |exact h.read _ |exact(h.read _).take _
theorem cy.alloc {V:VM} (h:cy V) (n:Int):cy (xI V n).2:=by
 unfold xI
 repeat' split
 all_goals first |exact h |exact h.read _ |exact(h.read _).grown _ |exact(h.read _).again _ _
theorem cy.FO {V:VM} (h:cy V) (b:Int):cy (fR V b):=by
 intro x hx c hc;have hx:x∈YA V.lv b:=hx;unfold YA at hx;cases hl:V.lv with
 |nil=>grind
 |cons y r=>
  rw[hl]at hx;rcases List.mem_cons.1 hx with rfl |hx
  ·exact h y (by grind) c hc
  ·exact h x (by grind) c hc
theorem cy.free {V:VM} (h:cy V) (b:Int):cy (gn V b).2:=by
 unfold gn
 repeat' split
 all_goals first |exact(((h.ask _).take _).FO _) |exact(h.ask _).take _ |exact h.ask _
theorem cy.iD {V:VM} (h:cy V) (b:Int):cy (xj V b).2:=by
 unfold xj
 repeat' split
 all_goals first |exact((h.ask _).read _).take _ |exact(h.ask _).read _ |exact h.ask _
theorem cy.nE {V:VM} (h:cy V):cy (vp V).2:=by
 unfold vp Jk
 split
 ·omega
 ·intro x hx c hc;rcases List.mem_cons.1 hx with rfl |hx
  ·grind
  ·exact h x hx c hc
theorem cy.drop {V:VM} (h:cy V):cy (yg V).2:=by
 unfold yg Jz
 split
 ·omega
 ·intro x hx c hc;exact h x (List.mem_of_mem_tail hx) c hc
theorem cy.keep {V:VM} (h:cy V):cy (gU V).2:=by
 intro x hx c hc;have hx:x∈(XW V.lv).2:=hx;unfold XW at hx
 split at hx
 ·rename_i a b r hl;rcases List.mem_cons.1 hx with rfl |hx
  ·rcases qJN hc with hc |hc
   ·exact h a (by grind) c hc
   ·exact h b (by grind) c hc
  ·exact h x (by grind) c hc
 ·exact h x hx c hc
theorem cy.aP {V:VM} (h:cy V) {op a nx:Int} {s:IM}:cy (xS op a nx s V).v:=by
 unfold xS
 split<;>exact h.nE
theorem cy.sH {mt:List Int} {s:IM}:∀(o:List fZ) {V:VM},cy V→cy (gJ mt o s V).v:=by
 intro o
 induction o with
 |nil=>intro V h;exact h
 |cons p o ih=>
  intro V h;unfold gJ
  split
  ·split
   ·exact(cy.aP h.drop)
   ·exact ih h.drop
  ·exact h.drop
theorem cy.Cb {V:VM} (h:cy V) (mt:List Int) (s:IM) (op:Int):cy (Q5 mt s V op).v:=by
 unfold Q5
 split
 ·exact cy.aP h
 ·split
  ·exact h.keep
  ·split
   ·exact h.keep
   ·split
    ·exact h.drop
    grind[cy.sH]
theorem cy.sI {V:VM} (h:cy V) (s:IM) (x:qa):cy (zy s V x).2.2:=by
 unfold zy
 split
 ·split
  ·split<;>exact h.read _
  grind
 ·split
  ·split
   ·exact h.take _
   grind
  ·split
   ·split
    ·grind
    ·split<;>exact h.alloc _
   ·split
    ·grind
    ·exact h.free _
theorem jZ8 {c:Prop} [Decidable c] {a b:SM} (ha:cy a.v) (hb:cy b.v):cy (if c then a else b).v:=by
 grind
theorem cy.R7 {V:VM} (h:cy V) (mt:List Int) (s:IM) (x:qa):cy (bK mt s V x).v:=by
 have ht:=h.sI s x;have hu:=h.Cb mt s x.1;unfold bK;generalize zy s V x=T at*;generalize Q5 mt s V x.1=U at*
 repeat' (first |exact h |exact ht |exact hu |apply jZ8)
theorem cy.run {l:List qa} {mt:List Int}:∀(n:Nat) {s:IM} {V:VM},cy V→cy (jr l mt n s V).v:=by
 intro n
 induction n with
 |zero=>grind[Js]
 |succ n ih=>
  intro s V h;have hd:=h.R7 mt s (qf l s.pc);rw[JI];grind
theorem cy.gives:∀(bs:List Int) (k:Nat) {V:VM},cy V→cy (zK V bs k).2:=by
 intro bs
 induction bs with
 |nil=>intro k V h;exact h
 |cons b r ih=>
  intro k V h;unfold zK
  split
  ·exact ih _ (h.iD b)
  ·exact h.iD b
end
section
abbrev mN (z:Int):Prop:=0≤z∧z<18446744073709551616
structure Cc (M:zZ):Prop where
  w:∀z∈M.w,mN z
  n:mN M.n
  s:∀z∈M.s,mN z
theorem qG1 {l:List Int} (h:∀z∈l,mN z) (i:Int):mN (qC l i):=by
 unfold qC;cases hi:l[i.toNat]? with
 |none=>grind
 |some z=>exact h z (List.mem_of_getElem? hi)
theorem R9 {l:List Int} (h:∀z∈l,mN z) {i:Nat} {w:Int} (hw:mN w):∀z∈l.set i w,mN z:=λz hz=>by
 grind
theorem Ql {M:zZ} {o:dC} (R:Cc M) (ho:mN o.word):vz (qL M o).1∧Cc (qL M o).2:=by
 have z0:mN (0:Int):=⟨Int.le_refl _,by simp⟩;have key:vz (yl M o).1∧Cc (yl M o).2:=by
  unfold yl
  split
  ·unfold Ku
   split
   ·trivial
   ·split
    ·exact⟨qG1 R.w _,R⟩
    ·exact⟨z0,⟨R9 R.w ho,R.n,R.s⟩⟩
  ·split
   ·unfold GE
    repeat' split
    all_goals exact⟨z0,⟨R.w,R.n,R.s⟩⟩
   ·split
    ·unfold J9
     split
     ·exact⟨R.n,R⟩
     ·repeat' split
      all_goals first |exact⟨z0,R⟩ |exact⟨z0,⟨R.w,ho,R.s⟩⟩
    ·split
     ·unfold uE
      split
      ·trivial
      ·split
       ·exact⟨qG1 R.s _,R⟩
       ·exact⟨z0,⟨R.w,R.n,R9 R.s ho⟩⟩
     trivial
 rw[vM]
 split
 ·exact⟨key.1,⟨key.2.w,key.2.n,key.2.s⟩⟩
 grind
theorem O4 {M:zZ} {o:dC}:(qL M o).2.bh≤M.bh+1∧M.bh≤(qL M o).2.bh:=by
 grind[qXb,vM,yl]
theorem Gv {c:jw} {f e y:Int}:(zP c f e y).cells=c.cells:=by grind[zP,xw]
theorem N0 {c:jw} {l:di}:(xn c l).cells=c.cells:=by 
 grind[xn,Gv]
theorem Zv {c:jw}:(xX c).cells=c.cells:=by grind[xX]
theorem NL {c:jw}:(zG c).cells=c.cells:=by 
 grind[zG,Zv]
theorem KV {c:jw}:(zp c).cells=c.cells:=NL
theorem VJ:∀(n:Nat) (c:jw),(zM c n).cells=c.cells:=by
 intro n
 induction n with
 |zero=>intro c;exact KV
 |succ n ih=>
  grind[zM,Gv,KV]
theorem qqD {c:jw} {a:cx}:(qp c a).cells=c.cells:=by
 unfold qp
 split
 ·rfl
 ·split
  ·unfold vV
   split
   ·exact N0
   ·split
    ·rfl
    ·split
     all_goals rfl
  ·split
   ·unfold yB
    split
    ·exact Gv
    ·split
     ·rfl
     ·split
      ·rfl
      ·split
       ·exact KV
       ·exact VJ _ _
   ·split
    ·unfold yQ
     split
     ·exact N0
     ·split
      ·exact Gv
      ·exact VJ _ _
    grind[NL,Zv,xw]
def Gf (x:qr):Prop:=∀c,x.c=some c→∀q∈c.cells,mN q.2
theorem qj0 {x:qr} {k e:Int} (G:ji x.v) (W:Gf x):Gf (xd x k e):=by
 unfold xd
 split
 ·exact W
 ·split
  ·exact W
  ·split
   ·exact W
   ·split
    ·exact W
    ·intro c hc;cases hc;exact qqN G.wd.l
theorem OS {x:qr} (B:QR x) (hj:aX True x.v x.ap) (W:Gf x):Gf (xp x):=by have D:=Gj B.aH B.fr hj;refine qj0 D.aH ?_;intro c hc;rw[D.same.2.2.2.2]at hc;exact W c hc
theorem qjp {x:qr} {a:cx} (O:zH x) (W:Gf x) (ha:vz a):Gf (qS x a):=by
 have bZ:=O.st;have stamped:∀{y:qr},Gf y→Gf (q9 y):=λ{y} h=>by
  unfold q9
  split
  ·split<;>exact h
  grind
 have told:∀{y:qr},zH y→3≤y.state→y.state≤6→Gf y→Gf (jZ y):=λ{y} O h3 h6 W=>by
  refine stamped ?_;show Gf (if(zA y).1=0 then y else if(zA y).1=5 then zh y 5 0 (zA y).2 else jF y)
  split
  ·grind
  ·split
   ·exact W
   ·unfold jF
    split
    ·rename_i hs;have hw:=Xj (O.f hs).2;unfold jh
     split
     ·exact W
     ·split
      ·have hj:=(O.ap.same λ_=>by omega:aX True y.v y.ap).hX (p:=y.v.aB) hw;refine OS ⟨O.set,Qo O.aH hw,by show((xc y.v y.v.aB (xm y.f)).2.sz:Int)=y.set.words;rw[wV.2];exact O.sz,by show bO (xc y.v y.v.aB (xm y.f)).2.lv<9000;rw[wV.1];exact O.fr,XY O.r,hj.same λh=>h.elim,O.c⟩ hj W
      ·split<;>exact W
    ·split
     ·exact W
     ·split
      ·exact W
      ·split<;>exact W
 unfold qS
 split
 ·grind
 ·split
  ·exact W
  ·split
   ·exact W
   ·split
    ·exact W
    ·split
     ·exact OS O.b (O.ap.same λ_=>by omega) W
     ·split
      ·exact W
      ·split
       ·rename_i hs;have hf:=O.f hs;refine told (y:={ x with f:=jE x.f a }) ?_ (by grind) (by grind) W;exact⟨O.set,O.aH,O.sz,O.fr,O.r,O.ap,O.st,λ_=>⟨G5 hf.1,Q3 hf.2 ha⟩,O.aB,O.e,O.c,O.c0,O.c6⟩
       ·split
        ·rename_i hs;refine told (y:={ x with c:=x.c.map λc=>qp c a }) ?_ (by grind) (by grind) ?_
         ·refine⟨O.set,O.aH,O.sz,O.fr,O.r,O.ap,O.st,O.f,O.aB,O.e,λc h=>?_,λh=>absurd h (by grind),λh hn=>O.c6 h ?_⟩
          ·obtain⟨c',h1,rfl⟩:=Option.map_eq_some_iff.1 h;exact yL (O.c c' h1) ha
          simp_all
         ·intro c h;obtain⟨c',h1,rfl⟩:=Option.map_eq_some_iff.1 h;rw[qqD];exact W c' h1
        ·refine told (y:={ x with e:=je x.e a }) ?_ (by grind) (by grind) W;exact⟨O.set,O.aH,O.sz,O.fr,O.r,O.ap,O.st,O.f,O.aB,λh1 h2=>KK (O.e h1 h2),O.c,O.c0,O.c6⟩
theorem qzB {x:qr} {o:dC} (O:zH x) (W:Gf x) (h:zT x=some o):mN o.word:=by
 have z0:mN (0:Int):=⟨Int.le_refl _,by simp⟩;unfold zT at h
 split at h
 ·cases h;exact⟨by show(0:Int)≤1;simp,by show(1:Int)<_;simp⟩
 ·split at h
  ·cases h;exact z0
  ·split at h
   ·cases h;exact IN _
   ·split at h
    ·cases h;exact z0
    ·split at h
     ·grind
     ·split at h
      ·unfold Y7 at h
       split at h
       ·grind
       ·split at h<;>(cases h;exact z0)
      ·split at h
       ·rename_i h6;cases hc:x.c with
        |none=>grind
        |some c=>
         rw[hc]at h;have hn:=(O.c c hc).now;have h:yD c=some o:=h;unfold yD at h
         split at h
         ·grind
         ·split at h
          ·cases h;exact z0
          ·split at h
           ·grind
           ·split at h
            ·cases h;exact z0
            ·split at h
             ·grind
             ·split at h
              ·cases h;exact z0
              ·split at h
               ·cases h;show mN (yf c.cells c.at_).2;unfold yf;cases hi:c.cells[c.at_.toNat]? with
                |none=>grind
                |some q=>exact W c hc q (List.mem_of_getElem? hi)
               grind
       ·unfold GK at h
        split at h
        ·grind
        ·split at h<;>(cases h;exact z0)
theorem qwp {me:Int} {S:jD} {j:wc}:Gf (K4 me S j):=λc h=>by cases h
end
section
inductive sJ:Nat→qr→zZ→qr→zZ→Prop
  |nil {x:qr} {M:zZ}:sJ 0 x M x M
  |cons {k:Nat} {x y:qr} {M N:zZ} {o:dC} (hn:zT x=some o) (r:sJ k (qS x (qL M o).1) (qL M o).2 y N):sJ (k+1) x M y N
theorem sJ.trans {a b:Nat} {x y z:qr} {M N O:zZ} (s:sJ a x M y N) (t:sJ b y N z O):sJ (a+b) x M z O:=by
 induction s with
 |nil=>grind
 |cons hn _ ih=>rw[Nat.add_right_comm];exact .cons hn (ih t)
theorem sJ.one {x y:qr} {M N:zZ} {o:dC} (hn:zT x=some o) (e:qL M o=(⟨0,bT,false,0⟩,N)) (h:qS x ⟨0,bT,false,0⟩=y):sJ 1 x M y N:=by refine .cons hn ?_;rw[e];dsimp only;rw[h];exact .nil
theorem sJ.step {x y:qr} {M N:zZ} {o:dC} {a:cx} (hn:zT x=some o) (e:qL M o=(a,N)) (h:qS x a=y):sJ 1 x M y N:=by refine .cons hn ?_;rw[e];dsimp only;rw[h];exact .nil
def bump (M:zZ) (k:Int):zZ:={ M with bh:=M.bh+k }
structure GL (S:jD) (M:zZ) (me:Int):Prop where
  w:(M.w.length:Int)=S.words
  l:(M.l.length:Int)=S.ae
  s:(M.s.length:Int)=S.ad
  me:0≤me∧me<S.ad
  lk:∀i:Nat,i<M.l.length→∃v:Int,q8 M.l i=(v,false,0)∧0≤v∧v≤M.n
  n:0≤M.n∧M.n<4611686018427387902
  wd:∀z∈M.w,0≤z∧z<18446744073709551616
section
variable {S:jD} {M:zZ} {me:Int}
theorem GL.bump (C:GL S M me) (k:Int):GL S (bump M k) me:=⟨C.w,C.l,C.s,C.me,C.lk,C.n,C.wd⟩
theorem GL.at (C:GL S M me) {s:Int} (h:0≤s∧s<S.ae):∃v:Int,q8 M.l s=(v,false,0)∧0≤v∧v≤M.n:=by have hl:=C.l;obtain⟨k,rfl⟩:∃k:Nat,s=k:=⟨s.toNat,by omega⟩;exact C.lk k omQ
theorem qxO {S:jD} (O:xM S) {p:Int} (hp:0≤p):0≤ofM p S.ae S.wide∧ofM p S.ae S.wide<S.ae:=by have h:=O.ae;unfold ofM;rw[iQ omQ,show max 1 (min S.ae 16)=S.ae by omega];exact⟨Int.emod_nonneg _ omQ,Int.emod_lt_of_pos _ omQ⟩
structure Mz (S:jD) (M:zZ) (r:List zm):Prop where
  at_:∀y∈r,0≤y.1∧y.1<S.ae∧y.2=(q8 M.l y.1).1
  un:(r.map (·.1)).Nodup
theorem Mz.len {r:List zm} (O:xM S) (R:Mz S M r):r.length≤16:=by
 have:=KC 16 (r.map (·.1)) R.un (λx hx=>by
  obtain⟨y,hy,rfl⟩:=List.mem_map.1 hx;have h1:=R.at_ y hy;have h2:=O.ae
  omega)
 grind
theorem Mz.add {r:List zm} (O:xM S) (C:GL S M me) (R:Mz S M r) {s:Int} (hs:0≤s∧s<S.ae):(vw r (s,(q8 M.l s).1)).1=0∧Mz S M (vw r (s,(q8 M.l s).1)).2:=by
 obtain⟨v,e,h0,h1⟩:=C.at hs;have bZ:=O.ae;have hn:=C.n;unfold vw;rw[iQ (by grind)];cases hf:r.find? λy=>decide (y.1=(s,(q8 M.l s).1).1)with
 |some y=>
  dsimp only;have hy:=List.find?_some hf;have hm:=List.mem_of_find?_eq_some hf;have h2:=R.at_ y hm;grind
 |none=>
  dsimp only;have bW:∀y∈r,y.1≠s:=λy hy h=>by
   grind
  have hnd:(s::r.map (·.1)).Nodup:=List.nodup_cons.2 ⟨λh=>by grind,R.un⟩
  have hl:=KC 16 _ hnd (λx hx=>by
   rcases List.mem_cons.1 hx with rfl |hx
   ·omega
   ·obtain⟨y,hy,rfl⟩:=List.mem_map.1 hx;have h1:=R.at_ y hy
    omega)
  simp at hl;rw[iQ omQ];refine⟨rfl,λy hy=>?_,?_⟩
  ·rcases List.mem_append.1 hy with hy |hy
   ·exact R.at_ y hy
   grind
  grind
theorem jm {x:qr} (h:x.c=none):qM x=false:=by simp_all[qM,Bool.and_false]
theorem Km {x:qr} (h:x.c=none):qM (xp x)=false:=by
 have hc:(z8 x).2.c=none:=by
  grind[z8]
 unfold xp xd;generalize(z8 x).2=y at*
 split
 ·exact jm hc
 ·split
  ·exact jm hc
  ·split
   ·exact jm hc
   ·split
    ·exact jm hc
    rfl
end
end
section
theorem KE {l t:List qa} {j:Nat} (h:j<l.length):qf (l++t) (j:Int)=qf l (j:Int):=by grind[qf,Int.toNat_natCast,List.getElem?_append_left]
theorem Yo {l t:List qa} {k:Nat} {x:qa} (h:t[k]? =some x):qf (l++t) ((l.length+k:Nat):Int)=x:=by unfold qf;grind
theorem Qr {l t:List qa}:∀i,i≤l.length→qO (l++t) i=qO l i:=by
 intro i
 induction i with
 |zero=>intro _;rfl
 |succ i ih=>intro h;rw[zY,zY,ih omQ,KE omQ]
theorem qyt {l t:List qa} {st:List Int} (h:cB l.length st):dG (l++t) st=dG l st:=by
 unfold dG;by_cases h0:st=[]
 ·grind
 ·rw[iQ h0,iQ h0];have hb:=h.eu h0;obtain⟨p,hp⟩:∃p:Nat,jc st=p:=⟨(jc st).toNat,by omega⟩;rw[hp,KE omQ]
theorem Ns {l t:List qa} {st:List Int} {x:qa} (h:cB l.length st):xv (l++t) st x=xv l st x:=by grind[xv,qyt]
theorem cB.mono {i j:Nat} {st:List Int} (h:cB i st) (p8:i≤j):cB j st:=λy hy=>by have:=h y hy;omega
def qgI (l:List qa) (calm:Bool) (j:Nat) (x:qa):Prop:=(x.1=12∨x.1=13)→∃c:Nat,x.2.2.2.1=c∧c≤l.length∧qO l c=qO l j∧(calm=true→j<c)
structure U2 (calm:Bool) (x:qa):Prop where
  may:Xg x=true
  no:x.1≠23
  n:0≤x.2.2.2.2∧x.2.2.2.2<18446744073709551616
  cal:calm=true→x.1≠20∧x.1≠22∧x.1≠12
structure lL (calm:Bool) (l:List qa) (st:List Int):Prop where
  ok:∀x∈l,U2 calm x
  wr:∀j,j<l.length→xv l (qO l j) (qf l j)=0
  top:qO l l.length=st
  jp:∀j,j<l.length→qgI l calm j (qf l j)
  Cd:st.length≤5
def QD (l:List qa) (st:List Int):List Int:=st.map λp=>(qf l p).1
theorem ZH {l t:List qa} {st:List Int} (h:cB l.length st):QD (l++t) st=QD l st:=by unfold QD;refine List.map_congr_left λp hp=>?_;have:=h p hp;obtain⟨q,rfl⟩:∃q:Nat,p=q:=⟨p.toNat,by omega⟩;rw[KE omQ]
theorem lL.Ce {calm:Bool} {l:List qa} {st:List Int} (B:lL calm l st):cB l.length st:=by rw[← B.top];exact(VZ l.length).1
theorem lL.nil (calm:Bool):lL calm [] []:=⟨λx hx=>(by grind),λj hj=>(by grind),rfl,λj hj=>(by grind),aS⟩
theorem lL.ext {calm:Bool} {l t:List qa} {st:List Int} (B:lL calm l st) (h1:∀x∈t,U2 calm x) (h2:∀k,k<t.length→xv (l++t) (qO (l++t) (l.length+k)) (qf (l++t) ((l.length+k:Nat):Int))=0)
  (h3:∀k,k<t.length→qgI (l++t) calm (l.length+k) (qf (l++t) ((l.length+k:Nat):Int))) (h5:(qO (l++t) (l++t).length).length≤5):lL calm (l++t) (qO (l++t) (l++t).length):=by
 refine⟨?_,?_,rfl,?_,h5⟩
 ·intro x hx;rcases List.mem_append.1 hx with hx |hx
  ·exact B.ok x hx
  grind
 ·intro j hj;by_cases lz:j<l.length
  ·rw[Qr j omQ,KE lz,Ns ((VZ j).1.mono omQ)];exact B.wr j lz
  ·have:=h2 (j-l.length) (by grind)
   simp_all
 ·intro j hj;by_cases lz:j<l.length
  ·intro ho;rw[KE lz]at ho ⊢;obtain⟨c,c1,c2,c3,c4⟩:=B.jp j lz ho;exact⟨c,c1,by grind,by rw[Qr c c2,Qr j omQ];grind,c4⟩
  ·have:=h3 (j-l.length) (by grind)
   simp_all
theorem qjb {l:List qa} {x:qa}:qO (l++[x]) (l.length+1)=jU (qO l l.length) l.length x.1:=by have e:=Yo (l:=l) (t:=[x]) (k:=0) (x:=x) rfl;simp_all[Nat.add_zero,zY,Qr]
theorem lL.iM {calm:Bool} {l:List qa} {st:List Int} (B:lL calm l st) {x:qa} (h1:U2 calm x) (h2:xv l st x=0) (h3:x.1≠12∧x.1≠13) (h5:(jU st l.length x.1).length≤5):lL calm (l++[x]) (jU st l.length x.1):=by
 have e:=Yo (l:=l) (t:=[x]) (k:=0) (x:=x) rfl;rw[Nat.add_zero]at e;have hs:qO (l++[x]) (l++[x]).length=jU st l.length x.1:=by rw[List.length_append,List.length_singleton,qjb,B.top]
 rw[← hs]at h5 ⊢;refine B.ext (by grind) ?_ ?_ h5
 ·intro k hk;obtain rfl:k=0:=by grind
  rw[Nat.add_zero,e,Qr _ (Nat.le_refl _),B.top,Ns B.Ce];grind
 ·intro k hk;obtain rfl:k=0:=by grind
  rw[Nat.add_zero,e];intro ho;omega
def Flat (op:Int):Prop:=op≠14∧op≠15∧op≠16∧op≠17∧op≠18∧op≠19
theorem Flat.behind {op:Int} (h:Flat op) (st:List Int) (i:Int):jU st i op=st:=by obtain⟨h1,h2,h3,h4,h5,h6⟩:=h;simp_all[jU,xo,zU]
theorem Flat.sK {x:qa} (h:Flat x.1) (hm:Xg x=true) (l:List qa) (st:List Int):xv l st x=0:=by
 obtain⟨h1,h2,h3,h4,h5,h6⟩:=h;simp_all[xv,zU,xo]
theorem lL.flat {calm:Bool} {l:List qa} {st:List Int} (B:lL calm l st) {x:qa} (h1:U2 calm x) (hf:Flat x.1) (h3:x.1≠12∧x.1≠13):lL calm (l++[x]) st:=by
 have:=B.iM h1 (hf.sK h1.may l st) h3 (by rw[hf.behind];exact B.Cd)
 rwa [hf.behind]at this
theorem lL.two {calm:Bool} {l:List qa} {st:List Int} (B:lL calm l st) {x y:qa} (hx:U2 calm x) (hy:U2 calm y) (fx:Flat x.1) (fy:Flat y.1)
  (jx:(x.1=12∨x.1=13)→x.2.2.2.1=((l.length+2:Nat):Int)) (jy:(y.1=12∨y.1=13)→y.2.2.2.1=(l.length:Int)∧calm=false):lL calm (l++[x,y]) st:=by
 have e0:=Yo (l:=l) (t:=[x,y]) (k:=0) (x:=x) rfl;have e1:=Yo (l:=l) (t:=[x,y]) (k:=1) (x:=y) rfl;rw[Nat.add_zero]at e0;have s0:qO (l++[x,y]) l.length=st:=by rw[Qr _ (Nat.le_refl _),B.top]
 have s1:qO (l++[x,y]) (l.length+1)=st:=by rw[zY,s0,e0,fx.behind]
 have s2:qO (l++[x,y]) (l.length+2)=st:=by rw[show l.length+2=l.length+1+1 from rfl,zY,s1,e1,fy.behind]
 have hs:qO (l++[x,y]) (l++[x,y]).length=st:=by grind
 have:=B.ext (t:=[x,y]) (by grind) (λk hk=>by
  have hk:k=0∨k=1:=by grind
  rcases hk with rfl |rfl
  ·rw[Nat.add_zero,e0];exact fx.sK hx.may _ _
  ·rw[e1];exact fy.sK hy.may _ _) (λk hk=>by
  have hk:k=0∨k=1:=by grind
  rcases hk with rfl |rfl
  ·rw[Nat.add_zero,e0];intro ho;grind
  ·rw[e1];intro ho;grind) (by rw[hs];exact B.Cd)
 grind
abbrev one (op:Int):qa:=(op,0,0,0,0)
theorem qgC (calm:Bool) {op:Int} (h:op=14∨op=15∨op=16∨op=17∨op=18∨op=19):U2 calm (one op):=by refine⟨?_,by grind,by simp,λ_=>by grind⟩;rcases h with rfl |rfl |rfl |rfl |rfl |rfl<;>decide
theorem lL.begin {calm:Bool} {l:List qa} {st:List Int} (B:lL calm l st) {op:Int} (h:op=14∨op=17) (h5:st.length<5):lL calm (l++[one op]) (st++[(l.length:Int)])∧QD (l++[one op]) (st++[(l.length:Int)])=QD l st++[op]:=by
 have hb:jU st l.length op=st++[(l.length:Int)]:=by unfold jU;rw[iJ (.inl (by simp_all[xo,iG])),iQ (by rcases h with rfl |rfl<;>decide)]
 have hw:xv l st (one op)=0:=by unfold xv;rw[iQ (by rcases h with rfl |rfl<;>decide),iQ (λhh=>by have:=hh.1;rcases h with rfl |rfl<;>exact absurd this od),iQ (λhh=>by grind),iQ omQ]
 have:=B.iM (x:=one op) (qgC calm omQ) hw (by grind) (by grind);rw[hb]at this;refine⟨this,?_⟩;unfold QD;rw[List.map_append]
 congr 1
 ·exact ZH B.Ce
 ·have e:=Yo (l:=l) (t:=[one op]) (k:=0) (x:=one op) rfl;grind
def kx (o:Int):Int:=if o=14 then 15 else if o=17 then 18 else 19
def Sa (l:List qa) (st:List Int):List qa:=l++[one (kx (dG l st))]
def Oe (l:List qa) (st:List Int):List Int:=if dG l st=17 then st.dropLast++[(l.length:Int)]else st.dropLast
theorem lL.shut {calm:Bool} {l:List qa} {st:List Int} (B:lL calm l st) (hn:st≠[]) (ho:dG l st=14∨dG l st=17∨dG l st=18):lL calm (Sa l st) (Oe l st)∧
  QD (Sa l st) (Oe l st)=(QD l st).dropLast++(if dG l st=17 then[18]else[]):=by
 have hs:zU (kx (dG l st))=dG l st:=by rcases ho with h |h |h<;>rw[h]<;>decide
 have IW:kx (dG l st)=15∨kx (dG l st)=18∨kx (dG l st)=19:=by
  grind[kx]
 have he:0<zU (kx (dG l st)):=by grind
 have hlen:=List.length_pos_iff.2 hn;have hb:jU st l.length (kx (dG l st))=Oe l st:=by
  unfold jU Oe;rw[iJ he];by_cases nQ:dG l st=17
  ·rw[iJ nQ,iJ (.inr (by rw[nQ];rfl))]
  ·rw[iQ nQ,iQ];rcases ho with h |h |h
   ·rw[h];decide
   ·grind
   ·rw[h];decide
 have hw:xv l st (one (kx (dG l st)))=0:=by
  unfold xv
  rw[iQ (by rcases IW with h |h |h<;>rw[h]<;>decide),iQ (λhh=>hh.2 hs.symm),iQ (λhh=>by grind),iQ (λhh=>by
   have:=hh.1
   rcases IW with h |h |h<;>rw[h]at this<;>exact absurd this od)]
 have h5:=B.Cd;have:=B.iM (x:=one (kx (dG l st))) (qgC calm omQ) hw (by grind) (by grind[Oe]);rw[hb]at this;refine⟨this,?_⟩;unfold Sa Oe QD;have hd:(st.dropLast.map λp=>(qf (l++[one (kx (dG l st))]) p).1)=(QD l st).dropLast:=by have:=ZH (t:=[one (kx (dG l st))]) B.Ce.dropLast;simp_all[QD,List.map_dropLast]
 split
 ·rename_i nQ;have e:=Yo (l:=l) (t:=[one (kx (dG l st))]) (k:=0) (x:=one (kx (dG l st))) rfl;rw[Nat.add_zero]at e;rw[List.map_append,hd,List.map_singleton,e,nQ];rfl
 ·rw[hd,List.append_nil];rfl
theorem qw9 {l:List qa} {st:List Int} (hn:st≠[]):dG l st=(QD l st).getLast?.getD 0:=by unfold dG QD jc;simp_all[List.getLast?_eq_some_getLast]
end
section
variable {g h:AH} {L R:List SP}
def IX (zs:List Int):Prop:=∀z∈zs,0≤z∧z<18446744073709551616
theorem IX.set {zs:List Int} {i:Nat} {x:Int} (h:IX zs) (hx:0≤x∧x<18446744073709551616):IX (zs.set i x):=by
 intro z hz;rcases List.mem_or_eq_of_mem_set hz with h1 |rfl
 ·exact h z h1
 grind
def tw (c:Int):Int:=jR .i64 (1*2 ^ (min c.toNat (IntKind.bits .i64)))
theorem QH {x lo hi:Int} (h:lo≤hi):lo≤yp x lo hi∧yp x lo hi≤hi:=by
 unfold yp;have:=Ur x (show 0<hi-lo+1 by omega)
 grind
def Sb (zs:List Int):Prop:=IX zs∧zs[0]? =some 0
theorem Sb.set {zs:List Int} {i:Nat} {x:Int} (h:Sb zs) (hx:0≤x∧x<18446744073709551616) (hi:0<i):Sb (zs.set i x):=⟨h.1.set hx,by rw[List.getElem?_set_ne omQ];exact h.2⟩
end
section
variable {g h:AH} {L R:List SP}
def bX (lv:AV) (l:List qa):SP:=qB 32 5 l.length lv (l.flatMap xW)
structure qgd (x:qa):Prop where
  flat:Flat x.1
  nj:x.1≠12∧x.1≠13
  ok:∀calm,U2 calm x
theorem qgd.of {x:qa} (h1:Xg x=true) (h2:(1≤x.1∧x.1≤11)∨x.1=21) (h3:0≤x.2.2.2.2∧x.2.2.2.2<18446744073709551616):qgd x :=
 ⟨⟨by omega,by omega,by omega,by omega,by omega,by omega⟩,by omega,λ_=>⟨h1,by omega,h3,λ_=>by omega⟩⟩
end
section
variable {g h:AH} {L R:List SP}
theorem ZY (l:List qa) (st:List Int):(QD l st).length=st.length:=by simp[QD]
theorem jXl {l:List qa} {st:List Int} (hn:st≠[]):(QD l st)[st.length-1]? =some (dG l st):=by have hl:=List.length_pos_iff.2 hn;rw[qw9 hn,List.getLast?_eq_getElem?,ZY,iW (by grind[ZY])];rfl
def FP (l:List qa) (st:List Int):Prop:=∀o∈QD l st,o=14∨o=17∨o=18
theorem FP.at {l:List qa} {st:List Int} (h:FP l st) (cg:st≠[]):dG l st=14∨dG l st=17∨dG l st=18:=h _ (List.mem_of_getElem? (jXl cg))
end
section
variable {g h:AH} {L R:List SP}
theorem Kx {p:Int} {c:Cl} {l:List Cl}:jO p (c::l)=if c.1=p then some c.2 else jO p l:=rfl
theorem jQh (zs:List Int) {i:Nat} (h0:0<i) (h:i<eL zs.length):jO (i:Int) (kW zs)=some (km zs i):=by
 have e:kW zs=(kW zs).take (i-1)++[((i:Int),km zs i)]++(kW zs).drop i:=by have hk:=Ru zs (show i-1+1<eL zs.length by omega);rw[show i-1+1=i by omega]at hk;have:=List.take_add_one (l:=kW zs) (i:=i-1);grind[Option.toList_some,List.take_append_drop]
 have hg:∀(l1 l2:List Cl),jO (i:Int) l1=none→jO (i:Int) (l1++l2)=jO (i:Int) l2:=by
  intro l1 l2
  induction l1 with
  |nil=>simp
  |cons c l ih=>
   intro hn;rw[Kx]at hn
   split at hn
   all_goals simp_all[Kx]
 rw[e,List.append_assoc,hg _ _ (qyM zs omQ)];show jO (i:Int) (((i:Int),km zs i)::_)=_;rw[Kx,iJ rfl]
theorem U0 {zs:List Int} {m:Int} (hz:∀z∈zs,0≤z∧z<18446744073709551616):ji (zN zs m):=by
 refine⟨qjt zs m,?_,?_⟩
 ·intro c hc;obtain⟨i,_,rfl⟩:=List.mem_map.1 hc;show 0≤km zs (i+1)∧km zs (i+1)<18446744073709551616;unfold km;cases hzi:zs[i+1]? with
  |none=>simp
  |some z=>exact hz z (List.mem_of_getElem? hzi)
 simp[zN]
theorem Vz {b o:Nat} {K:AV→Go.Ae.R} {Q:AV→AH→Prop} (w:wp (K (.bool false)) Q):wp (nY .ptr false (.ptr b o) .aU K) Q:=w
theorem Z4 {b o:Nat} {K:AV→Go.Ae.R} {Q:AV→AH→Prop} (w:wp (K (.bool true)) Q):wp (nY .ptr true (.ptr b o) .aU K) Q:=w
theorem qzL (zs:List Int) (m:Int):bO (zN zs m).lv=0:=by rfl
section
variable {x y v u:Nat} {l l':List qa} {b b':Int} {mt mt':List Int} {s s':IM} {e e' f f' n1 n2 nx BZ:Int} {V W:VM}
end
end
section
def zC:wc→VM→(Int×Int)×wc×VM
 | .prog q,V=>(((jr q.l (qT q.l) q.left q.s V).kind,(jr q.l (qT q.l) q.left q.s V).err),
   .prog ⟨q.l,(jr q.l (qT q.l) q.left q.s V).s,if(jr q.l (qT q.l) q.left q.s V).kind=1 then 0 else(jr q.l (qT q.l) q.left q.s V).kind,(jr q.l (qT q.l) q.left q.s V).err,(jr q.l (qT q.l) q.left q.s V).left⟩,
   (jr q.l (qT q.l) q.left q.s V).v)
 | .au bs k,V=>(if(zK V (bs.drop k) k).1.2=11 then(1,0)else if(zK V (bs.drop k) k).1.2=0 then(2,0)else(4,(zK V (bs.drop k) k).1.2),.au bs (zK V (bs.drop k) k).1.1,(zK V (bs.drop k) k).2)
theorem Kc (x:qr):z8 x=((zC x.ap x.v).1,{ x with ap:=(zC x.ap x.v).2.1,v:=(zC x.ap x.v).2.2 }):=by grind[z8,zC]
theorem qVl:∀(bs:List Int) (k:Nat) {V W:VM},xR V W→ji V→ji W→
  ((zK V bs k).1.2=11∧∃(j:Nat) (W':VM),(zK V bs k).1.1=k+j∧xR (zK V bs k).2 W'∧ji W'∧W'.K=W.K∧W'.sz=W.sz∧zK W bs k=zK W' (bs.drop j) (k+j))∨
  ((zK V bs k).1.2≠11∧(zK W bs k).1=(zK V bs k).1∧xR (zK V bs k).2 (zK W bs k).2):=by
 intro bs
 induction bs with
 |nil=>intro k V W h _ _;exact .inr ⟨by nofun,rfl,h⟩
 |cons b r ih=>
  intro k V W h GV GW;have hk:=Uk (b:=b) GV.ok;rcases h.iD b with dy |⟨e,hp⟩
  ·left;have e0:zK V (b::r) k=((k,(xj V b).1),(xj V b).2):=iQ (by grind);have hn:=UR dy;rw[e0];refine⟨dy,0,W,rfl,⟨hk.sz.trans h.sz,hk.most.trans h.most,hn.1.trans h.lv,λp x hx=>h.K p x (by rw[← hk.K];grind)⟩,GW,rfl,rfl,rfl⟩
  ·have kW:=Uk (b:=b) GW.ok;by_cases h0:(xj V b).1=0
   ·have e1:zK V (b::r) k=zK (xj V b).2 r (k+1):=iJ h0;have e2:zK W (b::r) k=zK (xj W b).2 r (k+1):=iJ (by grind);rw[e1,e2];rcases ih (k+1) hp GV.iD.1 GW.iD.1 with⟨a,j,W',b1,b2,b3,b4,b5,b6⟩ |a
    ·refine .inl ⟨a,j+1,W',by omega,b2,b3,b4.trans kW.K,b5.trans kW.sz,?_⟩;grind
    grind
   ·have e1:zK V (b::r) k=((k,(xj V b).1),(xj V b).2):=iQ h0;have e2:zK W (b::r) k=((k,(xj W b).1),(xj W b).2):=iQ (by grind);rw[e1,e2];by_cases dy:(xj V b).1=11
    ·left;have hn:=UR dy;refine⟨dy,0,W,rfl,⟨hk.sz.trans h.sz,hk.most.trans h.most,hn.1.trans h.lv,λp x hx=>h.K p x (by rw[← hk.K];grind)⟩,GW,rfl,rfl,?_⟩;grind
    grind
theorem qWL {j:wc} {V W:VM} (h:xR V W) (GV:ji V) (GW:ji W) (hV:aX True V j) (hW:aX True W j) :
  ((zC j V).1.1=1∧∃W',xR (zC j V).2.2 W'∧ji W'∧W'.K=W.K∧W'.sz=W.sz∧aX True W' (zC j V).2.1∧zC j W=zC (zC j V).2.1 W')∨
  ((zC j V).1.1≠1∧(zC j W).1=(zC j V).1∧(zC j W).2.1=(zC j V).2.1∧xR (zC j V).2.2 (zC j W).2.2):=by
 cases j with
 |prog q=>
  obtain⟨F,Q,gb,hr,hl⟩:=hV;obtain⟨G,h0,h1,h2⟩:=hr trivial;obtain⟨GWi,_,_,h3⟩:=hW.2.2.2.1 trivial;rcases qgL F Q q.left G GWi h2 h with⟨k1,W',p,eK,eS,g,e⟩ |⟨k1,e1,e2,e3,e4,p⟩
  ·left;refine⟨k1,W',p,g.aH,eK,eS,⟨F,Q,g.gb,λ_=>⟨g,iJ k1,qvd _ k1,?_⟩,?_⟩,?_⟩
   ·have:=qk6 F Q q.left G h2 k1;show bO W'.lv+(jr q.l (qT q.l) q.left q.s V).left<9000;rw[← p.lv];omega
   ·have:=qgT (l:=q.l) (mt:=qT q.l) q.left (s:=q.s) (V:=V);grind
   grind[zC]
  ·right;refine⟨k1,?_,?_,p⟩
   ·show((jr q.l (qT q.l) q.left q.s W).kind,(jr q.l (qT q.l) q.left q.s W).err)=_;rw[e1,e2];rfl
   ·show wc.prog ⟨q.l,(jr q.l (qT q.l) q.left q.s W).s,if(jr q.l (qT q.l) q.left q.s W).kind=1 then 0 else(jr q.l (qT q.l) q.left q.s W).kind,(jr q.l (qT q.l) q.left q.s W).err,(jr q.l (qT q.l) q.left q.s W).left⟩=_;rw[e1,e2,e3,e4];rfl
 |au bs k=>
  have hbk:=hV.1;rcases qVl (bs.drop k) k h GV GW with⟨a,j,W',b1,b2,b3,b4,b5,b6⟩ |⟨a,e,p⟩
  ·left;have a4:=(qX3 (bs.drop k) k GV).2.2.2.1;rw[List.length_drop]at a4;refine⟨by simp_all[zC],W',b2,b3,b4,b5,⟨by omega,hV.2⟩,?_⟩;grind[zC,List.drop_drop]
  ·right;refine⟨?_,?_,?_,p⟩
   ·unfold zC;grind
   all_goals grind[zC]
section
variable {S:jD} {M:zZ} {me:Int}
structure KnM (M:zZ) (V:VM):Prop where
  sz:(V.sz:Int)=M.w.length
  K:∀p x,jO p V.K=some x→x=qC M.w p
theorem qxP {zs:List Int} {p:Int} (hp:1≤p) (h:p<eL zs.length):jO p (kW zs)=some (qC zs p):=by obtain⟨i,rfl⟩:∃i:Nat,p=i:=⟨p.toNat,by omega⟩;rw[jQh zs omQ omQ];rfl
end
end
section
section
variable {S:jD} {M:zZ} {me:Int}
inductive Cf:Nat→jw→zZ→jw→zZ→Prop
  |nil {c:jw} {M:zZ}:Cf 0 c M c M
  |cons {k:Nat} {c d:jw} {M N:zZ} {o:dC} {a:cx} {M1:zZ} {c1:jw} (hn:yD c=some o) (e:qL M o=(a,M1)) (h0:a.err=0) (h1:qp c a=c1) (h2:c1.p.fin=0) (r:Cf k c1 M1 d N):Cf (k+1) c M d N
theorem Cf.trans {a b:Nat} {x y z:jw} {M N O:zZ} (s:Cf a x M y N) (t:Cf b y N z O):Cf (a+b) x M z O:=by
 induction s with
 |nil=>grind
 |cons hn e h0 h1 h2 _ ih=>rw[Nat.add_right_comm];exact .cons hn e h0 h1 h2 (ih t)
end
end
section
theorem ZR {l:List di} {a b:Int} {x:di} (ha:0≤a) (hb:0≤b) (hl:a<l.length):q8 (l.set a.toNat x) b=if a=b then x else q8 l b:=by
 unfold q8;grind
def Sc (w:List Int) (cs:List Cl):List Int:=cs.foldl (λw c=>w.set c.1.toNat c.2) w
section
variable {S:jD} {M:zZ} {me:Int}
theorem Yw {p:Xa} {a:cx} (hp:p.fin=0) (ha:a.err=0):jV p a=(false,p):=by
 simp_all[jV,iV]
theorem zq {c:jw} {a:cx} (hp:c.p.fin=0) (ha:a.err=0):qp c a=if c.state=0∨c.state=1 then vV c a
 else if c.state=2∨c.state=3 then yB c a
 else if c.state=4 then yQ c a.lk
 else if c.state=5 then zG { c with at_:=c.at_+1 }
 else if c.state=6 then xX { c with at_:=c.at_+1 }
 else xw { c with at_:=c.at_+1 }:=by
 grind[qp,Yw]
theorem VU {M N:zZ} {o:dC} {a:cx} (hk:o.kind=1∨o.kind=2) (e:Ku M o=(a,N)) (h0:a.err=0):qL M o=(a,{ N with bh:=N.bh+1 }):=by
 simp_all[yl,vM]
theorem Gk {M N:zZ} {o:dC} {a:cx} (hk:o.kind=3∨o.kind=4∨o.kind=5) (e:GE M o=(a,N)) (h0:a.err=0):qL M o=(a,{ N with bh:=N.bh+1 }):=by
 have e':yl M o=(a,N):=by unfold yl;grind
 simp_all[vM]
theorem Xf {M N:zZ} {o:dC} {a:cx} (hk:o.kind=6∨o.kind=7) (e:J9 M o=(a,N)) (h0:a.err=0):qL M o=(a,{ N with bh:=N.bh+1 }):=by
 have e':yl M o=(a,N):=by unfold yl;grind
 simp_all[vM]
end
end
section
section
variable {S:jD} {M:zZ} {me:Int}
theorem qGa {j:wc} {V:VM} (_:ji V) (hj:aX True V j):(zC j V).1.1=1∨(zC j V).1.1=2∨(zC j V).1.1=3∨(zC j V).1.1=4:=by
 cases j with
 |prog q=>obtain⟨F,Q,gb,h,hl⟩:=hj;obtain⟨G,h0,h1,h2⟩:=h trivial;exact(qkF F Q q.left G h2).2.2.2.2
 |au bs k=>
  unfold zC;grind
theorem qJp {j:wc} {V:VM} (h:cy V):cy (zC j V).2.2:=by
 cases j with
 |prog q=>exact cy.run _ h
 |au bs k=>exact cy.gives _ _ h
structure Ended (S:jD) (M:zZ) (me:Int) (R:(Int×Int)×wc×VM) (y:qr) (N:zZ):Prop where
  st:y.state=8
  me_:y.me=me
  set:y.set=S
  fin:y.fin=R.1.1
  err:y.err=if R.1.1=4 then R.1.2 else 0
  lv:y.v.lv=R.2.2.lv
  ap:y.ap=R.2.1
  dj:y.dj= -1
  calm:GL S N me
  s:N.s=M.s.set me.toNat 0
  w:N.w=if R.1.1=2 then Sc M.w (jz R.2.2.lv)else M.w
  n:N.n=M.n+(if R.1.1=2∧jz R.2.2.lv≠[]then 1 else 0)
  aa:y.aa=N.n
  begun:y.begun=true
  kind:R.1.1=2∨R.1.1=3∨R.1.1=4
end
end
namespace fo
variable {g h:AH} {L R:List SP}
def zr (a:Int×Int×Bool):List AV:=[.int .i64 a.1,.int .i64 a.2.1,.bool a.2.2]
end fo
section
variable {g h:AH} {L R:List SP}
def FQ (zs:List Int):List Int:=(List.range (eL zs.length)).map λi=>if i=0 then 0 else km zs i
def Sd (l:List Int) (c:Cl):List Int:=if 1≤c.1∧c.1<l.length then l.set c.1.toNat c.2 else l
def jKs (zs:List Int) (cs:List Cl):List Int:=cs.foldl Sd (FQ zs)
def CS (zs:List Int) (m:Int) (C:List Cl) (F:List Int):VM:={ zN zs m with lv:=[(C,F)] }
structure FullS (zs:List Int) (T c i:Nat):Prop where
  len:zs.length=T
  lo:32≤T
  hi:T≤256
  la:1≤c∧c≤4
  nn:∀z∈zs,0≤z∧z<18446744073709551616
  head:km zs c=0
  bump:km zs 5=14+(i:Int)*(wZ c+1)
  Se:∀j,j<i→∀p:Nat,(p:Int)=14+(j:Int)*(wZ c+1)→km zs p=(c:Int)+8
end
namespace pS
open Go Go.Ae fo
set_option maxRecDepth 100000
variable {g h:AH} {L R:List SP}
end pS
section
theorem qvr {l:List qa} {mt:List Int}:∀(n:Nat) {s:IM} {V:VM},(jr l mt n s V).kind≠4→(jr l mt n s V).err=0:=by
 intro n
 induction n with
 |zero=>
  intro s V;rw[Js]
  grind
 |succ n ih=>
  intro s V;rw[JI];grind
structure Cg (S:jD) (M:zZ) (k:Int):Prop where
  w:(M.w.length:Int)=S.words
  wd:∀z∈M.w,mN z
  w0:M.w[0]? =some 0
  l:M.l=List.replicate S.ae.toNat bT
  n:M.n=S.start
  s:M.s=List.replicate S.ad.toNat 0
  bh:0≤M.bh∧M.bh≤k
theorem qWa {S:jD} (O:xM S):Cg S (yq S) 0:=by
 have h1:=O.words;refine⟨by show((List.replicate S.words.toNat (0:Int)).length:Int)=_;grind,λz hz=>?_,?_,rfl,rfl,rfl,⟨Int.le_refl _,Int.le_refl _⟩⟩
 ·have:=List.eq_of_mem_replicate hz;grind
 ·show(List.replicate S.words.toNat (0:Int))[0]? =some 0;grind
theorem qYT {S:jD} {M:zZ} {k at_ w:Int} (Q:Cg S M k) (ha:1≤at_) (hw:mN w):Cg S (qL M (bA 2 at_ w)).2 (k+1):=by
 have hc:=O4 (M:=M) (o:=bA 2 at_ w);have hq:=Q.bh;have e:(qL M (bA 2 at_ w)).2.w=(if at_<1∨(M.w.length:Int)≤at_ then M.w else M.w.set at_.toNat w)∧(qL M (bA 2 at_ w)).2.l=M.l∧(qL M (bA 2 at_ w)).2.n=M.n∧(qL M (bA 2 at_ w)).2.s=M.s:=by
  have eW:yl M (bA 2 at_ w)=if at_<1∨(M.w.length:Int)≤at_ then(lT 2,M)else(dS,{ M with w:=M.w.set at_.toNat w }):=by rfl
  rw[vM,eW];grind
 refine⟨?_,?_,?_,by rw[e.2.1];exact Q.l,by rw[e.2.2.1];exact Q.n,by rw[e.2.2.2];exact Q.s,by omega⟩
 ·rw[e.1]
  split
  ·exact Q.w
  ·rw[List.length_set];exact Q.w
 ·rw[e.1]
  split
  ·exact Q.wd
  ·exact R9 Q.wd hw
 ·rw[e.1]
  split
  ·exact Q.w0
  ·rw[List.getElem?_set_ne omQ];exact Q.w0
end
section
open Go Go.Ae fo
set_option maxRecDepth 100000
variable {g h:AH} {L R:List SP}
end
section
variable {g h:AH} {L R:List SP}
abbrev FR (l:List qa) (n:Nat) (zs:List Int) (m:Int):RM:=jr l (qT l) n Q4 (zN zs m)
def FT (r:RM):List Cl:=if r.kind=2 then jz r.v.lv else[]
def FU (r:RM):List Int:=if r.kind=2 then vD r.v.lv else[]
end
section
def Dq:Nat→Nat→qe→zZ→qe×zZ
 | 0,_,t,M=>(t,M)
 |n+1,i,t,M=>match zO t with
  |none=>(t,M)
  |some o=>Dq n (i+1) (ql t (qL M o).1 0 ((i:Int)+1)) (qL M o).2
inductive uH:Nat→Nat→qe→zZ→qe→zZ→Prop
  |nil {i:Nat} {t:qe} {M:zZ}:uH i 0 t M t M
  |cons {i m:Nat} {t u:qe} {M N:zZ} {o:dC} (hn:zO t=some o) (r:uH (i+1) m (ql t (qL M o).1 0 ((i:Int)+1)) (qL M o).2 u N):uH i (m+1) t M u N
theorem uH.run {i m:Nat} {t u:qe} {M N:zZ} (s:uH i m t M u N):∀n,Dq (m+n) i t M=Dq n (i+m) u N:=by
 induction s with
 |nil=>simp
 |cons hn r ih=>
  grind[Dq,ql,qL,zO]
theorem uH.trans {i m k:Nat} {t u v:qe} {M N P:zZ} (s:uH i m t M u N):uH (i+m) k u N v P→uH i (m+k) t M v P:=by
 induction s with
 |nil=>simp
 |cons hn r ih=>rename_i i m t u M N o;intro q;rw[show m+1+k=(m+k)+1 by omega];exact .cons hn (ih (by grind))
structure FV (t u:qe):Prop where
  cW:∃r,u.results=t.results++r
  af:u.af.length≤t.af.length+1
structure JW (t u:qe):Prop where
  cW:u.results=t.results
  af:u.af=t.af
theorem JW.refl (t:qe):JW t t:=⟨rfl,rfl⟩
theorem JW.trans {t u v:qe} (a:JW t u) (b:JW u v):JW t v:=⟨b.cW.trans a.cW,b.af.trans a.af⟩
theorem xZ (t:qe):JW t (zJ t):=by unfold zJ;split<;>exact⟨rfl,rfl⟩
theorem yM (t:qe):JW t (xx t):=(JW.trans (u:={ t with ap:=t.ap+1,au:=false,al:=[],ah:=0,aI:=0 }) ⟨rfl,rfl⟩ (xZ _))
theorem ww (t:qe) (d:Int):JW t (zo t d):=by
 unfold zo
 split
 ·exact(JW.trans (u:={ t with bz:=0,state:=3 }) ⟨rfl,rfl⟩ (xZ _))
 ·exact⟨rfl,rfl⟩
theorem Q2 (t:qe):JW t (yE t):=by
 have key:∀u:qe,JW u (yy u):=λu=>by
  unfold yy
  split
  ·exact .refl u
  ·split
   ·exact(JW.trans (u:={ u with ao:=u.ao.filter λr=>!jM u.aj r.2 }) ⟨rfl,rfl⟩ (yM _))
   ·exact(JW.trans (u:={ u with ao:=u.ao.filter (λr=>!jM u.aj r.2),au:=true,al:=u.ao.filter (λr=>jM u.aj r.2),ah:=0,aI:=0 }) ⟨rfl,rfl⟩ (xZ _))
 unfold yE
 split
 ·exact(JW.trans (u:={ t with aj:=t.aj++[0] }) ⟨rfl,rfl⟩ (key _))
 grind
theorem ZX (t:qe):JW t (wq t):=by
 unfold wq
 split
 ·simp[yM]
 ·exact(JW.trans (u:={ t with state:=5,aj:=[] }) ⟨rfl,rfl⟩ (Q2 _))
theorem NG (t:qe) (f:Int):JW t (kX t f):=by
 unfold kX
 split
 ·exact(JW.trans (u:={ t with ao:=t.ao++t.al }) ⟨rfl,rfl⟩ (yM _))
 simp[yM]
theorem FV.of {t u v:qe} (a:JW u v) {r:List VV} (h:u.results=t.results++r) (hp:u.af.length≤t.af.length+1):FV t v:=⟨⟨r,a.cW.trans h⟩,by rw[a.af];grind⟩
theorem qKR (t:qe) (x:qr) (d p:Int):FV t (zv t x d p):=by
 have h1:(t.af++[jJ t x p]).length≤t.af.length+1:=by simp
 have h0:t.results=t.results++[]:=(List.append_nil _).symm;unfold zv;dsimp only
 split
 ·split
  ·exact⟨⟨[],h0⟩,h1⟩
  ·exact .of (u:={ t with af:=t.af++[jJ t x p],ah:=t.ah+1,aI:=t.aI+1 }) (ww _ _) h0 h1
 ·split
  ·split
   ·exact .of (u:={ t with af:=t.af++[jJ t x p],ah:=t.ah+1 }) (xZ _) h0 h1
   ·exact⟨⟨[],h0⟩,h1⟩
  ·split
   ·exact .of (u:={ t with af:=t.af++[jJ t x p],ah:=t.ah+1 }) (NG _ _) h0 h1
   ·exact .of (u:={ t with af:=t.af++[jJ t x p],ah:=t.ah+1,results:=t.results++[⟨jK x,yJ x,zc x,x.aa⟩],ao:=t.ao++(zk x).map λb=>(b,x.aa) }) (ZX _) rfl h1
theorem qzR (t:qe) (a:cx) (d p:Int):FV t (ql t a d p):=by
 have h0:t.results=t.results++[]:=(List.append_nil _).symm;have hr:FV t t:=⟨⟨[],h0⟩,Nat.le_succ _⟩;unfold ql
 split
 ·split
  ·grind
  ·rename_i x _;unfold xz;dsimp only
   split
   ·exact⟨⟨[],h0⟩,Nat.le_succ _⟩
   ·have G:=qKR { t with now:=some (qS x a),born:=if(qS x a).begun=true∧x.begun=false then p else t.born } (qS x a) d p;exact⟨G.cW,G.af⟩
 ·split
  ·split
   ·exact⟨⟨[],h0⟩,Nat.le_succ _⟩
   ·exact .of (u:=t) (ww _ _) h0 (Nat.le_succ _)
  ·split
   ·exact .of (u:={ t with aj:=t.aj++[if a.err≠0 then 0 else a.word] }) (Q2 _) h0 (Nat.le_succ _)
   grind
def cH (t:qe):Prop:=∀x,t.now=some x→Gf x
theorem cH.same {t u:qe} (W:cH t) (h:u.now=t.now):cH u:=λx hx=>W x (h▸hx)
theorem vu (t:qe):cH (zJ t):=by
 unfold zJ
 split
 ·exact λx h=>by grind
 ·intro x h;cases h
  split
  ·exact qwp
  ·exact qwp
theorem gk (t:qe):cH (xx t):=vu _
theorem Vr {t:qe} (W:cH t) (d:Int):cH (zo t d):=by
 unfold zo
 split
 ·simp[vu]
 trivial
theorem O5 {t:qe} (W:cH t):cH (yE t):=by
 grind[cH,yy,gk,vu,yE]
theorem qVU {t:qe} (W:cH t) (x:qr) (d p:Int):cH (zv t x d p):=by
 unfold zv;dsimp only
 split
 ·split
  ·trivial
  ·exact Vr (t:={ t with af:=t.af++[jJ t x p],ah:=t.ah+1,aI:=t.aI+1 }) (W.same rfl) _
 ·split
  ·split
   ·simp[vu]
   trivial
  ·split
   ·simp[kX,gk]
   ·unfold wq
    split
    ·simp[gk]
    ·exact O5 (t:={ t with af:=t.af++[jJ t x p],ah:=t.ah+1,results:=t.results++[⟨jK x,yJ x,zc x,x.aa⟩],ao:=t.ao++(zk x).map λb=>(b,x.aa),state:=5,aj:=[] }) (W.same rfl)
theorem ZZ {t:qe} (O:yK t) (W:cH t) {a:cx} (ha:vz a) (d p:Int):cH (ql t a d p):=by
 unfold ql
 split
 ·rename_i h1
  split
  ·grind
  ·rename_i x hx;have C:=O.c omQ;have hN:=(C.now x hx).1;have W1:Gf (qS x a):=qjp hN (W x hx) ha;unfold xz;dsimp only
   split
   ·intro y hy;grind
   ·refine qVU (λy hy=>?_) _ _ _;grind
 ·split
  ·split
   ·trivial
   grind[Vr]
  ·split
   ·exact O5 (t:={ t with aj:=t.aj++[if a.err≠0 then 0 else a.word] }) (W.same rfl)
   grind
theorem wI {t:qe} {o:dC} (O:yK t) (W:cH t) (h:zO t=some o):mN o.word:=by
 have z0:mN (0:Int):=⟨Int.le_refl _,by simp⟩;unfold zO at h
 split at h
 ·rename_i h1;have C:=O.c omQ;cases hx:t.now with
  |none=>grind
  |some x=>rw[hx]at h;exact qzB (C.now x hx).1 (W x hx) h
 ·split at h
  ·cases h;exact z0
  ·split at h
   ·cases h;exact z0
   grind
end
section
theorem NY {M:zZ} {o:dC}:(qL M o).2.w.length=M.w.length∧(qL M o).2.l.length=M.l.length∧(qL M o).2.s.length=M.s.length:=by
 have key:(yl M o).2.w.length=M.w.length∧(yl M o).2.l.length=M.l.length∧(yl M o).2.s.length=M.s.length:=by
  grind[yl,Ku,GE,J9,uE]
 grind[vM]
theorem qV7 (t:qe) (W:cH t):cH (qs t):=by
 unfold qs
 split
 ·split
  ·simp[vu]
  trivial
 grind
theorem qgE (t:qe) (W:cH t) (s v:Int):cH (jN t s v):=by
 unfold jN
 split
 ·grind
 ·split
  ·split
   ·simp[vu]
   ·split
    all_goals trivial
  grind
theorem Yv (t:qe):(qs t).af=t.af:=by
 unfold qs
 split
 ·split
  ·exact(xZ _).af
  rfl
 rfl
theorem qJC (t:qe) (s v:Int):(jN t s v).af=t.af:=by
 unfold jN
 split
 ·rfl
 ·split
  ·split
   ·exact(xZ _).af
   grind
  rfl
structure Zj (m:yj):Prop where
  so:xM m.s
  r:Cc m.m
  len:(m.t.length:Int)=m.s.ad
  w:(m.m.w.length:Int)=m.s.words
  l:(m.m.l.length:Int)=m.s.ae
  sl:(m.m.s.length:Int)=m.s.ad
  t:∀(i:Nat) (t:qe),m.t[i]? =some t→yK t∧cH t∧(t.af.length:Int)≤m.aA
  aA:0≤m.aA
  bh:0≤m.m.bh∧m.m.bh≤m.aA+1
theorem Yj {ts:List qe} {i:Nat} {s v:Int} {k:Nat}:(xl ts i s v)[k]? =(ts[k]?).map λt=>if k=i then t else jN t s v:=by simp[xl,List.getElem?_mapIdx]
theorem qVa {m:yj} (K:Zj m) {i:Nat} (hi:i<m.t.length) {draw:Int} (hd:0≤draw):Zj (jn m i draw)∧(jn m i draw).s=m.s∧(jn m i draw).aA=m.aA+1:=by
 obtain⟨t,ht⟩:∃t,m.t[i]? =some t:=⟨m.t[i],iW hi⟩;obtain⟨O,W,hp⟩:=K.t i t ht;have Ch:=K.aA;have lJ:=K.bh;have dO:∀(u:qe) {k:Nat} {v:qe},(m.t.set i u)[k]? =some v→(k=i∧v=u)∨(k≠i∧m.t[k]? =some v):=λu k v h=>by
  grind
 unfold jn;rw[ht];dsimp only
 split
 ·refine⟨⟨K.so,K.r,by show((m.t.set i _).length:Int)=_;rw[List.length_set];exact K.len,K.w,K.l,K.sl,λk v hv=>?_,by grind,by grind⟩,rfl,rfl⟩;show yK v∧cH v∧(v.af.length:Int)≤m.aA+1;rcases dO _ hv with⟨_,rfl⟩ |⟨_,h⟩
  ·grind[U6,qV7,Yv]
  ·obtain⟨a,b,c⟩:=K.t k v h;grind
 ·rename_i o hn;have ho:=wI O W hn;obtain⟨a1,a2⟩:=Ql K.r ho;have O':=GG O a1 hd (pick:=m.aA+1) (draw:=draw);have W':=ZZ O W a1 draw (m.aA+1);have G:=(qzR t (qL m.m o).1 draw (m.aA+1)).af;obtain⟨l1,l2,l3⟩:=NY (M:=m.m) (o:=o);have lc:=O4 (M:=m.m) (o:=o);generalize qL m.m o=r at*;generalize ql t r.1 draw (m.aA+1)=u at*;have one:∀(k:Nat) (v:qe),(m.t.set i u)[k]? =some v→yK v∧cH v∧(v.af.length:Int)≤m.aA+1:=λk v hv=>by
   rcases dO _ hv with⟨_,rfl⟩ |⟨_,h⟩
   ·grind
   ·obtain⟨a,b,c⟩:=K.t k v h;grind
  have base:∀ts:List qe,ts.length=m.t.length→(∀(k:Nat) (v:qe),ts[k]? =some v→yK v∧cH v∧(v.af.length:Int)≤m.aA+1)→Zj { m with aA:=m.aA+1,last:=o,did:=true,m:=r.2,t:=ts }:=λts hl H=>⟨K.so,a2,by show(ts.length:Int)=_;rw[hl];exact K.len,by show(r.2.w.length:Int)=_;rw[l1];exact K.w,by show(r.2.l.length:Int)=_;rw[l2];exact K.l,by show(r.2.s.length:Int)=_;rw[l3];exact K.sl,H,by grind,by grind⟩
  refine⟨?_,rfl,rfl⟩
  split
  ·refine base _ (by simp[xl]) λk v hv=>?_;rw[Yj]at hv;cases hq:(m.t.set i u)[k]? with
   |none=>grind
   |some q=>
    grind[jN,Option.some.inj,Zz,qgE,qJC]
  grind
theorem jXA {s:jD} {jobs:List (List (List qa))} (hs:0≤s.start) (hj:∀js∈jobs,∀l∈js,(zi l).2=0∧Quiet l):Zj (xP s jobs):=by
 have so:xM (jk { s with ad:=((jobs.take 4).length:Int) }):=yr hs;have q1:=so.words;have q2:=so.ae;have q3:=so.ad;have q4:=so.start;have Q:=qYT (qWa so) (at_:=5) (w:=14) od ⟨by simp,by simp⟩;unfold xP;dsimp only;generalize jk { s with ad:=((jobs.take 4).length:Int) }=S at*;refine⟨so,⟨Q.wd,by rw[Q.n];grind,λz hz=>?_⟩,?_,Q.w,?_,?_,λi t ht=>?_,Int.le_refl _,?_⟩
 ·rw[Q.s]at hz;grind
 ·grind
 ·rw[Q.l,List.length_replicate];grind
 ·rw[Q.s,List.length_replicate];grind
 ·rw[List.getElem?_map]at ht;by_cases hi:i<S.ad.toNat
  ·rw[List.getElem?_range hi]at ht;have ht:=Option.some.inj ht;subst ht;have rs:∀l∈(((jobs.take 4)[i]?).getD []),(zi l).2=0∧Quiet l:=λl hl=>by
    grind
   refine⟨qwe q4.1 rs,gk _,?_⟩;have:(gr (i:Int) S (((jobs.take 4)[i]?).getD [])).af=[]:=(yM _).af;grind
  grind
 ·have:=Q.bh;grind
end
section
variable {g h:AH} {L R:List SP}
theorem qqR:∀{l:List Cl} {c:Cl},lR l→c∈l→jO c.1 l=some c.2:=by
 intro l
 induction l with
 |nil=>simp
 |cons d l ih=>
  intro c hu hc;unfold lR at hu;rw[List.map_cons,List.nodup_cons]at hu;unfold jO;rcases List.mem_cons.1 hc with rfl |hc
  ·simp
  ·rw[iQ (λh=>hu.1 (by grind))];exact ih hu.2 hc
theorem qjf {n:Nat} (hn:1≤n) {v:Nat} {M:VM} (H:HS g h (ag v M::R)) (O:dP M) :
  aE n 115 [.ptr v 0] h λr h'=>HS g h' (qB 170 2 M.K.length r (M.K.flatMap zz)::ag v M::R):=by
 refine aF (S:=S115) rfl omQ λk hk=>?_;unfold S115;try simp only[iZ]
 obtain⟨fv,ov,q,e,H⟩:=ag.E H;have lS:=O.Fu;refine qK (qQ (qZ ‹_› .here rfl ?_));refine jQ ‹_› e_2 ?_;refine KI (ln:=0) (cp:=M.K.length) (sz:=2) H rfl omQ omQ λkv h1 H1=>?_;rw[Nat.zero_mul,List.take_zero]at H1;refine qK (qQ (qZ ‹_› e_1 rfl ?_));refine jQ ‹_› e_3 ?_
 refine zQ (λm s h'=>∃(i:Nat) (kv:AV),s=(.int .i64 (i:Int),.int .i64 (M.K.length:Int),ov,kv,.ptr v 0,())∧i≤M.K.length∧m=M.K.length-i∧
  HS g h' (qB 170 2 i kv ((M.K.take i).flatMap zz)::qw v [fv,ov,.ptr q 0,.int .i64 M.aB]::qB e 2 M.sz fv ((vI M.sz M.K).flatMap Jt)::
   qB 3 1 M.K.length ov (M.K.map λc=>.int .i64 c.1)::cm q M.most M.lv::R))
  ?_ (m:=M.K.length) (by grind) ⟨0,kv,rfl,by omega,by rfl,by grind⟩
 clear H H1;rintro m ih s h2 bQ ⟨i,kv,rfl,hi,rfl,H⟩;dsimp only;by_cases aw:i<M.K.length
 ·have tH:M.K[i]? =some M.K[i]:=iW aw;have eI:=O.ins M.K[i] (List.getElem_mem aw);have hg:=qqR O.un (List.getElem_mem aw);have FX:M.K.take (i+1)=M.K.take i++[M.K[i]]:=List.take_succ_eq_append_getElem aw;generalize hc:M.K[i]=c at*;obtain⟨p,x⟩:=c;dsimp only at eI hg;obtain⟨p,rfl⟩:∃j:Nat,p=(j:Int):=⟨p.toNat,by omega⟩;refine jt omQ ?_;refine qX (zj (H.sl e_3) (x:=.int .i64 (p:Int)) (by grind) ?_);refine qK (qQ (qZ ‹_› e_1 rfl ?_));have hf:w4 M.K p=(x,true):=by grind[w4]
  refine vF (x:=.int .u64 x) (H.sl e_2) omQ omQ (by rw[YN (sz:=2) Jt (λ_=>rfl) _ _ _ omQ,Jw omQ,hf];rfl) ?_;refine qR rfl ?_;refine qt (n:=1) (l:=[.int .i64 (p:Int),.int .u64 x]) (sz:=2) H rfl rfl rfl rfl λv5 h5 H5=>?_;refine zw (H5.aM e_1) (H5.sl .here) omQ omQ rfl λv6 h6 H6=>?_;refine qi omQ ?_;refine bQ (M.K.length-(i+1)) _ _ omQ ⟨i+1,v6,rfl,by omega,rfl,?_⟩;rw[FX,List.flatMap_append];exact H6.sub (.cons .here (.drop .refl))
 ·obtain rfl:i=M.K.length:=by omega
  refine jP omQ ?_;refine qJ (qx ?_);rw[List.take_length]at H
  have H2:HS g h2 (qw v [fv,ov,.ptr q 0,.int .i64 M.aB]::qB e 2 M.sz fv ((vI M.sz M.K).flatMap Jt)::qB 3 1 M.K.length ov (M.K.map λc=>.int .i64 c.1)::cm q M.most M.lv::
   qB 170 2 M.K.length kv (M.K.flatMap zz)::R):=H.sub (.cons e_1 (.cons e_1 (.cons e_1 (.cons e_1 .refl))))
  exact qW ((ag.I H2).sub (.cons e_1 .refl))
end
section
variable {g h:AH} {L R:List SP}
theorem QS {c:CV} {l:List (Nat×Nat)} {t:TypeId} {x:AV} {f:Nat} {a:List AV} {K2:AV→AH→Go.Ae.R} {Q Q':AV→AH→Prop} (hf:U8 l t=some f) (w:wp (c (.fn f [] []) (x::a) h) Q') (hk:∀v h',Q' v h'→wp (K2 v h') Q):wp (vB c l (.iface t x) a h K2) Q:=by show wp (Option.rec (motive:=λ_=>Go.Ae.R) none (λf=>ze c (.fn f [] []) (x::a) h K2) (U8 l t)) Q;rw[hf];exact qG w hk
structure AU where
  rv:AV
  bv:AV
  iv:AV
  fv:AV
  ev:AV
  cv:AV
  gv:Int
  vb:Nat
  db:Nat
def xi (x:qr) (q:AU):List AV:=[.int .i64 x.me,.int .i64 x.set.words,.int .i64 x.set.ae,.int .i64 x.set.wide,.int .i64 x.set.ad,.int .u64 x.set.start,.int .i64 x.set.ay,.int .i64 x.set.writes,.int .i64 x.set.fuel,
 q.rv,q.bv,.int .i64 q.gv,.ptr q.vb 0,.ptr q.db 0,.int .i64 x.state,q.iv,q.fv,q.ev,q.cv,.bool x.begun,.int .u64 x.aP,.int .u64 x.aa,.int .i64 x.fin,.int .i64 x.dj,.int .i64 x.err,.bool x.cS]
def cC (vb:Nat) (j:wc) (rv bv:AV) (gv:Int):SP:=match j with
 | .prog q=>.ex λz:Nat×Int=>.all [.ic (rv=.ptr z.1 0∧bv=.ak∧gv=0),aN z.1 vb q.l 0 (qT q.l) q.s q.err q.fin q.left z.2]
 | .au bs k=>.all [.ic (rv=.aU∧gv=(k:Int)),qB 3 1 bs.length bv (bs.map (.int .i64))]
def aT (st:Int) (f:Qg) (e:kc) (c:Option jw) (iv fv ev cv:AV):SP:=match c with
 |some c=>.ex λb:Nat=>.all [.ic (cv=.ptr b 0∧(st=6→iv=.iface 153 (.ptr b 0))),aD b c]
 |none=>
  if st=3 then .ex λb:Nat=>.all [.ic (cv=.aU∧fv=.ptr b 0∧iv=.iface 151 (.ptr b 0)),qw b (kI f)]
  else if st=4∨st=5 then .ex λb:Nat=>.all [.ic (cv=.aU∧ev=.ptr b 0∧iv=.iface 152 (.ptr b 0)),cw b e]
  else .ic (cv=.aU)
abbrev Ci (a:Nat) (x:qr) (q:AU) (R:List SP):List SP:=qw a (xi x q)::cC q.vb x.ap q.rv q.bv q.gv::ag q.vb x.v::cu q.db x.r::aT x.state x.f x.e x.c q.iv q.fv q.ev q.cv::R
def aK (a:Nat) (x:qr):SP:=.ex λq:AU=>.all (Ci a x q [])
section
variable {n a:Nat} {x:qr} {q:AU}
theorem aK.E (H:HS g h (aK a x::R)):∃q,HS g h (Ci a x q R):=by obtain⟨q,H⟩:=H.eU;exact⟨q,H.cG⟩
theorem aK.I (H:HS g h (Ci a x q R)):HS g h (aK a x::R):=HS.fB q (HS.allI (A:=Ci a x q []) H)
theorem qjA (hn:1≤n) (H:HS g h L) (s:bi L (qw a (xi x q)) R):aE n 47 [.ptr a 0] h λr h'=>r=.bV [.int .u64 x.aP,.bool x.begun]∧h'=h:=by
 refine aF (S:=S47) rfl omQ λk hk=>?_;unfold S47;try simp only
 refine qK (qQ (qZ H s rfl ?_));refine qK (qQ (qZ H s rfl ?_))
 skip
 exact qW ⟨rfl,rfl⟩
theorem qYR (hn:1≤n) (H:HS g h L) (s:bi L (qw a (xi x q)) R):aE n 79 [.ptr a 0] h λr h'=>r=.int .u64 x.aa∧h'=h:=by
 refine aF (S:=S79) rfl omQ λk hk=>?_;unfold S79;try simp only
 refine qK (qQ (qZ H s rfl ?_))
 skip
 exact qW ⟨rfl,rfl⟩
theorem qWd (hn:1≤n) (H:HS g h L) (s:bi L (qw a (xi x q)) R):aE n 49 [.ptr a 0] h λr h'=>r=.int .i64 (jK x)∧h'=h:=by
 refine aF (S:=S49) rfl omQ λk hk=>?_;unfold S49;try simp only[iZ]
 refine qK (qQ (qZ H s rfl ?_));unfold jK;by_cases c:x.state=8
 ·rw[iQ (λh=>h c)];refine jI c ?_;refine qJ (qK (qQ (qZ H s rfl ?_)));exact qW ⟨rfl,rfl⟩
 ·rw[iJ c];refine jH c ?_;refine qX ?_;exact qW ⟨rfl,rfl⟩
theorem jJF (hn:1≤n) (H:HS g h L) (s:bi L (qw a (xi x q)) R):aE n 77 [.ptr a 0] h λr h'=>r=.int .i64 (yJ x)∧h'=h:=by
 refine aF (S:=S77) rfl omQ λk hk=>?_;unfold S77;try simp only[iZ]
 refine qK (qQ (qZ H s rfl ?_));unfold yJ;by_cases c:x.state=8
 ·rw[iQ (λh=>h c)];refine jI c ?_;refine qJ (qK (qQ (qZ H s rfl ?_)));exact qW ⟨rfl,rfl⟩
 ·rw[iJ c];refine jH c ?_;refine qX ?_;exact qW ⟨rfl,rfl⟩
theorem jXr (hn:1≤n) (H:HS g h L) (s:bi L (qw a (xi x q)) R):aE n 74 [.ptr a 0] h λr h'=>r=.int .i64 (JC x)∧h'=h:=by
 refine aF (S:=S74) rfl omQ λk hk=>?_;unfold S74;try simp only[iZ]
 refine qK (qQ (qZ H s rfl ?_));unfold JC;by_cases c:x.state=8
 ·rw[iQ (λh=>h c)];refine jI c ?_;refine qJ (qK (qQ (qZ H s rfl ?_)));exact qW ⟨rfl,rfl⟩
 ·rw[iJ c];refine jH c ?_;refine qX ?_;exact qW ⟨rfl,rfl⟩
theorem JN {f e y:Int} (hn:1≤n) (H:HS g h (qw a (xi x q)::R)):aE n 71 [.ptr a 0,.int .i64 f,.int .i64 e,.int .i64 y] h λ_ h'=>HS g h' (qw a (xi (zh x f e y) q)::R):=by
 refine sh (S:=S71) rfl omQ λk hk=>?_;unfold S71;try simp only[iZ]
 refine qK (qQ (qy H (b:=a) .here ⟨rfl,rfl⟩ (by simp[xi]) λh1 H1=>?_));refine qK (qQ (qy H1 (b:=a) .here ⟨rfl,rfl⟩ (by simp[xi]) λh2 H2=>?_));refine qK (qQ (qy H2 (b:=a) .here ⟨rfl,rfl⟩ (by simp[xi]) λh3 H3=>?_));refine qK (qQ (qy H3 (b:=a) .here ⟨rfl,rfl⟩ (by simp[xi]) λh4 H4=>?_));exact qW H4
theorem aT.nil {st:Int} {f:Qg} {e:kc} {iv fv ev cv:AV} (H:HS g h (aT st f e none iv fv ev cv::R)):cv=.aU∧HS g h R:=by
 unfold aT at H;dsimp only at H
 split at H
 ·obtain⟨b,H⟩:=H.eU;have H:=H.cG;exact⟨H.fi.1.1,H.drop.drop⟩
 ·split at H
  ·obtain⟨b,H⟩:=H.eU;have H:=H.cG;exact⟨H.fi.1.1,H.drop.drop⟩
  ·exact H.fi
theorem aT.fet {f:Qg} {e:kc} {iv fv ev cv:AV} (H:HS g h (aT 3 f e none iv fv ev cv::R)):∃b,(cv=.aU∧fv=.ptr b 0∧iv=.iface 151 (.ptr b 0))∧HS g h (qw b (kI f)::R):=by obtain⟨b,H⟩:=(show HS g h (.ex (λb:Nat=>SP.all [.ic (cv=.aU∧fv=.ptr b 0∧iv=.iface 151 (.ptr b 0)),qw b (kI f)])::R)from H).eU;exact⟨b,H.cG.fi⟩
end
end
section
variable {g h:AH} {L R:List SP}
section
variable {n a:Nat} {x:qr} {q:AU}
theorem qJI {K:AV→Go.Ae.R} {Q:AV→AH→Prop} (w:wp (K (.bool false)) Q):wp (nY .ptr true .aU .aU K) Q:=w
theorem NM {K:AV→Go.Ae.R} {Q:AV→AH→Prop} (w:wp (K (.bool true)) Q):wp (nY .ptr false .aU .aU K) Q:=w
theorem cC.P {vb:Nat} {p:B5} {rv bv:AV} {gv:Int} (H:HS g h (cC vb (.prog p) rv bv gv::R)):∃ib nx,(rv=.ptr ib 0∧bv=.ak∧gv=0)∧HS g h (aN ib vb p.l 0 (qT p.l) p.s p.err p.fin p.left nx::R):=by obtain⟨z,H⟩:=(show HS g h (.ex (λz:Nat×Int=>SP.all [.ic (rv=.ptr z.1 0∧bv=.ak∧gv=0),aN z.1 vb p.l 0 (qT p.l) p.s p.err p.fin p.left z.2])::R)from H).eU;exact⟨z.1,z.2,H.cG.fi⟩
theorem cC.PI {vb ib:Nat} {p:B5} {nx:Int} {rv bv:AV} {gv:Int} (e:rv=.ptr ib 0∧bv=.ak∧gv=0) (H:HS g h (aN ib vb p.l 0 (qT p.l) p.s p.err p.fin p.left nx::R)):HS g h (cC vb (.prog p) rv bv gv::R) :=
 show HS g h (.ex (λz:Nat×Int=>SP.all [.ic (rv=.ptr z.1 0∧bv=.ak∧gv=0),aN z.1 vb p.l 0 (qT p.l) p.s p.err p.fin p.left z.2])::R)from
  HS.fB (ib,nx) (HS.allI (A:=[_,_]) (HS.fO e H))
theorem cC.S {vb k:Nat} {bs:List Int} {rv bv:AV} {gv:Int} (H:HS g h (cC vb (.au bs k) rv bv gv::R)):(rv=.aU∧gv=(k:Int))∧HS g h (qB 3 1 bs.length bv (bs.map (.int .i64))::R) :=
 ((show HS g h (SP.all [.ic (rv=.aU∧gv=(k:Int)),qB 3 1 bs.length bv (bs.map (.int .i64))]::R)from H).cG).fi
theorem cC.SI {vb k:Nat} {bs:List Int} {rv bv:AV} {gv:Int} (e:rv=.aU∧gv=(k:Int)) (H:HS g h (qB 3 1 bs.length bv (bs.map (.int .i64))::R)):HS g h (cC vb (.au bs k) rv bv gv::R) :=
 show HS g h (SP.all [.ic (rv=.aU∧gv=(k:Int)),qB 3 1 bs.length bv (bs.map (.int .i64))]::R)from HS.allI (A:=[_,_]) (HS.fO e H)
theorem qWP {l:List Int} {k:Nat} (h:k<l.length):(l.map (.int .i64))[k]? =some (AV.int .i64 l[k]):=by simp
theorem jKM (hn:16≤n) (hg:ji x.v) (_:bO x.v.lv<9000) (hj:aX True x.v x.ap) (H:HS g h (qw a (xi x q)::cC q.vb x.ap q.rv q.bv q.gv::ag q.vb x.v::R)) :
  aE n 98 [.ptr a 0] h λr h'=>r=.bV [.int .i64 (z8 x).1.1,.int .i64 (z8 x).1.2]∧
   ∃gv,HS g h' (qw a (xi (z8 x).2 { q with gv:=gv })::cC q.vb (z8 x).2.ap q.rv q.bv gv::ag q.vb (z8 x).2.v::R):=by
 refine aF (S:=S98) rfl omQ λk hk=>?_;unfold S98;try simp only[iZ]
 unfold z8;cases hx:x.ap with
 |prog p=>
  rw[hx]at H hj;obtain⟨F,Q,gb,hr,hl⟩:=hj;obtain⟨G,h0,h1,h2⟩:=hr trivial;obtain⟨ib,nx,⟨e1,e2,e3⟩,H1⟩:=cC.P (H.aM e_1);refine qK (qQ (qZ H (b:=a) .here (x:=.ptr ib 0) (by rw[← e1];rfl) ?_));refine Z4 (qX (qY ?_))
  try dsimp only
  refine qK (qQ (qZ H (b:=a) .here (x:=.ptr ib 0) (by rw[← e1];rfl) ?_));rw[h0,h1]at H1;refine qG (jZi omQ F Q G h2 omQ (H1.sub (.cons .here (.cons e_1 (.cons .here .refl))))) ?_;rintro _ h3 ⟨rfl,BZ,H3⟩;refine qK (qQ (qZ H3 (b:=a) e_2 (x:=.ptr ib 0) (by rw[← e1];rfl) ?_));refine qG (jQf omQ H3) ?_;rintro _ _ ⟨rfl,rfl⟩;refine qh H .here (by rw[← e1];rfl) H3 e_2 (by rw[← e1];rfl) (HS.lt H .here) ?_;refine qW ⟨rfl,0,?_⟩;have H4:=(cC.PI (p:=⟨p.l,(jr p.l (qT p.l) p.left p.s x.v).s,if(jr p.l (qT p.l) p.left p.s x.v).kind=1 then 0 else(jr p.l (qT p.l) p.left p.s x.v).kind,(jr p.l (qT p.l) p.left p.s x.v).err,(jr p.l (qT p.l) p.left p.s x.v).left⟩) ⟨e1,e2,rfl⟩ H3).sub (.cons e_2 (.cons .here (.cons .here .refl)));grind[xi]
 |au bs k=>
  rw[hx]at H hj;obtain⟨⟨e1,e2⟩,H1⟩:=cC.S (H.aM e_1);refine qK (qQ (qZ H (b:=a) .here (x:=.aU) (by rw[← e1];rfl) ?_));refine qJI (qJ ?_);have lS:=hj.1;have Rw:=hj.2;dsimp only;generalize hG:zK x.v (bs.drop k) k=G
  refine zQ (λm s h'=>s=(.ptr a 0,())∧∃(i:Nat) (V:VM),i≤bs.length∧m=bs.length-i∧ji V∧zK V (bs.drop i) i=G∧
    HS g h' (qw a (xi x { q with gv:=(i:Int) })::qB 3 1 bs.length q.bv (bs.map (.int .i64))::ag q.vb V::R))
   ?_ (m:=bs.length-k) (by grind) ⟨rfl,k,x.v,lS,rfl,hg,hG,by
    have:q={ q with gv:=(k:Int) }:=by rw[← e2]
    rw[← this]
    exact H1.sub (.cons e_1 (.cons .here .refl))⟩
  clear H H1 hG;rintro m ih s h1 bQ ⟨rfl,i,V,hi,rfl,hV,hG,H⟩;dsimp only;refine qK (qQ (qZ H (b:=a) .here rfl ?_));refine qK (qQ (qZ H (b:=a) .here rfl ?_));refine jQ H e_1 ?_;by_cases aw:i<bs.length
  ·refine jt (by grind) (qX ?_);refine qK (qQ (qZ H (b:=a) .here rfl ?_));refine qK (qQ (qZ H (b:=a) .here rfl ?_));refine qK (qQ (qZ H (b:=a) .here rfl ?_));refine zj (H.sl e_1) (qWP aw) ?_;refine qG (qxD (b:=bs[i]) omQ (H.aM e_2) hV.ok) ?_;rintro _ h2 ⟨rfl,H2⟩;rw[List.drop_eq_getElem_cons aw]at hG;by_cases h0:(xj V bs[i]).1=0
   ·refine qk h0 (qX ?_);refine qK (qQ (qZ H2 (b:=a) e_1 (x:=.int .i64 (i:Int)) rfl ?_));refine qi omQ ?_;refine qK (qQ ?_);refine qy H2 (b:=a) e_1 ⟨rfl,rfl⟩ (by simp[xi]) λh3 H3=>?_;refine bQ (bs.length-(i+1)) _ _ omQ ⟨rfl,i+1,(xj V bs[i]).2,by omega,rfl,hV.iD.1,?_,H3.sub (.cons .here (.cons e_1 (.cons .here .refl)))⟩;rw[show zK V (bs[i]::bs.drop (i+1)) i=zK (xj V bs[i]).2 (bs.drop (i+1)) (i+1)from iJ h0]at hG;grind
   ·rw[show zK V (bs[i]::bs.drop (i+1)) i=((i,(xj V bs[i]).1),(xj V bs[i]).2)from iQ h0]at hG;subst hG;refine qj h0 (qJ ?_);have H3:=(cC.SI (vb:=q.vb) (k:=i) ⟨e1,rfl⟩ (H2.sub (.cons e_2 (.cons e_1 (.cons .here .refl))))).sub (.cons e_1 (.cons .here (.cons .here .refl)));by_cases dy:(xj V bs[i]).1=11
    ·refine qk dy (qX (qx (qW ⟨?_,(i:Int),?_⟩)))
     ·grind
     trivial
    ·refine qj dy (qJ (qx (qW ⟨?_,(i:Int),?_⟩)))
     ·grind
     trivial
  ·obtain rfl:i=bs.length:=by omega
   rw[List.drop_length,show zK V [] bs.length=((bs.length,0),V)from rfl]at hG;subst hG;refine jP (by simp) (qJ (qx (qW ⟨rfl,(bs.length:Int),?_⟩)));have H3:=(cC.SI (vb:=q.vb) (k:=bs.length) ⟨e1,rfl⟩ (H.sub (.cons e_1 (.cons .here (.cons .here .refl))))).sub (.cons e_1 (.cons .here (.cons .here .refl)));exact H3
theorem Uc {st:Int} {t b:Nat} (hn:1≤n) (H:HS g h (qw a (xi x q)::R)):aE n 104 [.ptr a 0,.int .i64 st,.iface t (.ptr b 0)] h λ_ h'=>HS g h' (qw a (xi { x with state:=st } { q with iv:=.iface t (.ptr b 0) })::R):=by
 refine cX (S:=S104) rfl omQ λk hk=>?_;unfold S104;try simp only
 refine qK (qQ (qy H (b:=a) .here ⟨rfl,rfl⟩ (by simp[xi]) λh1 H1=>?_));refine qK (qQ (qy H1 (b:=a) .here ⟨rfl,rfl⟩ (by simp[xi]) λh2 H2=>?_));exact qW H2
theorem qGs {p:Int} (hn:3≤n) (hp:p<4611686018427387904) (H:HS g h (qw a (xi x q)::R)):aE n 99 [.ptr a 0,.int .i64 p] h λ_ h'=>
  ∃b,HS g h' (qw b (kI (J3 x p).f)::qw a (xi (J3 x p) { q with iv:=.iface 151 (.ptr b 0),fv:=.ptr b 0 })::R):=by
 refine bj (S:=S99) rfl omQ λk hk=>?_;unfold S99;try simp only[iZ]
 refine qY ?_
 try dsimp only
 refine qK (qQ (qZ H (b:=a) .here rfl ?_));refine qK (qQ (qu (qu (qZ H (b:=a) .here rfl ?_))));refine qK (qQ (qu (qu (qZ H (b:=a) .here rfl ?_))));refine qG (qxL omQ hp) ?_;rintro _ _ ⟨rfl,rfl⟩;refine qK (qQ (qu (qZ H (b:=a) .here rfl ?_)));refine qK (qQ (qZ H (b:=a) .here rfl ?_));refine qG (jJE omQ H) ?_;rintro _ h1 ⟨b,rfl,H1⟩;refine qK (qQ ?_);refine qy H1 (b:=a) e_1 (x:=.ptr b 0) ⟨rfl,rfl⟩ (by simp[xi]) λh2 H2=>?_;refine qh H .here rfl H .here rfl (HS.lt H .here) ?_;refine qh H .here rfl H .here rfl (HS.lt H .here) ?_;refine qh H .here rfl H .here rfl (HS.lt H .here) ?_;have H3:HS g h2 (qw a (xi { x with f:=B4 x.me p (ofM p x.set.ae x.set.wide) x.set.ay x.aa } { q with fv:=.ptr b 0 })::qw b (kI (B4 x.me p (ofM p x.set.ae x.set.wide) x.set.ay x.aa))::R):=H2;refine qK (qQ (qZ H3 (b:=a) .here rfl ?_));refine qG (Uc omQ H3) λ_ h4 H4=>qW ⟨b,H4.sub (.cons e_1 (.cons .here .refl))⟩
theorem Oz {st:Int} (hn:4≤n) (hr:x.r.length≤16) (H:HS g h (qw a (xi x q)::cu q.db x.r::R)):aE n 101 [.ptr a 0,.int .i64 st] h λ_ h'=>
  ∃b,HS g h' (cw b (gV x st).e::qw a (xi (gV x st) { q with iv:=.iface 152 (.ptr b 0),ev:=.ptr b 0 })::cu q.db x.r::R):=by
 refine bj (S:=S101) rfl omQ λk hk=>?_;unfold S101;try simp only
 refine qY ?_
 try dsimp only
 refine qK (qQ (qZ H (b:=a) .here rfl ?_));refine qK (qQ (qu (qZ H (b:=a) .here rfl ?_)));refine qK (qQ (qZ H (b:=a) .here rfl ?_));refine qG (RV omQ omQ (H.aM e_1)) λv h1 H1=>?_;refine qG (qyp (me:=x.me) (sp:=x.set.ay) (r:=x.r) omQ omQ H1) ?_;rintro _ h2 ⟨b,rfl,H2⟩;refine qK (qQ ?_);refine qy H2 (b:=a) e_2 (x:=.ptr b 0) ⟨rfl,rfl⟩ (by simp[xi]) λh3 H3=>?_;refine qh H .here rfl H1 e_2 rfl (HS.lt H .here) ?_;refine qh H .here rfl H1 e_2 rfl (HS.lt H .here) ?_;have H4:HS g h3 (qw a (xi { x with e:=uF x.me x.set.ay x.r } { q with ev:=.ptr b 0 })::cw b (uF x.me x.set.ay x.r)::cu q.db x.r::R):=H3;refine qK (qQ (qZ H4 (b:=a) .here rfl ?_));refine qG (Uc omQ H4) λ_ h5 H5=>qW ⟨b,H5.sub (.cons e_1 (.cons .here .refl))⟩
end
end
section
variable {g h:AH} {L R:List SP}
section
variable {st:Int} {f:Qg} {e:kc} {c:Option jw} {iv fv ev cv:AV} {b:Nat}
theorem aT.uI (bZ:st=3) (hc:c=none) (q:cv=.aU∧fv=.ptr b 0∧iv=.iface 151 (.ptr b 0)) (H:HS g h (qw b (kI f)::R)):HS g h (aT st f e c iv fv ev cv::R):=by subst bZ;subst hc;show HS g h (.ex (λb':Nat=>SP.all [.ic (cv=.aU∧fv=.ptr b' 0∧iv=.iface 151 (.ptr b' 0)),qw b' (kI f)])::R);exact HS.fB b (HS.allI (A:=[_,_]) (HS.fO q H))
theorem aT.sL (bZ:st=3) (hc:c=none) (H:HS g h (aT st f e c iv fv ev cv::R)):∃b,(cv=.aU∧fv=.ptr b 0∧iv=.iface 151 (.ptr b 0))∧HS g h (qw b (kI f)::R):=by grind[aT.fet]
theorem aT.uJ (bZ:st=4∨st=5) (hc:c=none) (q:cv=.aU∧ev=.ptr b 0∧iv=.iface 152 (.ptr b 0)) (H:HS g h (cw b e::R)):HS g h (aT st f e c iv fv ev cv::R):=by subst hc;unfold aT;dsimp only;rw[iQ omQ,iJ bZ];exact HS.fB b (HS.allI (A:=[_,_]) (HS.fO q H))
theorem aT.pT (bZ:st=4∨st=5) (hc:c=none) (H:HS g h (aT st f e c iv fv ev cv::R)):∃b,(cv=.aU∧ev=.ptr b 0∧iv=.iface 152 (.ptr b 0))∧HS g h (cw b e::R):=by subst hc;unfold aT at H;dsimp only at H;rw[iQ omQ,iJ bZ]at H;obtain⟨b,H⟩:=H.eU;exact⟨b,H.cG.fi⟩
theorem aT.AW (bZ:st≠3∧st≠4∧st≠5) (hc:c=none) (q:cv=.aU) (H:HS g h R):HS g h (aT st f e c iv fv ev cv::R):=by simp_all[aT,omQ,HS.fO]
theorem aT.FY (hc:c=none) (H:HS g h (aT st f e c iv fv ev cv::R)):cv=.aU∧HS g h R:=by grind[aT.nil]
theorem aT.sM {d:jw} (hc:c=some d) (q:cv=.ptr b 0∧(st=6→iv=.iface 153 (.ptr b 0))) (H:HS g h (aD b d::R)):HS g h (aT st f e c iv fv ev cv::R):=by subst hc;show HS g h (.ex (λb':Nat=>SP.all [.ic (cv=.ptr b' 0∧(st=6→iv=.iface 153 (.ptr b' 0))),aD b' d])::R);exact HS.fB b (HS.allI (A:=[_,_]) (HS.fO q H))
theorem aT.nF {d:jw} (hc:c=some d) (H:HS g h (aT st f e c iv fv ev cv::R)):∃b,(cv=.ptr b 0∧(st=6→iv=.iface 153 (.ptr b 0)))∧HS g h (aD b d::R):=by subst hc;obtain⟨b,H⟩:=(show HS g h (.ex (λb':Nat=>SP.all [.ic (cv=.ptr b' 0∧(st=6→iv=.iface 153 (.ptr b' 0))),aD b' d])::R)from H).eU;exact⟨b,H.cG.fi⟩
end
section
variable {n a:Nat} {x:qr} {q:AU}
theorem qXA (hn:18≤n) (B:QR x) (hj:aX True x.v x.ap) (hc:x.c=none) (mj:q.cv=.aU) (H:HS g h (qw a (xi x q)::cC q.vb x.ap q.rv q.bv q.gv::ag q.vb x.v::cu q.db x.r::R)) :
  aE n 72 [.ptr a 0] h λ_ h'=>HS g h' (aK a (xp x)::R):=by
 refine aF (S:=S72) rfl omQ λk hk=>?_;unfold S72;try simp only[iZ]
 have D:=Gj B.aH B.fr hj;unfold xp;refine qG (jKM omQ B.aH B.fr hj H) ?_;rintro _ h1 ⟨rfl,gv,H1⟩;clear H;generalize(z8 x).1.1=kd at*;generalize(z8 x).1.2=er at*;generalize(z8 x).2=y at*;obtain⟨e1,e2,e3,e4,e5⟩:=D.same;have rq:y.c=none:=by grind
 have fw:y.r.length≤16:=by rw[e3];exact B.r
 rw[← e3]at H1;generalize hA:xd y kd er=A;refine qD rfl (qD rfl ?_);refine zb [] (λ_ h'=>HS g h' (aK a A::R)) (λj hj=>?_) λ_ h' H'=>qx (qW H');unfold xd at hA;have mi:=D.aH.ok.hi;by_cases c1:kd=1
 ·rw[iJ c1]at hA;subst hA;refine qk c1 (qX ?_);have hnd:=D.aB c1;have hk:=D.kept.1;refine qK (qQ (qZ H1 (b:=a) .here rfl ?_));refine qG (NC omQ (H1.aM (P:=ag q.vb y.v) e_2)) ?_;rintro _ _ ⟨rfl,rfl⟩;refine qG (qGs omQ omQ H1) ?_;rintro _ h2 ⟨b,H2⟩;refine hj _ _ (aK.I (q:={ q with gv:=gv,iv:=.iface 151 (.ptr b 0),fv:=.ptr b 0 }) ?_);have H3:=aT.uI (st:=3) (e:=y.e) (ev:=q.ev) rfl rq ⟨mj,rfl,rfl⟩ H2;exact H3.sub (.cons e_1 (.cons e_1 (.cons e_1 (.cons e_1 (.cons .here .refl)))))
 rw[iQ c1]at hA;refine qj c1 (qJ ?_);by_cases c3:kd=3
 ·rw[iJ c3]at hA;subst hA;refine qk c3 (qX ?_);refine qK (qQ ?_);refine qy H1 (b:=a) .here ⟨rfl,rfl⟩ (by simp[xi]) λh2 H2=>?_;have H2:HS g h2 (qw a (xi { y with cS:=true } { q with gv:=gv })::cC q.vb y.ap q.rv q.bv gv::ag q.vb y.v::cu q.db y.r::R):=H2;refine qG (Oz (x:={ y with cS:=true }) (q:={ q with gv:=gv }) omQ fw (H2.sub (.cons .here (.cons e_2 .refl)))) ?_;rintro _ h3 ⟨b,H3⟩;refine hj _ _ (aK.I (q:={ q with gv:=gv,iv:=.iface 152 (.ptr b 0),ev:=.ptr b 0 }) ?_);have H4:=aT.uJ (st:=5) (f:=y.f) (fv:=q.fv) (c:=y.c) (cv:=q.cv) (.inr rfl) rq ⟨mj,rfl,rfl⟩ H3;exact H4.sub (.cons e_1 (.cons e_2 (.cons e_2 (.cons e_1 (.cons .here .refl)))))
 rw[iQ c3]at hA;refine qj c3 (qJ ?_);have gone:∀{fin err:Int} {h2:AH},HS g h2 (qw a (xi (zh y fin err (-1)) { q with gv:=gv })::cC q.vb y.ap q.rv q.bv gv::ag q.vb y.v::cu q.db y.r::R)→HS g h2 (aK a (zh y fin err (-1))::R):=λ{fin err h2} H2=>by
  refine aK.I (q:={ q with gv:=gv }) ?_;have H3:=aT.AW (st:=7) (f:=y.f) (e:=y.e) (c:=y.c) (iv:=q.iv) (fv:=q.fv) (ev:=q.ev) (cv:=q.cv) od rq mj H2;exact H3.sub (.cons e_1 (.cons e_1 (.cons e_1 (.cons e_1 (.cons .here .refl)))))
 by_cases c4:kd=4
 ·rw[iJ c4]at hA;subst hA;refine qk c4 (qX ?_);refine qG (JN omQ H1) λ_ h2 H2=>?_;exact hj _ _ (gone H2)
 rw[iQ c4]at hA;refine qj c4 (qJ ?_);refine qK (qQ (qZ H1 (b:=a) .here rfl ?_));refine qG (OR omQ (H1.aM (P:=ag q.vb y.v) e_2) D.aH.ok) λv h2 H2=>?_;have EQ:=V5 D.aH.ok;refine jQ H2 .here ?_;by_cases c5:jz y.v.lv=[]
 ·rw[iJ c5]at hA;subst hA;refine qk (by grind) (qX ?_);refine qG (JN omQ (H2.sub (.cons e_2 (.cons e_2 (.cons e_1 (.cons e_1 (.drop .refl))))))) λ_ h3 H3=>?_;exact qW (gone H3)
 ·rw[iQ c5]at hA;have oS:0<(jz y.v.lv).length:=List.length_pos_iff.2 c5;refine qj omQ (qJ ?_);refine qY ?_
  try dsimp only
  refine qK (qQ (qZ H2 (b:=a) e_2 rfl ?_));refine qK (qQ (qu (qZ H2 (b:=a) e_2 rfl ?_)));refine qK (qQ (qZ H2 (b:=a) e_2 rfl ?_));refine qK (qQ (qZ H2 (b:=a) e_2 rfl ?_));refine qG (RV omQ omQ (H2.aM (P:=cu q.db y.r) e_4)) λv2 h3 H3=>?_;refine qK (qQ (qu (qu (qZ H3 (b:=a) e_4 rfl ?_))));refine qK (qQ (qu (qu (qZ H3 (b:=a) e_4 rfl ?_))));refine qG (qy3 (me:=y.me) (sp:=y.set.ay) (st:=y.aa) (a:=y.set.ae) (w:=y.set.wide) (r:=y.r) (cs:=jz y.v.lv) omQ omQ oS omQ (λc h=>by grind) (H3.sub (.cons .here (.cons e_1 .refl)))) ?_;rintro _ h4 ⟨b,rfl,H4⟩;refine qK (qQ ?_);refine qy H4 (b:=a) e_3 (x:=.ptr b 0) ⟨rfl,rfl⟩ (by simp[xi]) λh5 H5=>?_;refine qh H2 e_2 rfl H3 e_4 rfl (HS.lt H2 e_2) ?_;refine qh H2 e_2 rfl H3 e_4 rfl (HS.lt H2 e_2) ?_;refine qh H2 e_2 rfl H3 e_4 rfl (HS.lt H2 e_2) ?_;refine qh H2 e_2 rfl H3 e_4 rfl (HS.lt H2 e_2) ?_;refine qh H2 e_2 rfl H3 e_4 rfl (HS.lt H2 e_2) ?_;have H6:HS g h5 (qw a (xi { y with c:=some (Xu y.me y.set.ay y.aa y.r (jz y.v.lv) y.set.ae y.set.wide) } { q with gv:=gv,cv:=.ptr b 0 })::aD b (Xu y.me y.set.ay y.aa y.r (jz y.v.lv) y.set.ae y.set.wide)::cu q.db y.r::ag q.vb y.v::cC q.vb y.ap q.rv q.bv gv::R):=H5;refine qK (qQ (qZ H6 (b:=a) .here rfl ?_));refine qG (Uc omQ H6) λ_ h6 H7=>?_;subst hA;refine hj _ _ (aK.I (q:={ q with gv:=gv,cv:=.ptr b 0,iv:=.iface 153 (.ptr b 0) }) ?_);have H8:=aT.sM (st:=6) (f:=y.f) (e:=y.e) (fv:=q.fv) (ev:=q.ev) rfl ⟨rfl,λ_=>rfl⟩ (H7.aM e_1);exact H8.sub (.cons e_1 (.cons e_3 (.cons e_2 (.cons e_1 (.cons .here .refl)))))
theorem qjP (r:List zm) (x:zm):(vw r x).1=0∨(vw r x).2=r:=by
 unfold vw
 grind
theorem qJi (hn:20≤n) (B:QR x) (hj:aX True x.v x.ap) (hw:0≤x.f.word∧x.f.word<18446744073709551616) (hc:x.c=none) {b:Nat} (hq:q.cv=.aU∧q.fv=.ptr b 0) (H:HS g h (qw a (xi x q)::cC q.vb x.ap q.rv q.bv q.gv::ag q.vb x.v::cu q.db x.r::qw b (kI x.f)::R)) :
  aE n 132 [.ptr a 0] h λ_ h'=>HS g h' (aK a (jh x)::R):=by
 refine aF (S:=S132) rfl omQ λk hk=>?_;unfold S132;try simp only[iZ]
 generalize hA:jh x=A;unfold jh at hA;refine qK (qQ (qZ H (b:=a) .here (x:=.ptr b 0) (by rw[← hq.2];rfl) ?_));refine qG (Vv omQ H (s:=e_4)) ?_;rintro _ _ ⟨rfl,rfl⟩;by_cases c6:x.f.p.fin=6
 ·rw[iJ c6]at hA;subst hA;refine qk c6 (qX ?_);refine qG (Oz (q:=q) omQ B.r (H.sub (.cons .here (.cons e_2 .refl)))) ?_;rintro _ h3 ⟨b',H3⟩;refine qW (aK.I (q:={ q with iv:=.iface 152 (.ptr b' 0),ev:=.ptr b' 0 }) ?_);have H4:=aT.uJ (st:=4) (f:=x.f) (fv:=q.fv) (c:=x.c) (cv:=q.cv) (.inl rfl) hc ⟨hq.1,rfl,rfl⟩ H3;exact H4.sub (.cons e_1 (.cons e_2 (.cons e_2 (.cons e_1 (.cons .here (.drop .refl))))))
 rw[iQ c6]at hA;refine qj c6 (qJ ?_);refine qY ?_
 try dsimp only
 refine qK (qQ (qZ H (b:=a) .here rfl ?_));refine qK (qQ (qZ H (b:=a) .here (x:=.ptr b 0) (by rw[← hq.2];rfl) ?_));refine qG (qx2 omQ H e_4) ?_;rintro _ h1 ⟨rfl,H1⟩;refine qG (jJs (x:=xE x.f) omQ B.r (H1.aM (P:=cu q.db x.r) e_3)) ?_;rintro _ h2 ⟨rfl,H2⟩;refine qh H .here rfl H1 .here rfl (HS.lt H .here) ?_;refine zb [] (λ_ h'=>HS g h' (aK a A::R)) (λj pO=>?_) λ_ h' H'=>qx (qW H');have hx:=Xj hw;by_cases c0:(vw x.r (xE x.f)).1=0
 ·rw[iJ c0]at hA;subst hA;refine qk c0 (qX ?_);refine qY ?_
  try dsimp only
  refine qK (qQ (qZ H2 (b:=a) e_1 rfl ?_));refine qK (qQ (qZ H2 (b:=a) e_1 rfl ?_));refine qG (NC omQ (H2.aM (P:=ag q.vb x.v) e_3)) ?_;rintro _ _ ⟨rfl,rfl⟩;refine qK (qQ (qZ H2 (b:=a) e_1 (x:=.ptr b 0) (by rw[← hq.2];rfl) ?_));refine qG (qk3 omQ H2 e_4) ?_;rintro _ _ ⟨rfl,rfl⟩;refine qG (qgB (p:=x.v.aB) (x:=xm x.f) omQ (H2.aM (P:=ag q.vb x.v) e_3) B.aH.ok) ?_;rintro _ h3 ⟨rfl,H3⟩;refine qh H2 e_1 (x:=.ptr b 0) (by rw[← hq.2];rfl) H2 e_1 (by rw[← hq.2];rfl) (HS.lt H2 e_1) ?_;refine qh H2 e_1 rfl H2 e_1 rfl (HS.lt H2 e_1) ?_;refine qh H2 e_1 rfl H2 e_1 rfl (HS.lt H2 e_1) ?_;refine qG (qXA (x:={ x with r:=(vw x.r (xE x.f)).2,v:=(xc x.v x.v.aB (xm x.f)).2 }) (q:=q) (R:=R) omQ ?_ (hj.hX hx) hc hq.1 (H3.sub (.cons e_2 (.cons e_2 (.cons .here (.cons .here (.drop .refl))))))) λ_ h4 H4=>pO _ _ H4;exact⟨B.set,Qo B.aH hx,by show((xc x.v x.v.aB (xm x.f)).2.sz:Int)=x.set.words;rw[wV.2];exact B.sz,by show bO (xc x.v x.v.aB (xm x.f)).2.lv<9000;rw[wV.1];exact B.fr,XY B.r,(hj.hX hx).same λh=>h.elim,B.c⟩
 rw[iQ c0]at hA;refine qj c0 (qJ ?_);have rQ:(vw x.r (xE x.f)).2=x.r:=(qjP x.r (xE x.f)).resolve_left c0;rw[rQ]at H2;have gone:∀{fin err:Int} {h2:AH},HS g h2 (qw a (xi (zh x fin err (-1)) q)::cu q.db x.r::cC q.vb x.ap q.rv q.bv q.gv::ag q.vb x.v::qw b (kI x.f)::R)→HS g h2 (aK a (zh x fin err (-1))::R):=λ{fin err h2} H2=>by
  refine aK.I (q:=q) ?_;have H3:=aT.AW (st:=7) (f:=x.f) (e:=x.e) (c:=x.c) (iv:=q.iv) (fv:=q.fv) (ev:=q.ev) (cv:=q.cv) od hc hq.1 H2;exact H3.sub (.cons e_1 (.cons e_2 (.cons e_2 (.cons e_1 (.cons .here (.drop .refl))))))
 by_cases IY:(vw x.r (xE x.f)).1=14
 ·rw[iJ IY]at hA;subst hA;refine qk IY (qX ?_);refine qG (JN omQ (H2.aM e_1)) λ_ h3 H3=>?_;exact pO _ _ (gone H3)
 ·rw[iQ IY]at hA;subst hA;refine qj IY (qJ ?_);refine qG (JN omQ (H2.aM e_1)) λ_ h3 H3=>?_;exact pO _ _ (gone H3)
theorem Ji (hn:4≤n) (_:∀c,x.c=some c→xA c) (H:HS g h (aK a x::R)):aE n 56 [.ptr a 0] h λr h'=>r=.bool (qM x)∧HS g h' (aK a x::R):=by
 refine aF (S:=S56) rfl omQ λk hk=>?_;unfold S56;try simp only[iZ]
 obtain⟨q,H1⟩:=aK.E H;refine qK (qQ (qZ H1 (b:=a) .here rfl ?_));unfold qM;by_cases c8:x.state=8
 ·rw[iV (λh=>h c8),Bool.false_and];refine jI c8 ?_;refine qY ?_;(try dsimp only);refine qb ?_;(try dsimp only);refine qI (qY ?_);(try dsimp only);refine qb ?_;(try dsimp only);refine qY ?_;(try dsimp only);refine xJ ?_;(try dsimp only);refine qY ?_;(try dsimp only);refine qb ?_;(try dsimp only);refine qI ?_
  exact qW ⟨rfl,H⟩
 rw[iG (show x.state≠8 from c8),Bool.true_and];refine jH c8 ?_;cases hc:x.c with
 |none=>
  obtain⟨e,H2⟩:=aT.FY hc (H1.aM e_4);refine qY ?_;(try dsimp only);refine qd ?_;(try dsimp only);refine qK (qQ (qZ ‹_› .here rfl ?_))
  rw[e];refine qJI (qE (qY ?_));(try dsimp only);refine qb ?_;(try dsimp only);refine qY ?_;(try dsimp only);refine xJ ?_;(try dsimp only);refine qY ?_;(try dsimp only);refine qb ?_;(try dsimp only);refine qI ?_
  exact qW ⟨rfl,H⟩
 |some c=>
  obtain⟨b,e,H2⟩:=aT.nF hc (H1.aM e_4);refine qY ?_;(try dsimp only);refine qd ?_;(try dsimp only);refine qK (qQ (qZ ‹_› e_1 rfl ?_))
  rw[e.1];refine Z4 (qE (qY ?_));(try dsimp only);refine qd ?_;(try dsimp only);refine qK (qQ (qZ ‹_› e_1 rfl ?_))
  rw[e.1];refine qG (qZM omQ H2) ?_;rintro _ _ ⟨rfl,rfl⟩;cases hw:QZ c with
  |true=>
   refine qY ?_;(try dsimp only);refine jC ?_;(try dsimp only);refine qY ?_;(try dsimp only);refine qd ?_;(try dsimp only);refine qE (qE ?_)
   exact qW ⟨rfl,H⟩
  |false=>
   refine qY ?_;(try dsimp only);refine qo ?_;(try dsimp only);refine qK (qQ (qZ ‹_› e_1 rfl ?_))
   rw[e.1];refine qG (VA omQ H2) ?_;rintro _ _ ⟨rfl,rfl⟩;by_cases c2:c.p.fin=2
   ·refine qk c2 ?_;rw[iG c2];refine qY ?_;(try dsimp only);refine qd ?_;(try dsimp only);refine qI (qE ?_)
    exact qW ⟨rfl,H⟩
   ·refine qj c2 ?_;rw[iV c2];refine qY ?_;(try dsimp only);refine qd ?_;(try dsimp only);refine qI (qE ?_)
    exact qW ⟨rfl,H⟩
theorem qzI (hn:22≤n) (O:zH x) (h3:3≤x.state) (h6:x.state≤6) (H:HS g h (aK a x::R)):aE n 105 [.ptr a 0] h λ_ h'=>HS g h' (aK a (jF x)::R):=by
 refine aF (S:=S105) rfl omQ λk hk=>?_;unfold S105;try simp only[iZ]
 obtain⟨q,H1⟩:=aK.E H;clear H;generalize hA:jF x=A;unfold jF at hA;refine qK (qQ (qZ H1 (b:=a) .here rfl ?_));refine zb [] (λ_ h'=>HS g h' (aK a A::R)) (λj hj=>?_) λ_ h' H'=>qx (qW H');by_cases c3:x.state=3
 ·rw[iJ c3]at hA;subst hA;refine qk c3 (qX ?_);obtain⟨b,e,H2⟩:=aT.sL c3 (O.c0 omQ) (H1.aM e_4);refine qG (qJi (q:=q) (R:=R) omQ O.b (O.ap.same λ_=>by omega) (O.f c3).2 (O.c0 omQ) ⟨e.1,e.2.1⟩ (H2.sub (.cons e_1 (.cons e_1 (.cons e_1 (.cons e_1 (.cons .here .refl))))))) λ_ h3 H3=>hj _ _ H3
 rw[iQ c3]at hA;refine qj c3 (qJ ?_);by_cases c4:x.state=4
 ·rw[iJ c4]at hA;subst hA;refine qk c4 (qX ?_);have hnd:=O.aB omQ omQ;have mi:=O.aH.ok.hi;obtain⟨b,e,H2⟩:=aT.pT (.inl c4) (O.c0 omQ) (H1.aM e_4);obtain⟨sv,H3⟩:=cw.E H2;refine qK (qQ (qZ H1 (b:=a) .here (x:=.ptr b 0) (by rw[← e.2.1];rfl) ?_));refine qG (OZ omQ H3 .here) ?_;rintro _ _ ⟨rfl,rfl⟩;refine qK (qQ ?_);refine qy H2 (b:=a) e_1 ⟨rfl,rfl⟩ (by simp[xi]) λh4 H4=>?_;have H4:HS g h4 (qw a (xi { x with aa:=yC x.e } q)::cw b x.e::cC q.vb x.ap q.rv q.bv q.gv::ag q.vb x.v::cu q.db x.r::R):=H4;refine qK (qQ (qZ H4 (b:=a) .here rfl ?_));refine qG (NC omQ (H4.aM (P:=ag q.vb x.v) e_3)) ?_;rintro _ _ ⟨rfl,rfl⟩;refine qG (qGs omQ omQ H4) ?_;rintro _ h5 ⟨b',H5⟩;refine hj _ _ (aK.I (q:={ q with iv:=.iface 151 (.ptr b' 0),fv:=.ptr b' 0 }) ?_);have H6:=aT.uI (st:=3) (e:=x.e) (ev:=q.ev) (c:=x.c) (cv:=q.cv) rfl (O.c0 omQ) ⟨e.1,rfl,rfl⟩ H5;exact H6.sub (.cons e_1 (.cons e_2 (.cons e_2 (.cons e_2 (.cons .here (.drop .refl))))))
 rw[iQ c4]at hA;refine qj c4 (qJ ?_);by_cases c5:x.state=5
 ·rw[iJ c5]at hA;subst hA;refine qk c5 (qX ?_);obtain⟨b,e,H2⟩:=aT.pT (.inr c5) (O.c0 omQ) (H1.aM e_4);obtain⟨sv,H3⟩:=cw.E H2;refine qK (qQ (qZ H1 (b:=a) .here (x:=.ptr b 0) (by rw[← e.2.1];rfl) ?_));refine qG (OZ omQ H3 .here) ?_;rintro _ _ ⟨rfl,rfl⟩;refine qK (qQ ?_);refine qy H2 (b:=a) e_1 ⟨rfl,rfl⟩ (by simp[xi]) λh4 H4=>?_;have H4:HS g h4 (qw a (xi { x with aa:=yC x.e } q)::cw b x.e::cC q.vb x.ap q.rv q.bv q.gv::ag q.vb x.v::cu q.db x.r::R):=H4;refine qG (JN omQ H4) λ_ h5 H5=>?_;refine hj _ _ (aK.I (q:=q) ?_);have H6:=aT.AW (st:=7) (f:=x.f) (e:=x.e) (c:=x.c) (iv:=q.iv) (fv:=q.fv) (ev:=q.ev) (cv:=q.cv) od (O.c0 omQ) e.1 H5;exact H6.sub (.cons e_1 (.cons e_2 (.cons e_2 (.cons e_2 (.cons .here (.drop .refl))))))
 rw[iQ c5]at hA;refine qj c5 (qJ ?_);have c6:x.state=6:=by omega
 refine qk c6 (qX ?_)
 split at hA
 ·rename_i c hc;subst hA;obtain⟨b,e,H2⟩:=aT.nF hc (H1.aM e_4);refine qY ?_
  try dsimp only
  refine qK (qQ (qZ H1 (b:=a) .here (x:=.ptr b 0) (by rw[← e.1];rfl) ?_));refine qG (VA omQ H2) ?_;rintro _ _ ⟨rfl,rfl⟩;refine qK (qQ (qZ H1 (b:=a) .here (x:=.ptr b 0) (by rw[← e.1];rfl) ?_));refine qG (qyd omQ H2) ?_;rintro _ _ ⟨rfl,rfl⟩;refine qG (JN omQ (H2.aM e_1)) λ_ h5 H5=>?_;refine qh H1 .here (x:=.ptr b 0) (by rw[← e.1];rfl) H1 .here (by rw[← e.1];rfl) (HS.lt H1 .here) ?_;refine hj _ _ (aK.I (q:=q) ?_);have H6:=aT.sM (st:=7) (f:=x.f) (e:=x.e) (iv:=q.iv) (fv:=q.fv) (ev:=q.ev) (b:=b) hc ⟨e.1,λh=>by grind⟩ (H5.aM (P:=aD b c) e_1);exact H6.sub (.cons e_1 (.cons e_1 (.cons e_1 (.cons e_1 (.cons .here .refl)))))
 ·rename_i hc;exact absurd hc (O.c6 c6)
end
end
section
variable {g h:AH} {L R:List SP}
section
variable {n a:Nat} {x:qr} {q:AU}
theorem aT.out {st st':Int} {f:Qg} {e:kc} {c:Option jw} {iv fv ev cv:AV} (h7:st'=7∨st'=8) (H:HS g h (aT st f e c iv fv ev cv::R)):HS g h (aT st' f e c iv fv ev cv::R):=by
 cases c with
 |none=>obtain⟨q,H⟩:=aT.FY rfl H;exact aT.AW omQ rfl q H
 |some d=>obtain⟨b,q,H⟩:=aT.nF rfl H;exact aT.sM rfl ⟨q.1,λh=>by omega⟩ H
theorem MG (hn:24≤n) (O:zH x) (h3:3≤x.state) (h6:x.state≤6) (H:HS g h (aK a x::R)):aE n 73 [.ptr a 0] h λ_ h'=>HS g h' (aK a (jZ x)::R):=by
 (refine qA (g:=W73) rfl omQ λk hk=>?_;show wp (S73 (callT tab qz k) _ _) _;unfold S73;try simp only[iI,iZ])
 obtain⟨q,H1⟩:=aK.E H;have fin:∀{K2:AV→AH→Go.Ae.R} {Q:AV→AH→Prop},wp (K2 (.int .i64 (zA x).1) h) Q→wp (vB (callT tab qz k) [(103,49),(151,160),(152,165),(153,87),(215,114)] q.iv [] h K2) Q:=λ{K2 Q} w=>by
  unfold zA at w;by_cases c3:x.state=3
  ·rw[iJ c3]at w;obtain⟨b,e,H2⟩:=aT.sL c3 (O.c0 omQ) (H1.aM e_4);rw[e.2.2];refine QS rfl (Vv omQ H2 .here) ?_;rintro _ _ ⟨rfl,rfl⟩;exact w
  ·rw[iQ c3]at w;by_cases c6:x.state=6
   ·rw[iJ c6]at w
    split at w
    ·rename_i c hc;obtain⟨b,e,H2⟩:=aT.nF hc (H1.aM e_4);rw[e.2 c6];refine QS rfl (VA omQ H2) ?_;rintro _ _ ⟨rfl,rfl⟩;exact w
    ·rename_i hc;exact absurd hc (O.c6 c6)
   ·rw[iQ c6]at w;obtain⟨b,e,H2⟩:=aT.pT omQ (O.c0 omQ) (H1.aM e_4);obtain⟨sv,H3⟩:=cw.E H2;rw[e.2.2];refine QS rfl (qWI omQ H3 .here) ?_;rintro _ _ ⟨rfl,rfl⟩;exact w
 have dj:∀{K2:AV→AH→Go.Ae.R} {Q:AV→AH→Prop},wp (K2 (.int .i64 (zA x).2) h) Q→wp (vB (callT tab qz k) [(103,74),(151,352),(152,360),(153,363),(215,355)] q.iv [] h K2) Q:=λ{K2 Q} w=>by
  unfold zA at w;by_cases c3:x.state=3
  ·rw[iJ c3]at w;obtain⟨b,e,H2⟩:=aT.sL c3 (O.c0 omQ) (H1.aM e_4);rw[e.2.2];refine QS rfl (jKN omQ H2 .here) ?_;rintro _ _ ⟨rfl,rfl⟩;exact w
  ·rw[iQ c3]at w;by_cases c6:x.state=6
   ·rw[iJ c6]at w
    split at w
    ·rename_i c hc;obtain⟨b,e,H2⟩:=aT.nF hc (H1.aM e_4);rw[e.2 c6];refine QS rfl (jK5 omQ H2) ?_;rintro _ _ ⟨rfl,rfl⟩;exact w
    ·rename_i hc;exact absurd hc (O.c6 c6)
   ·rw[iQ c6]at w;obtain⟨b,e,H2⟩:=aT.pT omQ (O.c0 omQ) (H1.aM e_4);obtain⟨sv,H3⟩:=cw.E H2;rw[e.2.2];refine QS rfl (jKo omQ H3 .here) ?_;rintro _ _ ⟨rfl,rfl⟩;exact w
 refine qK (qQ (qZ H1 (b:=a) .here rfl (fin ?_)));have OL:=Zy O h3 h6;show wp _ λ_ h'=>HS g h' (aK a (q9 (vt x))::R);refine zb [] (λs h'=>s=(.ptr a 0,())∧HS g h' (aK a (vt x)::R)) (λj hj=>?_) ?_
 rotate_left
 ·rintro _ h2 ⟨rfl,H2⟩;dsimp only;refine qG (Ji omQ OL.c H2) ?_;rintro _ h3 ⟨rfl,H3⟩;unfold q9;cases hw:qM (vt x)with
  |false=>exact qJ (qx (qW H3))
  |true=>
   refine qX ?_;have lZ:∃c,(vt x).c=some c:=by
    unfold qM at hw;grind
   obtain⟨c,hc⟩:=lZ;obtain⟨q2,H4⟩:=aK.E H3;obtain⟨b,e,H5⟩:=aT.nF hc (H4.aM e_4);refine qK (qQ (qZ H4 (b:=a) .here (x:=.ptr b 0) (by rw[← e.1];rfl) ?_));refine qG (qqh omQ (OL.c c hc).now H5) ?_;rintro _ _ ⟨rfl,rfl⟩;refine qK (qQ ?_);refine qy H4 (b:=a) .here ⟨rfl,rfl⟩ (by simp[xi]) λh5 H6=>qx (qW ?_);rw[iJ rfl];have H7:HS g h5 (qw a (xi { vt x with aa:=kE c } q2)::cC q2.vb (vt x).ap q2.rv q2.bv q2.gv::ag q2.vb (vt x).v::cu q2.db (vt x).r::aT (vt x).state (vt x).f (vt x).e (vt x).c q2.iv q2.fv q2.ev q2.cv::R):=H6;grind[aK.I]
 generalize hL:vt x=Y at*;unfold vt at hL;by_cases c0:(zA x).1=0
 ·rw[iJ c0]at hL;subst hL;exact qk c0 (qX (hj _ _ ⟨rfl,H⟩))
 rw[iQ c0]at hL;refine qj c0 (qJ ?_);by_cases c5:(zA x).1=5
 ·rw[iJ c5]at hL;subst hL;refine qk c5 (qX ?_);refine qK (qQ (qZ H1 (b:=a) .here rfl (dj ?_)));refine qG (JN omQ H1) λ_ h2 H2=>hj _ _ ⟨rfl,aK.I (q:=q) ?_⟩;have H3:=aT.out (st':=7) (.inl rfl) (H2.aM e_4);exact H3.sub (.cons e_1 (.cons e_1 (.cons e_1 (.cons e_1 (.cons .here .refl)))))
 ·rw[iQ c5]at hL;subst hL;refine qj c5 (qJ ?_);exact qG (qzI omQ O h3 h6 H) λ_ h2 H2=>hj _ _ ⟨rfl,H2⟩
theorem qgt {an:cx} (hn:26≤n) (O:zH x) (ha:vz an) (H:HS g h (aK a x::R)):aE n 48 [.ptr a 0,.agg (xf an)] h λ_ h'=>HS g h' (aK a (qS x an)::R):=by
 (refine qA (g:=W48) rfl omQ λk hk=>?_;show wp (S48 (callT tab qz k) _ _ _) _;unfold S48;try simp only[iI,iZ])
 have bZ:=O.st;obtain⟨q,H0⟩:=aK.E H;refine qP H0 rfl λb0 h1 H1=>?_;have H1:HS g h1 (qw b0 (xf an)::Ci a x q R):=H1;clear H H0;generalize hA:qS x an=A;unfold qS at hA;refine qK (qQ (qZ H1 (b:=a) e_1 rfl ?_));by_cases c8:x.state=8
 ·rw[iJ c8]at hA;subst hA;exact qk c8 (qX (qW (aK.I (q:=q) H1.drop)))
 rw[iQ c8]at hA;refine qj c8 (qJ ?_);refine qQ (qZ H1 (b:=b0) .here (x:=.int .i64 an.err) rfl ?_);by_cases ce:an.err=0
 rotate_left
 ·rw[iJ ce]at hA;subst hA;refine jH ce (qX ?_);refine qQ (qZ H1 (b:=b0) .here (x:=.int .i64 an.err) rfl ?_);refine qG (JN omQ (H1.aM e_1)) λ_ h2 H2=>?_;refine qK (qQ ?_);refine qy H2 (b:=a) .here ⟨rfl,rfl⟩ (by simp[xi]) λh3 H3=>qW (aK.I (q:=q) ?_);have H4:=aT.out (st':=8) (.inr rfl) (H3.aM e_5);exact H4.sub (.cons e_1 (.cons e_2 (.cons e_2 (.cons e_2 (.cons .here (.drop .refl))))))
 rw[iQ (λh=>h ce)]at hA;refine jI ce (qJ ?_);refine qK (qQ (qZ H1 (b:=a) e_1 rfl ?_));refine zb [] (λ_ h'=>HS g h' (aK a A::R)) (λj hj=>?_) λ_ h' H'=>qx (qW H');by_cases c0:x.state=0
 ·rw[iJ c0]at hA;subst hA;refine qk c0 (qX ?_);refine qK (qQ ?_);refine qy H1 (b:=a) e_1 ⟨rfl,rfl⟩ (by simp[xi]) λh2 H2=>hj _ _ (aK.I (q:=q) ?_);obtain⟨e,H3⟩:=aT.FY (O.c0 omQ) (H2.aM e_5);have H4:=aT.AW (st:=1) (f:=x.f) (e:=x.e) (c:=x.c) (iv:=q.iv) (fv:=q.fv) (ev:=q.ev) od (O.c0 omQ) e H3;exact H4.sub (.cons e_1 (.cons e_2 (.cons e_2 (.cons e_2 (.cons .here (.drop .refl))))))
 rw[iQ c0]at hA;refine qj c0 (qJ ?_);by_cases c1:x.state=1
 ·rw[iJ c1]at hA;subst hA;refine qk c1 (qX ?_);refine qY ?_
  try dsimp only
  refine qQ (qZ H1 (b:=b0) .here (x:=.int .u64 an.word) rfl ?_);refine qQ (qZ H1 (b:=b0) .here (x:=.int .u64 an.word) rfl ?_);refine qK (qQ ?_);refine qy H1 (b:=a) e_1 ⟨rfl,rfl⟩ (by simp[xi]) λh2 H2=>?_;refine qK (qQ ?_);refine qy H2 (b:=a) .here ⟨rfl,rfl⟩ (by simp[xi]) λh3 H3=>?_;refine qK (qQ ?_);refine qy H3 (b:=a) .here ⟨rfl,rfl⟩ (by simp[xi]) λh4 H4=>?_;refine qh H2 e_1 rfl H3 e_1 rfl (HS.lt H1 .here) ?_;refine qh H1 .here rfl H2 e_1 rfl (HS.lt H1 .here) ?_;refine qh H1 .here rfl H2 e_1 rfl (HS.lt H1 .here) ?_;refine qK (qQ ?_);refine qy H4 (b:=a) .here ⟨rfl,rfl⟩ (by simp[xi]) λh5 H5=>hj _ _ (aK.I (q:=q) ?_);obtain⟨e,H6⟩:=aT.FY (O.c0 omQ) (H5.aM e_5);have H7:=aT.AW (st:=2) (f:=x.f) (e:=x.e) (c:=x.c) (iv:=q.iv) (fv:=q.fv) (ev:=q.ev) od (O.c0 omQ) e H6;exact H7.sub (.cons e_1 (.cons e_2 (.cons e_2 (.cons e_2 (.cons .here (.drop .refl))))))
 rw[iQ c1]at hA;refine qj c1 (qJ ?_);by_cases c2:x.state=2
 ·rw[iJ c2]at hA;subst hA;refine qk c2 (qX ?_);obtain⟨e,H3⟩:=aT.FY (O.c0 omQ) (H1.aM e_5);exact qG (qXA (q:=q) (R:=R) omQ O.b (O.ap.same λ_=>by omega) (O.c0 omQ) e (H3.sub (.cons e_1 (.cons e_1 (.cons e_1 (.cons e_1 (.drop .refl))))))) λ_ h4 H4=>hj _ _ H4
 rw[iQ c2]at hA;refine qj c2 (qJ ?_);by_cases c7:x.state=7
 ·rw[iJ c7]at hA;subst hA;refine qk c7 (qX ?_);refine qK (qQ ?_);refine qy H1 (b:=a) e_1 ⟨rfl,rfl⟩ (by simp[xi]) λh2 H2=>hj _ _ (aK.I (q:=q) ?_);have H3:=aT.out (st':=8) (.inr rfl) (H2.aM e_5);exact H3.sub (.cons e_1 (.cons e_2 (.cons e_2 (.cons e_2 (.cons .here (.drop .refl))))))
 rw[iQ c7]at hA;refine qj c7 (qJ ?_);refine qK (qQ (qZ H1 (b:=a) e_1 rfl ?_));refine qF H1 (b:=b0) (off:=0) .here rfl omQ (l:=xf an) rfl ?_;have Dr:∀{y:qr},y.state=x.state→3≤y.state∧y.state≤6:=λh=>by omega
 by_cases c3:x.state=3
 ·rw[iJ c3]at hA;subst hA;obtain⟨b,e,H2⟩:=aT.sL c3 (O.c0 omQ) (H1.aM e_5);rw[e.2.2];refine QS rfl (qkL (a:=an) omQ (O.f c3).1 H2) λ_ h3 H3=>?_;have H4:=aT.uI (st:=x.state) (e:=x.e) (ev:=q.ev) c3 (O.c0 omQ) e H3;have O':zH { x with f:=jE x.f an }:=⟨O.set,O.aH,O.sz,O.fr,O.r,O.ap,O.st,λh=>⟨G5 (O.f h).1,Q3 (O.f h).2 ha⟩,O.aB,O.e,O.c,O.c0,O.c6⟩;exact qG (MG (x:={ x with f:=jE x.f an }) omQ O' (Dr rfl).1 (Dr rfl).2 (aK.I (q:=q) (H4.sub (.cons e_2 (.cons e_2 (.cons e_2 (.cons e_2 (.cons .here (.drop .refl))))))))) λ_ h5 H5=>hj _ _ H5
 rw[iQ c3]at hA;by_cases c6:x.state=6
 ·rw[iJ c6]at hA;subst hA;cases hc:x.c with
  |none=>exact absurd hc (O.c6 c6)
  |some c=>obtain⟨b,e,H2⟩:=aT.nF hc (H1.aM e_5);rw[e.2 c6];have Oc:=O.c c hc;refine QS rfl (qyF (a:=an) omQ Oc H2) λ_ h3 H3=>?_;have H4:=aT.sM (st:=x.state) (f:=x.f) (e:=x.e) (fv:=q.fv) (ev:=q.ev) (c:=some (qp c an)) rfl e H3;have O':zH { x with c:=some (qp c an) }:=⟨O.set,O.aH,O.sz,O.fr,O.r,O.ap,O.st,O.f,O.aB,O.e,λc' h=>by grind[yL],λh=>absurd h (by grind),λ_ h=>by grind⟩;rw[hc]at hj;exact qG (MG (x:={ x with c:=some (qp c an) }) omQ O' (Dr rfl).1 (Dr rfl).2 (aK.I (q:=q) (H4.sub (.cons e_2 (.cons e_2 (.cons e_2 (.cons e_2 (.cons .here (.drop .refl))))))))) λ_ h5 H5=>hj _ _ H5
 rw[iQ c6]at hA;subst hA;obtain⟨b,e,H2⟩:=aT.pT omQ (O.c0 omQ) (H1.aM e_5);rw[e.2.2];refine QS rfl (qkU (a:=an) omQ (O.e omQ omQ) H2) λ_ h3 H3=>?_;have H4:=aT.uJ (st:=x.state) (f:=x.f) (fv:=q.fv) omQ (O.c0 omQ) e H3;have O':zH { x with e:=je x.e an }:=⟨O.set,O.aH,O.sz,O.fr,O.r,O.ap,O.st,O.f,O.aB,λh1 h2=>KK (O.e h1 h2),O.c,O.c0,O.c6⟩;exact qG (MG (x:={ x with e:=je x.e an }) omQ O' (Dr rfl).1 (Dr rfl).2 (aK.I (q:=q) (H4.sub (.cons e_2 (.cons e_2 (.cons e_2 (.cons e_2 (.cons .here (.drop .refl))))))))) λ_ h5 H5=>hj _ _ H5
theorem qvb (hn:4≤n) (O:zH x) (H:HS g h (aK a x::R)):aE n 45 [.ptr a 0] h λr h'=>r=tK (zT x)∧HS g h' (aK a x::R):=by
 (refine qA (g:=W45) rfl omQ λk hk=>?_;show wp (S45 (callT tab qz k) _ _) _;unfold S45;try simp only[iI,uU,iZ])
 have bZ:=O.st;obtain⟨q,H0⟩:=aK.E H;refine qP H0 rfl λb0 h1 H1=>?_;clear H H0;refine qK (qQ (qZ H1 (b:=a) e_1 rfl ?_));unfold zT;have Cj:∀{o:dC} {h':AH},HS g h' (qw b0 (vZ o)::Ci a x q R)→wp (xH h' (.ptr b0 0) 10 λv=>some (.bV [v,.bool true],h')) λr h'=>r=tK (some o)∧HS g h' (aK a x::R):=λ{o h'} H'=>by
  refine qF H' (b:=b0) (off:=0) .here rfl omQ (l:=vZ o) rfl ?_;exact qW ⟨rfl,aK.I (q:=q) H'.drop⟩
 by_cases c0:x.state=0
 ·rw[iJ c0];refine qk c0 (qX ?_);refine qK (qQ (qZ H1 (b:=a) e_1 rfl ?_));refine qR (l:=vZ (bA 9 x.me 1)) rfl ?_;exact qm H1 (b:=b0) .here rfl (by simp) rfl λh3 H3=>Cj H3
 rw[iQ c0];refine qj c0 (qJ ?_);by_cases c1:x.state=1
 ·rw[iJ c1];refine qk c1 (qX ?_);refine qR (l:=vZ (bA 6 0 0)) rfl ?_;exact qm H1 (b:=b0) .here rfl (by simp) rfl λh3 H3=>Cj H3
 rw[iQ c1];refine qj c1 (qJ ?_);by_cases c2:x.state=2
 ·rw[iJ c2];refine qk c2 (qX ?_);refine qK (qQ (qZ H1 (b:=a) e_1 rfl ?_));refine qK (qQ (qZ H1 (b:=a) e_1 rfl ?_));refine NP (qR (l:=vZ (bA 9 x.me (jR .u64 (x.aa+1)))) rfl ?_);exact qm H1 (b:=b0) .here rfl (by simp) rfl λh3 H3=>Cj H3
 rw[iQ c2];refine qj c2 (qJ ?_);by_cases c7:x.state=7
 ·rw[iJ c7];refine qk c7 (qX ?_);refine qK (qQ (qZ H1 (b:=a) e_1 rfl ?_));refine qR (l:=vZ (bA 9 x.me 0)) rfl ?_;exact qm H1 (b:=b0) .here rfl (by simp) rfl λh3 H3=>Cj H3
 rw[iQ c7];refine qj c7 (qJ ?_);by_cases c8:x.state=8
 ·rw[iJ c8];refine qk c8 (qX ?_);refine qR (l:=vZ (bA 0 0 0)) rfl ?_;refine qm H1 (b:=b0) .here rfl (by simp) rfl λh3 H3=>?_;refine qF H3 (b:=b0) (off:=0) .here rfl omQ (l:=vZ (bA 0 0 0)) rfl ?_;exact qW ⟨rfl,aK.I (q:=q) H3.drop⟩
 rw[iQ c8];refine qj c8 (qJ ?_);refine qK (qQ (qZ H1 (b:=a) e_1 rfl ?_));have Sf:∀{o:Option dC} {h':AH},HS g h' (qw b0 (vZ (bA 0 0 0))::Ci a x q R)→wp (yY (tK o) 0 λv=>yY (tK o) 1 λv2=>zx h' (.ptr b0 0) v 10 λh2=>xH h2 (.ptr b0 0) 10 λv3=>some (.bV [v3,v2],h2)) λr h'=>r=tK o∧HS g h' (aK a x::R):=λ{o h'} H'=>by
  refine qD rfl (qD rfl ?_);refine qm H' (b:=b0) .here rfl (by trivial) rfl λh3 H3=>?_;refine qF H3 (b:=b0) (off:=0) .here rfl omQ (l:=vZ (o.getD (bA 0 0 0))) rfl ?_;exact qW ⟨rfl,aK.I (q:=q) H3.drop⟩
 by_cases c3:x.state=3
 ·rw[iJ c3];obtain⟨b,e,H2⟩:=aT.sL c3 (O.c0 omQ) (H1.aM e_5);rw[e.2.2];refine QS rfl (qxI omQ H2) ?_;rintro _ h3 ⟨rfl,H3⟩;have H4:=aT.uI (st:=x.state) (e:=x.e) (ev:=q.ev) c3 (O.c0 omQ) e H3;exact Sf (H4.sub (.cons e_1 (.cons e_1 (.cons e_1 (.cons e_1 (.cons e_1 (.cons .here .refl)))))))
 rw[iQ c3];by_cases c6:x.state=6
 ·rw[iJ c6];cases hc:x.c with
  |none=>exact absurd hc (O.c6 c6)
  |some c=>obtain⟨b,e,H2⟩:=aT.nF hc (H1.aM e_5);rw[e.2 c6];refine QS rfl (qxt omQ (O.c c hc) H2) ?_;rintro _ h3 ⟨rfl,H3⟩;have H4:=aT.sM (st:=x.state) (f:=x.f) (e:=x.e) (fv:=q.fv) (ev:=q.ev) hc e H3;exact Sf (H4.sub (.cons e_1 (.cons e_1 (.cons e_1 (.cons e_1 (.cons e_1 (.cons .here .refl)))))))
 rw[iQ c6];obtain⟨b,e,H2⟩:=aT.pT omQ (O.c0 omQ) (H1.aM e_5);rw[e.2.2];refine QS rfl (qxc omQ (O.e omQ omQ) H2) ?_;rintro _ h3 ⟨rfl,H3⟩;have H4:=aT.uJ (st:=x.state) (f:=x.f) (fv:=q.fv) omQ (O.c0 omQ) e H3;exact Sf (H4.sub (.cons e_1 (.cons e_1 (.cons e_1 (.cons e_1 (.cons e_1 (.cons .here .refl)))))))
end
end
section
variable {g h:AH} {L R:List SP}
section
variable {n:Nat} {s S:jD}
abbrev J6 (S:jD):List AV:=[.int .i64 S.words,.int .i64 S.ae,.int .i64 S.wide,.int .i64 S.ad,.int .u64 S.start]
abbrev yA (S:jD):List AV:=[.int .i64 S.words,.int .i64 S.ae,.int .i64 S.wide,.int .i64 S.ad,.int .u64 S.start,.int .i64 S.ay,.int .i64 S.writes,.int .i64 S.fuel]
theorem qJr (hn:1≤n) (H:HS g h R):aE n 35 [.agg (J6 s)] h λr h'=>r=.agg (J6 (jk s))∧HS g h' R:=by
 refine aF (S:=S35) rfl omQ λk hk=>?_;unfold S35;try simp only[iZ]
 refine qP H rfl λb0 h1 H1=>?_;refine qP H1 rfl λb1 h2 H2=>?_;refine qQ (qZ H2 (b:=b0) e_1 rfl (zt (xg ?_)));refine qQ (qZ H2 (b:=b0) e_1 rfl (zt (xg ?_)));refine qQ (qZ H2 (b:=b0) e_1 rfl (zt (xg ?_)));refine qQ (qZ H2 (b:=b0) e_1 rfl (zt (xg ?_)));refine qQ (qZ H2 (b:=b0) e_1 rfl (zt ?_));refine qR (l:=J6 (jk s)) rfl ?_;refine qm H2 (b:=b1) .here rfl (by simp) rfl λh3 H3=>?_;refine qF H3 (b:=b1) (off:=0) .here rfl omQ (l:=J6 (jk s)) rfl ?_;exact qW ⟨rfl,H3.drop.drop⟩
theorem Mu (hn:2≤n) (H:HS g h R):aE n 19 [.agg (yA s)] h λr h'=>r=.agg (yA (jk s))∧HS g h' R:=by
 refine aF (S:=S19) rfl omQ λk hk=>?_;unfold S19;try simp only[iZ]
 refine qP H rfl λb0 h1 H1=>?_;refine qP H1 rfl λb1 h2 H2=>?_;refine qY ?_
 try dsimp only
 refine qQ (qF H2 (b:=b0) (off:=0) e_1 rfl omQ (l:=J6 s) rfl ?_);refine qG (qJr omQ H2) ?_;rintro _ h3 ⟨rfl,H3⟩;refine qQ (qZ H3 (b:=b0) e_1 rfl (zt (xg ?_)));refine qQ (qZ H3 (b:=b0) e_1 rfl (zt (xg ?_)));refine qQ (qZ H3 (b:=b0) e_1 rfl (zt (xg ?_)));refine qR (l:=yA (jk s)) rfl ?_;refine qm H3 (b:=b1) .here rfl (by simp) rfl λh4 H4=>?_;refine qh H2 e_1 rfl H3 e_1 rfl (HS.lt H2 e_1) ?_;refine qh H2 e_1 rfl H3 e_1 rfl (HS.lt H2 e_1) ?_;refine qh H2 e_1 rfl H3 e_1 rfl (HS.lt H2 e_1) ?_;refine qF H4 (b:=b1) (off:=0) .here rfl omQ (l:=yA (jk s)) rfl ?_;exact qW ⟨rfl,H4.drop.drop⟩
theorem jJ2 {w:Int} (hn:1≤n) (hw:32≤w∧w≤256) (H:HS g h R):aE n 36 [.int .i64 w] h λr h'=>∃b v,r=.ptr b 0∧HS g h' (qw b [v]::qB 22 1 w.toNat v ((List.replicate w.toNat (0:Int)).map (.int .u64))::R):=by
 refine aF (S:=S36) rfl omQ λk hk=>?_;unfold S36;try simp only[iZ]
 refine zt (xg ?_);rw[show max ((32:Nat):Int) (min w ((256:Nat):Int))=((w.toNat:Nat):Int) by omega];refine Xv H omQ λv h1 H1=>?_;rw[show List.replicate w.toNat (AV.int .u64 ((0:Nat):Int))=(List.replicate w.toNat (0:Int)).map (.int .u64) by simp]at H1;have o1:=H1.one .here;refine qR (l:=[v]) (by simp only[vj,o1.1];rfl) ?_;refine qP H1 (by simp only[jY,List.all_cons,o1.2];rfl) λb h2 H2=>qW ⟨b,v,rfl,H2⟩
theorem jQH {w:Int} (hn:1≤n) (hw:1≤w∧w≤4) (H:HS g h R):aE n 39 [.int .i64 w] h λr h'=>∃b v,r=.ptr b 0∧HS g h' (qw b [v]::qB 22 1 w.toNat v ((List.replicate w.toNat (0:Int)).map (.int .u64))::R):=by
 refine aF (S:=S39) rfl omQ λk hk=>?_;unfold S39;try simp only[iZ]
 refine zt (xg ?_);rw[show max ((1:Nat):Int) (min w ((4:Nat):Int))=((w.toNat:Nat):Int) by omega];refine Xv H omQ λv h1 H1=>?_;rw[show List.replicate w.toNat (AV.int .u64 ((0:Nat):Int))=(List.replicate w.toNat (0:Int)).map (.int .u64) by simp]at H1;have o1:=H1.one .here;refine qR (l:=[v]) (by simp only[vj,o1.1];rfl) ?_;refine qP H1 (by simp only[jY,List.all_cons,o1.2];rfl) λb h2 H2=>qW ⟨b,v,rfl,H2⟩
theorem qVE:∀k:Nat,gC [AV.int .u64 ((0:Nat):Int),.bool false,.int .i64 ((0:Nat):Int)] k=(List.replicate k bT).flatMap zr:=by
 intro k
 induction k with
 |zero=>rfl
 |succ k ih=>rw[List.replicate_succ,List.flatMap_cons,← ih];rfl
theorem jZ9 {w z:Int} (hn:2≤n) (hw:1≤w∧w≤16) (hz:1≤z∧z≤16) (H:HS g h R):aE n 37 [.int .i64 w,.int .i64 z] h λr h'=>∃b v,r=.ptr b 0∧HS g h' (qw b [v,.int .i64 z]::qB 68 3 w.toNat v ((List.replicate w.toNat bT).flatMap zr)::R):=by
 refine bj (S:=S37) rfl omQ λk hk=>?_;unfold S37;try simp only[iZ]
 refine qG (VS omQ) ?_;rintro _ _ ⟨rfl,rfl⟩;rw[show max 1 (min w ((16:Nat):Int))=((w.toNat:Nat):Int) by omega];refine KI (sz:=3) (ln:=w.toNat) (cp:=w.toNat) H rfl (Nat.le_refl _) omQ λv h1 H1=>?_;rw[List.take_of_length_le (by simp[QF]),qVE]at H1;refine qG (VS omQ) ?_;rintro _ _ ⟨rfl,rfl⟩;rw[show max 1 (min z ((16:Nat):Int))=z by omega];have o1:=H1.one .here;refine qR (l:=[v,.int .i64 z]) (by simp only[vj,o1.1];rfl) ?_;refine qP H1 (by simp only[jY,List.all_cons,o1.2];rfl) λb h2 H2=>qW ⟨b,v,rfl,H2⟩
theorem jQm {w:Int} (hn:1≤n) (hw:w≤4611686018427387903) (H:HS g h R):aE n 38 [.int .u64 w] h λr h'=>∃b,r=.ptr b 0∧HS g h' (qw b [.int .u64 w]::R):=by
 refine aF (S:=S38) rfl omQ λk hk=>?_;unfold S38;try simp only[iZ]
 refine zt ?_;rw[show min w ((4611686018427387903:Nat):Int)=w by omega];refine qR (l:=[.int .u64 w]) rfl ?_;refine qP H rfl λb h2 H2=>qW ⟨b,rfl,H2⟩
theorem jJ6 (hn:4≤n) (hs:0≤s.start) (H:HS g h R):aE n 20 [.agg (J6 s)] h λr h'=>∃p,r=.ptr p 0∧HS g h' (cn p (jk s) (yq (jk s))::R):=by
 refine aF (S:=S20) rfl omQ λk hk=>?_;unfold S20;try simp only[iZ]
 have O:=yr hs;refine qP H rfl λb0 h1 H1=>?_;refine qF H1 (b:=b0) (off:=0) .here rfl omQ (l:=J6 s) rfl ?_;refine qG (qJr omQ H1) ?_;rintro _ h2 ⟨rfl,H2⟩;clear H H1;refine qm H2 (b:=b0) .here rfl (by simp) rfl λh3 H3=>?_;have H3:HS g h3 (qw b0 (J6 (jk s))::R):=H3;generalize jk s=S at*;clear H2;refine qY ?_
 try dsimp only
 refine qF H3 (b:=b0) (off:=0) .here rfl omQ (l:=J6 S) rfl ?_;refine qQ (qZ H3 (b:=b0) .here rfl ?_);refine qG (jJ2 omQ O.words H3) ?_;rintro _ h4 ⟨hb,wv,rfl,H4⟩;refine qQ (qZ H4 (b:=b0) e_2 rfl ?_);refine qQ (qZ H4 (b:=b0) e_2 rfl ?_);refine qG (jZ9 omQ O.ae O.wide H4) ?_;rintro _ h5 ⟨tb,lv,rfl,H5⟩;refine qQ (qZ H5 (b:=b0) e_4 rfl ?_);refine qG (jQm omQ O.start.2 H5) ?_;rintro _ h6 ⟨cb,rfl,H6⟩;refine qQ (qZ H6 (b:=b0) e_5 rfl ?_);refine qG (jQH omQ O.ad H6) ?_;rintro _ h7 ⟨sb,sv,rfl,H7⟩;refine qR (l:=[.int .i64 S.words,.int .i64 S.ae,.int .i64 S.wide,.int .i64 S.ad,.int .u64 S.start,.ptr hb 0,.ptr tb 0,.ptr cb 0,.ptr sb 0,.int .i64 0]) rfl ?_;refine qP H7 rfl λp h8 H8=>?_;refine qh H5 e_4 rfl H6 e_5 rfl (HS.lt H3 .here) ?_;refine qh H4 e_2 rfl H5 e_4 rfl (HS.lt H3 .here) ?_;refine qh H3 .here rfl H4 e_2 rfl (HS.lt H3 .here) ?_;refine qh H4 e_2 rfl H5 e_4 rfl (HS.lt H3 .here) ?_;refine qh H3 .here rfl H4 e_2 rfl (HS.lt H3 .here) ?_;refine qh H3 .here rfl H4 e_2 rfl (HS.lt H3 .here) ?_;refine qh H3 .here rfl H4 e_2 rfl (HS.lt H3 .here) ?_;refine xy H6 e_5 rfl H7 e_7 rfl rfl omQ (HS.lt H3 .here) ?_;refine xy H5 e_4 rfl H6 e_5 rfl rfl omQ (HS.lt H3 .here) ?_;refine xy H4 e_2 rfl H5 e_4 rfl rfl omQ (HS.lt H3 .here) ?_;refine xy H3 .here rfl H4 e_2 rfl rfl omQ (HS.lt H3 .here) ?_;refine qW ⟨p,rfl,cn.I (hb:=hb) (tb:=tb) (cb:=cb) (sb:=sb) (wv:=wv) (lv:=lv) (sv:=sv) ?_⟩;unfold B6 yq;dsimp only;simp only[List.length_replicate];exact H8.sub (.cons .here (.cons e_5 (.cons e_5 (.cons e_3 (.cons e_3 (.cons e_2 (.cons .here (.cons .here (.drop .refl)))))))))
theorem Nr {m:Nat} {e:TypeId} {v:AV} {xs:List AV} {R2:List SP} (hn:1≤n) (H:HS g h L) (s:bi L (qB e 1 m v xs) R2) (ha:jY xs=true) (hm:m≤1000000) :
  aE n 89 [v] h λr h'=>HS g h' (qB 3 1 m r xs::L):=by
 refine aF (S:=S89) rfl omQ λk hk=>?_;unfold S89;try simp only[iZ]
 refine XP H s (λh1 h2=>?_) (qJ ?_)
 ·subst h1 h2;obtain rfl:xs=[]:=iA (by simpa using H.dE s);exact qX (qW H.ak)
 ·refine qt (n:=0) (l:=[]) (sz:=1) H rfl rfl rfl rfl λv2 h2 H2=>?_;refine zw H2 (H2.sl (.there s)) omQ omQ ha λv3 h3 H3=>?_;rw[Nat.zero_add,List.nil_append]at H3;exact qW H3
theorem M8 {me:Int} (hn:6≤n) (_:0≤s.start) (H:HS g h R):aE n 96 [.int .i64 me,.agg (yA s)] h λr h'=>∃a vb db,r=.ptr a 0∧
  HS g h' (qw a (xi (K4 me (jk s) (.au [] 0)) ⟨.aU,.ak,.dl,.aU,.aU,.aU,0,vb,db⟩)::cu db []::ag vb (Nl (jk s).words (jk s).writes)::R):=by
 refine bj (S:=S96) rfl omQ λk hk=>?_;unfold S96;try simp only[iZ]
 refine qP H rfl λb0 h1 H1=>?_;refine qF H1 (b:=b0) (off:=0) .here rfl omQ (l:=yA s) rfl ?_;refine qG (Mu omQ H1) ?_;rintro _ h2 ⟨rfl,H2⟩;clear H H1;refine qm H2 (b:=b0) .here rfl (by simp) rfl λh3 H3=>?_;have H3:HS g h3 (qw b0 (yA (jk s))::R):=H3;generalize jk s=S at*;clear H2;refine qY ?_
 try dsimp only
 refine qF H3 (b:=b0) (off:=0) .here rfl omQ (l:=yA S) rfl ?_;refine qQ (qu (qZ H3 (b:=b0) .here rfl ?_));refine qQ (qZ H3 (b:=b0) .here rfl ?_);refine qG (jZ3 omQ H3) ?_;rintro _ h4 ⟨vb,rfl,H4⟩;refine qG (jJa omQ H4) ?_;rintro _ h5 ⟨db,rfl,H5⟩;refine qR (l:=xi (K4 me S (.au [] 0)) ⟨.aU,.ak,.dl,.aU,.aU,.aU,0,vb,db⟩) rfl ?_;refine qP H5 rfl λa h6 H6=>?_;refine xy H4 e_1 rfl H5 e_2 rfl rfl omQ (HS.lt H3 .here) ?_;refine xy H3 .here rfl H4 e_1 rfl rfl omQ (HS.lt H3 .here) ?_;exact qW ⟨a,vb,db,rfl,H6.sub (.cons .here (.cons .here (.cons .here (.drop .refl))))⟩
theorem jQI {me:Int} {l:List qa} {sv:AV} (hn:10≤n) (hs:0≤s.start) (hc:(zi l).2=0) (S:Rd g R 5 l.length sv (l.flatMap xW)) (H:HS g h R) :
  aE n 70 [.int .i64 me,.agg (yA s),.agg [sv]] h λr h'=>∃a,r=.ptr a 0∧HS g h' (aK a (gL me s l)::R):=by
 refine cX (S:=S70) rfl omQ λk hk=>?_;unfold S70;try simp only
 have hle:=(Mb hc).le;refine qP H rfl λb0 h1 H1=>?_;refine qP H1 (gY (JO (S.sl H))) λb1 h2 H2=>?_;refine qF H2 (b:=b0) (off:=0) e_1 rfl omQ (l:=yA s) rfl ?_;refine qG (M8 omQ hs H2) ?_;rintro _ h3 ⟨a,vb,db,rfl,H3⟩;refine qF H3 (b:=b1) (off:=0) e_3 rfl omQ (l:=[sv]) rfl ?_;refine qK (qQ (qZ H3 (b:=a) .here rfl ?_));refine qK (qQ (qu (qZ H3 (b:=a) .here rfl ?_)));refine qG (jZS omQ H3 S.more.more.more.more.more omQ) ?_;rintro _ h4 ⟨ib,rfl,H4⟩;refine qK (qQ ?_);refine qy H4 (b:=a) e_1 (x:=.ptr ib 0) ⟨rfl,rfl⟩ (by simp[xi]) λh5 H5=>qW ⟨a,rfl,?_⟩;have hm:Vu l=qT l:=by simp_all[Vu]
 rw[hm,hc]at H5;refine aK.I (q:=⟨.ptr ib 0,.ak,.dl,.aU,.aU,.aU,0,vb,db⟩) ?_;have H6:=cC.PI (p:=⟨l,Q4,0,0,kN (jk s).fuel⟩) ⟨rfl,rfl,rfl⟩ (H5.aM e_1);have H7:=aT.AW (st:=0) (f:=B4 0 0 0 0 0) (e:=uF 0 0 []) (c:=none) (iv:=.dl) (fv:=.aU) (ev:=.aU) od rfl rfl H6;exact H7.sub (.cons e_2 (.cons e_1 (.cons e_2 (.cons e_1 (.cons .here (.drop (.drop .refl)))))))
theorem qq2 {me:Int} {bs:List Int} {e:TypeId} {sv:AV} {R2:List SP} (hn:8≤n) (hs:0≤s.start) (hb:bs.length≤1000000) (H:HS g h L) (S:bi L (qB e 1 bs.length sv (bs.map (.int .i64))) R2) :
  aE n 69 [.int .i64 me,.agg (yA s),sv] h λr h'=>∃a,r=.ptr a 0∧HS g h' (aK a (w8 me s bs)::L):=by
 refine cX (S:=S69) rfl omQ λk hk=>?_;unfold S69;try simp only
 refine qP H rfl λb0 h1 H1=>?_;refine qF H1 (b:=b0) (off:=0) .here rfl omQ (l:=yA s) rfl ?_;refine qG (M8 omQ hs H1) ?_;rintro _ h3 ⟨a,vb,db,rfl,H3⟩;refine qG (Nr omQ H3 (.there (.there (.there (.there S)))) (RS (λ_=>rfl) _) hb) λbv h4 H4=>?_;have o4:=H4.one .here;refine qK (qQ ?_);refine qy H4 (b:=a) e_1 o4 (by simp[xi]) λh5 H5=>qW ⟨a,rfl,?_⟩;refine aK.I (q:=⟨.aU,bv,.dl,.aU,.aU,.aU,0,vb,db⟩) ?_;have H6:=cC.SI (vb:=vb) (k:=0) (rv:=.aU) (gv:=0) ⟨rfl,rfl⟩ (H5.aM e_1);have H7:=aT.AW (st:=0) (f:=B4 0 0 0 0 0) (e:=uF 0 0 []) (c:=none) (iv:=.dl) (fv:=.aU) (ev:=.aU) od rfl rfl H6;exact H7.sub (.cons e_2 (.cons e_1 (.cons e_2 (.cons e_1 (.cons .here (.drop .refl))))))
section
variable {a:Nat} {x:qr} {q:AU}
theorem qg1 (hn:3≤n) (O:zH x) (H:HS g h (aK a x::R)):aE n 53 [.ptr a 0] h λr h'=>HS g h' (qB 117 2 x.r.length r (x.r.flatMap gX)::aK a x::R):=by
 refine aF (S:=S53) rfl omQ λk hk=>?_;unfold S53;try simp only
 obtain⟨q,H1⟩:=aK.E H;have hr:=O.r;refine qK (qQ (qZ H1 (b:=a) .here rfl ?_));refine qG (RV omQ omQ (H1.aM (P:=cu q.db x.r) e_3)) λv h2 H2=>qW ?_;exact HS.cF e_1 (aK.I (q:=q) (H2.sub (.cons e_2 (.cons e_2 (.cons e_2 (.cons e_1 (.cons e_1 (.cons .here .refl))))))))
theorem qjH (hn:2≤n) (O:zH x) (H:HS g h (aK a x::R)):aE n 90 [.ptr a 0] h λr h'=>HS g h' (qB 170 2 x.v.K.length r (x.v.K.flatMap zz)::aK a x::R):=by
 refine aF (S:=S90) rfl omQ λk hk=>?_;unfold S90;try simp only
 obtain⟨q,H1⟩:=aK.E H;refine qK (qQ (qZ H1 (b:=a) .here rfl ?_));refine qG (qjf omQ (H1.aM (P:=ag q.vb x.v) e_2) O.aH.ok) λv h2 H2=>qW ?_;exact HS.cF e_1 (aK.I (q:=q) (H2.sub (.cons e_2 (.cons e_2 (.cons e_1 (.cons e_1 (.cons e_1 (.cons .here .refl))))))))
theorem J5 (hn:5≤n) (O:zH x) (H:HS g h (aK a x::R)):aE n 107 [.ptr a 0] h λr h'=>r=.bool (zd x)∧HS g h' (aK a x::R):=by
 refine aF (S:=S107) rfl omQ λk hk=>?_;unfold S107;try simp only[iZ]
 obtain⟨q,H1⟩:=aK.E H;refine qG (qWd omQ H1 .here) ?_;rintro _ _ ⟨rfl,rfl⟩;unfold zd;by_cases c:jK x=2
 ·refine qk c ?_;rw[iG c];refine qY ?_;(try dsimp only);refine jC ?_;(try dsimp only);refine qE ?_
  exact qW ⟨rfl,H⟩
 ·refine qj c ?_;rw[iV c];refine qY ?_;(try dsimp only);refine qo ?_;(try dsimp only)
  refine qG (Ji omQ O.c H) ?_;rintro _ h2 ⟨rfl,H2⟩;refine qI ?_;exact qW ⟨rfl,H2⟩
theorem ZU (hn:1≤n) (H:HS g h L) (s:bi L (qw a (xi x q)) R):aE n 54 [.ptr a 0] h λr h'=>r=.bool (gG x)∧h'=h:=by
 refine aF (S:=S54) rfl omQ λk hk=>?_;unfold S54;try simp only[iZ]
 refine qK (qQ (qZ H s rfl ?_));unfold gG;by_cases c:x.state=8
 ·rw[iV (λh=>h c)];refine jI c ?_;refine qY ?_;(try dsimp only);refine qb ?_;(try dsimp only);refine qI ?_
  exact qW ⟨rfl,rfl⟩
 ·rw[iG (show x.state≠8 from c)];refine jH c ?_;refine qY ?_;(try dsimp only);refine qd ?_;(try dsimp only);refine qK (qQ ?_)
  refine qZ H s rfl ?_;refine qE ?_;exact qW ⟨rfl,rfl⟩
theorem qYu (hn:11≤n) (O:zH x) (H:HS g h (aK a x::R)):aE n 91 [.ptr a 0] h λr h'=>HS g h' (qB 170 2 (gZ x).length r ((gZ x).flatMap zz)::aK a x::R):=by
 refine aF (S:=S91) rfl omQ λk hk=>?_;unfold S91;try simp only
 refine qG (J5 omQ O H) ?_;rintro _ h1 ⟨rfl,H1⟩;unfold gZ;cases hc:zd x with
 |false=>exact jo (qX (qW H1.ak))
 |true=>refine jd (qJ ?_);obtain⟨q,H2⟩:=aK.E H1;refine qK (qQ (qZ H2 (b:=a) .here rfl ?_));refine qG (OR omQ (H2.aM (P:=ag q.vb x.v) e_2) O.aH.ok) λv h3 H3=>qW ?_;exact HS.cF e_1 (aK.I (q:=q) (H3.sub (.cons e_2 (.cons e_2 (.cons e_1 (.cons e_1 (.cons e_1 (.cons .here .refl))))))))
theorem Oo (hn:6≤n) (O:zH x) (H:HS g h (aK a x::R)):aE n 81 [.ptr a 0] h λr h'=>∃e,HS g h' (qB e 1 (zk x).length r ((zk x).map (.int .i64))::aK a x::R):=by
 refine aF (S:=S81) rfl omQ λk hk=>?_;unfold S81;try simp only
 refine qG (J5 omQ O H) ?_;rintro _ h1 ⟨rfl,H1⟩;unfold zk;cases hc:zd x with
 |false=>exact jo (qX (qW ⟨3,H1.ak⟩))
 |true=>
  refine jd (qJ ?_);rw[iJ rfl];obtain⟨q,H2⟩:=aK.E H1;have hj:=O.ap;cases hx:x.ap with
  |au bs k=>rw[hx]at hj;obtain⟨e,H3⟩:=cC.S (by rw[← hx];exact H2.aM e_1);have Rw:=hj.2;refine qK (qQ (qZ H2 (b:=a) .here (x:=.aU) (by rw[← e.1];rfl) ?_));refine NM (qX ?_);refine qK (qQ (qZ H2 (b:=a) .here rfl ?_));refine qG (Nr omQ H3 .here (RS (λ_=>rfl) _) omQ) λv h4 H4=>qW ⟨3,?_⟩;have H5:=cC.SI (vb:=q.vb) (k:=k) e (H4.aM e_1);rw[← hx]at H5;exact HS.cF e_1 (aK.I (q:=q) (H5.sub (.cons e_2 (.cons .here (.cons e_1 (.cons e_1 (.cons e_1 (.cons .here .refl))))))))
  |prog p=>obtain⟨ib,nx,e,H3⟩:=cC.P (by rw[← hx];exact H2.aM e_1);refine qK (qQ (qZ H2 (b:=a) .here (x:=.ptr ib 0) (by rw[← e.1];rfl) ?_));refine Vz (qJ ?_);refine qK (qQ (qZ H2 (b:=a) .here rfl ?_));refine qG (qqT omQ (H2.aM (P:=ag q.vb x.v) e_2) O.aH.ok) λv h4 H4=>qW ⟨3,?_⟩;exact HS.cF e_1 (aK.I (q:=q) (H4.sub (.cons e_2 (.cons e_2 (.cons e_1 (.cons e_1 (.cons e_1 (.cons .here .refl))))))))
theorem Oj (hn:8≤n) (O:zH x) (H:HS g h (aK a x::R)):aE n 78 [.ptr a 0] h λr h'=>r=.str (zc x)∧HS g h' (aK a x::R):=by
 refine aF (S:=S78) rfl omQ λk hk=>?_;unfold S78;try simp only
 refine qG (J5 omQ O H) ?_;rintro _ h1 ⟨rfl,H1⟩;unfold zc;cases hc:zd x with
 |false=>
  refine jo (qY ?_);(try dsimp only);refine jC ?_;(try dsimp only);refine qE (qX ?_)
  exact qW ⟨rfl,H1⟩
 |true=>
  refine jd ?_;rw[iJ rfl];obtain⟨q,H2⟩:=aK.E H1;have hj:=O.ap;cases hx:x.ap with
  |au bs k=>
   obtain⟨e,H3⟩:=cC.S (by rw[← hx];exact H2.aM e_1);refine qY ?_;(try dsimp only);refine qo ?_;(try dsimp only);refine qK (qQ (qZ ‹_› e_1 rfl ?_))
   rw[e.1];refine NM (qI (qX ?_));exact qW ⟨rfl,H1⟩
  |prog p=>
   rw[hx]at hj;obtain⟨ib,nx,e,H3⟩:=cC.P (by rw[← hx];exact H2.aM e_1);refine qY ?_;(try dsimp only);refine qo ?_;(try dsimp only);refine qK (qQ (qZ ‹_› e_1 rfl ?_))
   rw[e.1];refine Vz (qI (qJ (qK (qQ (qZ ‹_› e_1 rfl ?_)))));rw[e.1];have ho:=hj.2.2.1.out;refine qG (qjT omQ H3 ho) ?_;rintro _ h4 ⟨o,rfl,H4⟩;refine qG (jZH omQ H4 omQ hj.2.2.1.its) ?_;rintro _ h5 ⟨rfl,H5⟩;refine qW ⟨rfl,aK.I (q:=q) ?_⟩;have H6:=cC.PI (p:=p) e H5.drop;rw[← hx]at H6;exact H6.sub (.cons e_1 (.cons .here (.cons .here (.cons .here (.cons .here .refl)))))
end
end
end
section
variable {g h:AH} {L R:List SP}
def dH (b:Nat) (r:List Va):SP:=.ex λsv=>.all [qw b [sv],qB 157 2 r.length sv (r.flatMap zz)]
section
variable {n b:Nat} {r:List Va}
theorem dH.E (H:HS g h (dH b r::R)):∃sv,HS g h (qw b [sv]::qB 157 2 r.length sv (r.flatMap zz)::R):=by obtain⟨sv,H⟩:=H.eU;exact⟨sv,H.cG⟩
theorem dH.I {sv:AV} (H:HS g h (qw b [sv]::qB 157 2 r.length sv (r.flatMap zz)::R)):HS g h (dH b r::R):=HS.fB sv H.allI
theorem qq7 (hn:1≤n) (H:HS g h R):aE n 41 [] h λv h'=>∃b,v=.ptr b 0∧HS g h' (dH b []::R):=by
 refine BJ (S:=S41) rfl omQ λk hk=>?_;unfold S41;try simp only
 refine qR (l:=[.ak]) rfl ?_;refine qP H rfl λb h1 H1=>?_;refine qW ⟨b,rfl,dH.I (sv:=.ak) ?_⟩;exact H1.ak.sub (.cons e_1 (.cons .here .refl))
theorem qj2 (hn:1≤n) (H:HS g h (dH b r::R)):aE n 111 [.ptr b 0] h λv h'=>v=.int .i64 (r.length:Int)∧h'=h:=by
 refine aF (S:=S111) rfl omQ λk hk=>?_;unfold S111;try simp only
 obtain⟨sv,H1⟩:=dH.E H;refine qK (qQ (qZ H1 (b:=b) .here rfl ?_));refine jQ H1 e_1 ?_;exact qW ⟨rfl,rfl⟩
theorem OW {z:Int} {bs:List Int} {bv:AV} (hn:1≤n) (hr:r.length+bs.length≤1000000) (H:HS g h (dH b r::R)) (S:Rd g R 1 bs.length bv (bs.map (.int .i64))) :
  aE n 80 [.ptr b 0,.int .u64 z,bv] h λ_ h'=>HS g h' (dH b (r++bs.map λq=>(q,z))::R):=by
 refine cX (S:=S80) rfl omQ λk hk=>?_;unfold S80;try simp only[iZ]
 refine vQ (S.more.sl H) ?_;refine zQ (λc s h'=>∃i:Nat,s=(.int .i64 (i:Int),.int .i64 (bs.length:Int),bv,.int .u64 z,.ptr b 0,())∧i≤bs.length∧c=bs.length-i∧HS g h' (dH b (r++(bs.take i).map λq=>(q,z))::R))
  ?_ (m:=bs.length) (by grind) ⟨0,rfl,Nat.zero_le _,rfl,by grind⟩
 clear H;rintro c ih s h1 bQ ⟨i,rfl,hi,rfl,H⟩;dsimp only;by_cases aw:i<bs.length
 ·refine jt omQ (qX ?_);refine zj (S.more.sl H) (qWP aw) ?_;obtain⟨sv,H1⟩:=dH.E H;refine qK (qQ (qZ H1 (b:=b) .here rfl ?_));refine qR (l:=zz (bs[i],z)) rfl ?_;refine qt (n:=1) (l:=zz (bs[i],z)) (sz:=2) H1 rfl rfl rfl rfl λv2 h2 H2=>?_;refine zw (H2.aM e_2) (H2.sl .here) omQ (by grind) rfl λv3 h3 H3=>?_;have o3:=H3.one .here;refine qK (qQ ?_);refine qy H3 (b:=b) e_2 o3 aS λh4 H4=>?_;refine qi omQ ?_;refine bQ (bs.length-(i+1)) _ _ omQ ⟨i+1,rfl,by omega,rfl,dH.I (sv:=v3) ?_⟩;have er:r++(bs.take (i+1)).map (λq=>(q,z))=(r++(bs.take i).map λq=>(q,z))++[(bs[i],z)]:=by simp[List.take_add_one,List.append_assoc,List.map_append]
  rw[er,List.length_append,List.flatMap_append];exact H4.sub (.cons .here (.cons .here (.drop .refl)))
 ·obtain rfl:i=bs.length:=by omega
  refine jP omQ (qJ (qx (qW ?_)));grind
theorem qYH {sl:List Int} {v:AV} {z:Int} (hn:1≤n) (hl:sl.length≤1000) (S:Sl (λ_=>True) h 1 sl.length v (sl.map (.int .u64))) :
  aE n 139 [v,.int .u64 z] h λr h'=>r=.bool (jM sl z)∧h'=h:=by
 refine bj (S:=S139) rfl omQ λk hk=>?_;unfold S139;try simp only[iZ]
 refine vQ S ?_;refine zQ (λc s h'=>∃i:Nat,s=(.int .i64 (i:Int),.int .i64 (sl.length:Int),v,.int .u64 z,())∧i≤sl.length∧c=sl.length-i∧h'=h∧jM sl z=jM (sl.drop i) z)
  ?_ (m:=sl.length) (by grind) ⟨0,rfl,Nat.zero_le _,rfl,rfl,rfl⟩
 rintro c ih s _ bQ ⟨i,rfl,hi,rfl,rfl,hp⟩;dsimp only;by_cases aw:i<sl.length
 ·refine jt omQ (qX ?_);refine zj S (x:=.int .u64 sl[i]) (by simp) ?_;have hd:sl.drop i=sl[i]::sl.drop (i+1):=List.drop_eq_getElem_cons aw;have FZ:jM (sl[i]::sl.drop (i+1)) z=(decide (sl[i]=0∨z<sl[i])&&jM (sl.drop (i+1)) z):=rfl;rw[hd,FZ]at hp;refine qY ?_
  try dsimp only
  by_cases c0:sl[i]=0
  ·refine jI c0 (qb ?_);refine qI (qJ ?_);refine qi omQ ?_;refine bQ (sl.length-(i+1)) _ _ omQ ⟨i+1,rfl,by omega,rfl,rfl,?_⟩;grind
  ·refine jH c0 (qd ?_);by_cases c1:z<sl[i]
   ·refine XR omQ (qE (qJ ?_));refine qi omQ ?_;refine bQ (sl.length-(i+1)) _ _ omQ ⟨i+1,rfl,by omega,rfl,rfl,?_⟩;grind
   ·refine Jh omQ (qE (qX (qx (qW ⟨?_,rfl⟩))));grind
 ·obtain rfl:i=sl.length:=by omega
  refine jP omQ (qJ (qx (qW ⟨?_,rfl⟩)));rw[hp,List.drop_length];rfl
theorem jQ1 {sl:List Int} {v:AV} (hn:2≤n) (hl:sl.length≤1000) (hr:r.length≤1000000) (H:HS g h (dH b r::R)) (S:Rd g R 1 sl.length v (sl.map (.int .u64))) :
  aE n 112 [.ptr b 0,v] h λq h'=>
   HS g h' (qB 157 2 (r.filter λx=>jM sl x.2).length q ((r.filter λx=>jM sl x.2).flatMap zz)::dH b (r.filter λx=>!jM sl x.2)::R):=by
 refine bj (S:=S112) rfl omQ λk hk=>?_;unfold S112;try simp only[iZ]
 obtain⟨sv,H1⟩:=dH.E H;clear H;refine qK (qQ (qZ H1 (b:=b) .here rfl ?_));refine jQ H1 e_1 ?_;have fl:∀(p:Va→Bool) (i:Nat),((r.take i).filter p).length≤r.length:=λp i=>Nat.le_trans (List.length_filter_le ..) (by grind)
 refine zQ (λc s h'=>∃(i:Nat) (qv wv:AV),s=(.int .i64 (i:Int),.int .i64 (r.length:Int),sv,wv,qv,v,.ptr b 0,())∧i≤r.length∧c=r.length-i∧
   HS g h' (qB 157 2 ((r.take i).filter λx=>jM sl x.2).length qv (((r.take i).filter λx=>jM sl x.2).flatMap zz)::qB 157 2 ((r.take i).filter λx=>!jM sl x.2).length wv (((r.take i).filter λx=>!jM sl x.2).flatMap zz)::
    qw b [sv]::qB 157 2 r.length sv (r.flatMap zz)::R))
  ?_ (m:=r.length) (by grind) ⟨0,.ak,.ak,rfl,Nat.zero_le _,rfl,H1.ak.ak⟩
 clear H1;rintro c ih s h1 bQ ⟨i,qv,wv,rfl,hi,rfl,H⟩;dsimp only;by_cases aw:i<r.length
 ·refine jt omQ (qX ?_)
  refine zb [] (λs h'=>∃(qv wv:AV),s=(.int .i64 (i:Int),.int .i64 (r.length:Int),sv,wv,qv,v,.ptr b 0,())∧
   HS g h' (qB 157 2 ((r.take (i+1)).filter λx=>jM sl x.2).length qv (((r.take (i+1)).filter λx=>jM sl x.2).flatMap zz)::qB 157 2 ((r.take (i+1)).filter λx=>!jM sl x.2).length wv (((r.take (i+1)).filter λx=>!jM sl x.2).flatMap zz)::
    qw b [sv]::qB 157 2 r.length sv (r.flatMap zz)::R)) (λj hj=>?_) ?_
  rotate_left
  ·rintro _ h2 ⟨qv,wv,rfl,H2⟩;dsimp only;refine qi omQ ?_;exact bQ (r.length-(i+1)) _ _ omQ ⟨i+1,qv,wv,rfl,by omega,rfl,H2⟩
  refine xV (l:=zz r[i]) (H.sl e_3) aw omQ (gF (sz:=2) (enc:=zz) (λ_=>rfl) (iW aw)) ?_;refine qP H rfl λb2 h2 H2=>?_;refine qm H2 (b:=b2) .here rfl (by simp) rfl λh3 H3=>?_;refine qQ (qZ H3 (b:=b2) .here (x:=.int .u64 r[i].2) rfl ?_);refine qG (qYH (sl:=sl) omQ hl (S.more.more.more.more.more.sl H3)) ?_;rintro _ _ ⟨rfl,rfl⟩;have et:r.take (i+1)=r.take i++[r[i]]:=by simp
  have f1:=fl (λx=>jM sl x.2) i;have f2:=fl (λx=>!jM sl x.2) i;cases hp:jM sl r[i].2 with
  |true=>refine qX (qF H3 (b:=b2) (off:=0) .here rfl omQ (l:=zz r[i]) rfl ?_);refine qt (n:=1) (l:=zz r[i]) (sz:=2) H3 rfl rfl rfl rfl λv2 h4 H4=>?_;refine zw (H4.aM e_2) (H4.sl .here) omQ omQ rfl λv3 h5 H5=>hj _ _ ⟨v3,wv,rfl,?_⟩;rw[et,List.filter_append,List.filter_append,show[r[i]].filter (λx=>jM sl x.2)=[r[i]] by grind,show[r[i]].filter (λx=>!jM sl x.2)=[] by grind,List.append_nil,List.length_append,List.flatMap_append];exact H5.sub (.cons .here (.cons e_2 (.cons e_2 (.cons e_2 (.drop (.drop .refl))))))
  |false=>refine qJ (qF H3 (b:=b2) (off:=0) .here rfl omQ (l:=zz r[i]) rfl ?_);refine qt (n:=1) (l:=zz r[i]) (sz:=2) H3 rfl rfl rfl rfl λv2 h4 H4=>?_;refine zw (H4.aM e_3) (H4.sl .here) omQ omQ rfl λv3 h5 H5=>hj _ _ ⟨qv,v3,rfl,?_⟩;rw[et,List.filter_append,List.filter_append,show[r[i]].filter (λx=>jM sl x.2)=[] by grind,show[r[i]].filter (λx=>!jM sl x.2)=[r[i]] by grind,List.append_nil,List.length_append,List.flatMap_append];exact H5.sub (.cons e_3 (.cons .here (.cons e_2 (.cons e_2 (.drop (.drop .refl))))))
 ·obtain rfl:i=r.length:=by omega
  rw[List.take_length]at H;refine jP omQ (qJ ?_);have o1:=H.one e_1;refine qK (qQ ?_);refine qy H (b:=b) e_2 o1 aS λh2 H2=>qx (qW ?_);have H3:=dH.I (r:=r.filter λx=>!jM sl x.2) (sv:=wv) (H2.sub (.cons .here (.cons e_1 .refl)));exact H3.sub (.cons e_1 (.cons .here (.drop .refl)))
end
end
end Go.Proofs.YtolpbdncppeohaaGreatDoor
