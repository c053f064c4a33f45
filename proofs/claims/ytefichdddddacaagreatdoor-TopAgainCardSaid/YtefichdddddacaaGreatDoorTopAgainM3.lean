/- Lemmas for 'quietus/quietustop.TopAgain': Transactions step by step: plain, as the program has them;The memory: by the program;Patience, a fetch: by the program;The memorys operations: by the ... No condition. -/
import Derived.Test.YtefichdddddacaaGreatDoorTopAgainM2
import Derived.Test.YtefichdddddacaaGreatDoorTopAgainX
import Derived.Lib.SlicesCompact
namespace Go.Proofs.YtefichdddddacaaGreatDoor
open Go Go.Ae
set_option maxRecDepth 100000
section
abbrev cZ:Type:=Int×Bool×Int
structure dz where
  kind:Int
  at_:Int
  cW:Int
  word:Int
  aR:cZ
  lk:cZ
structure cO where
  word:Int
  lk:cZ
  done:Bool
  err:Int
structure jD where
  w:List Int
  l:List cZ
  n:Int
  s:List Int
  aX:Int
def b8:cZ:=(0,false,0)
def bg (kind at_ word:Int):dz:=⟨kind,at_,0,word,b8,b8⟩
def fk:cO:=⟨0,b8,false,0⟩
def ll (e:Int):cO:=⟨0,b8,false,e⟩
def Y5 (l:cZ):Prop:=l.1<4611686018427387904∧(if l.2.1=true then 0≤l.2.2∧l.2.2<4 else l.2.2=0)
instance {l:cZ}:Decidable (Y5 l):=by unfold Y5;infer_instance
def zQ (l:List cZ) (i:Int):cZ:=(l[i.toNat]?).getD b8
def Jp (m:jD) (o:dz):cO×jD :=
 if o.at_<1∨(m.w.length:Int)≤o.at_ then(ll 2,m)else if o.kind=1 then(⟨qE m.w o.at_,b8,false,0⟩,m)else(fk,{ m with w:=m.w.set o.at_.toNat o.word })
def QV (m:jD) (o:dz):cO×jD :=
 if o.at_<0∨(m.l.length:Int)≤o.at_ then(ll 2,m)
 else if o.kind=3 then(⟨0,zQ m.l o.at_,false,0⟩,m)
 else if¬Y5 o.lk then(ll 1,m)
 else if o.kind=5 then(fk,{ m with l:=m.l.set o.at_.toNat o.lk })
 else if zQ m.l o.at_≠o.aR then(fk,m)
 else(⟨0,b8,true,0⟩,{ m with l:=m.l.set o.at_.toNat o.lk })
def JO (m:jD) (o:dz):cO×jD :=
 if o.kind=6 then(⟨m.n,b8,false,0⟩,m)
 else if o.word≤o.cW then(ll 1,m)
 else if 4611686018427387904≤o.word then(ll 7,m)
 else if m.n≠o.cW then(fk,m)
 else(⟨0,b8,true,0⟩,{ m with n:=o.word })
def QH (m:jD) (o:dz):cO×jD :=
 if o.at_<0∨(m.s.length:Int)≤o.at_ then(ll 2,m)else if o.kind=8 then(⟨qE m.s o.at_,b8,false,0⟩,m)else(fk,{ m with s:=m.s.set o.at_.toNat o.word })
def jC (m:jD) (o:dz):cO×jD :=
 let r:=if o.kind=1∨o.kind=2 then Jp m o else if o.kind=3∨o.kind=4∨o.kind=5 then QV m o else if o.kind=6∨o.kind=7 then JO m o else if o.kind=8∨o.kind=9 then QH m o else(ll 1,m)
 if r.1.err=0 then(r.1,{ r.2 with aX:=r.2.aX+1 })else r
def ofM (at_ n wide:Int):Int:=if at_<0 then-1 else(at_/max 1 (min wide 16))%max 1 (min n 16)
def xk (cs:List Cl) (n wide:Int):List Int:=((List.range 16).map λi:Nat=>(i:Int)).filter λs=>cs.any λc=>decide (ofM c.1 n wide=s)
structure JZ where
  me:Int
  af:Int
  fin:Int
  dB:Int
  err:Int
def QM (me af:Int):JZ:=⟨me,max 0 (min af 4),0,-1,0⟩
def ji (p:JZ) (l:cZ):Bool×JZ:=if p.me<l.2.2 then(true,p)else(decide (0≤p.af-1),{ p with af:=p.af-1 })
def zV (p:JZ) (fin err dB:Int):JZ:={ p with fin:=fin,err:=err,dB:=dB }
def qu (p:JZ) (a:cO):Bool×JZ:=if p.fin=0∧a.err≠0 then(true,zV p 4 a.err (-1))else(decide (p.fin≠0),p)
abbrev xj:Type:=Int×Int
structure QT where
  p:JZ
  at_:Int
  cF:Int
  aj:Int
  state:Int
  lk:cZ
  word:Int
def kP (me at_ cF af aj:Int):QT:=⟨QM me af,at_,cF,aj,0,b8,0⟩
def KE (f:QT):Option dz:=if f.p.fin≠0 then none else if f.state=1 then some (bg 1 f.at_ 0)else some (bg 3 f.cF 0)
def Jt (f:QT) (l:cZ):QT :=
 if l.2.1=true then(if(ji f.p l).1=true then{ f with state:=0,p:=(ji f.p l).2 }else{ f with state:=0,p:=zV (ji f.p l).2 5 0 l.2.2 })
 else if f.aj<l.1 then{ f with state:=0,p:=zV f.p 6 0 (-1) }
 else{ f with lk:=l,state:=1 }
def xC (f:QT) (a:cO):QT :=
 if(qu f.p a).1=true then{ f with p:=(qu f.p a).2 }
 else if f.state=1 then{ f with word:=a.word,state:=2 }
 else if f.state=2∧a.lk=f.lk then{ f with p:=zV f.p 2 0 (-1) }
 else Jt f a.lk
def x9 (f:QT):Int:=if f.p.fin≠2 then 0 else f.word
def ya (f:QT):xj:=if f.p.fin≠2 then(0,0)else(f.cF,f.lk.1)
structure QF where
  p:JZ
  seen:List xj
  cV:Bool
  at_:Int
  aj:Int
def Uh (me af:Int) (seen:List xj):QF:=⟨QM me af,seen,false,0,0⟩
def zT (l:List xj) (i:Int):xj:=(l[i.toNat]?).getD (0,0)
def Jj (x:QF):Option dz:=if x.p.fin≠0 then none else if x.cV=false then some (bg 6 0 0)else some (bg 3 (zT x.seen x.at_).1 0)
def JC (x:QF):QF:=if x.at_=(x.seen.length:Int)then{ x with p:=zV x.p 2 0 (-1) }else x
def xU (x:QF) (a:cO):QF :=
 if(qu x.p a).1=true then{ x with p:=(qu x.p a).2 }
 else if x.cV=false then JC { x with cV:=true,aj:=a.word }
 else if a.lk.2.1=true then(if(ji x.p a.lk).1=true then{ x with p:=(ji x.p a.lk).2 }else{ x with p:=zV (ji x.p a.lk).2 5 0 a.lk.2.2 })
 else if a.lk.1≠(zT x.seen x.at_).2 then{ x with p:=zV x.p 5 0 (-1) }
 else JC { x with at_:=x.at_+1 }
def gF (x:QF):Int:=if x.p.fin≠2 then 0 else x.aj
structure zq where
  p:JZ
  me:Int
  aj:Int
  seen:List xj
  cells:List Cl
  s:List Int
  aR:List cZ
  state:Int
  at_:Int
  lk:cZ
  now:Int
  writing:Bool
  bU:Int
  Aq:Int
  nV:Int
def Qk (c:zq):zq:={ c with state:=if c.aR.length=c.s.length then 2 else 0 }
def Js (me af aj:Int) (seen:List xj) (cells:List Cl) (n wide:Int):zq :=
 Qk ⟨QM me af,me,aj,seen,cells,xk cells n wide,[],0,0,b8,0,false,0,0,0⟩
def wu (l:List Cl) (i:Int):Cl:=(l[i.toNat]?).getD (0,0)
def xP (c:zq):Option dz :=
 if c.p.fin≠0 then none
 else if c.state=0 then some (bg 3 (qE c.s c.aR.length) 0)
 else if c.state=1 then some ⟨4,qE c.s c.aR.length,0,0,c.lk,(c.lk.1,true,c.me)⟩
 else if c.state=2 then some (bg 6 0 0)
 else if c.state=3 then some ⟨7,0,c.now,c.now+1,b8,b8⟩
 else if c.state=4 then some (bg 3 (zT c.seen c.at_).1 0)
 else if c.state=5 then some (bg 2 (wu c.cells c.at_).1 (wu c.cells c.at_).2)
 else if c.state=6 then some ⟨5,qE c.s c.at_,0,0,b8,(c.now+1,false,0)⟩
 else some ⟨5,qE c.s c.at_,0,0,b8,zQ c.aR c.at_⟩
def gQ (c:zq):zq:=if c.at_=(c.aR.length:Int)then{ c with p:=zV c.p c.bU c.nV c.Aq }else c
def kz (c:zq) (fin err dB:Int):zq:=gQ { c with bU:=fin,nV:=err,Aq:=dB,at_:=0,state:=7 }
def Qq (c:zq) (l:cZ):zq:=if(ji c.p l).1=true then{ c with p:=(ji c.p l).2 }else kz { c with p:=(ji c.p l).2 } 5 0 l.2.2
def y3 (c:zq):zq:=if c.at_=(c.s.length:Int)then{ c with p:=zV c.p 2 0 (-1) }else c
def yh (c:zq):zq:=if c.at_=(c.cells.length:Int)then y3 { c with at_:=0,state:=6 }else c
def wO (c:zq):zq:=yh { c with writing:=true,at_:=0,state:=5 }
def rW:List Int→List cZ→Int→Option Int
 |s::r,w::q,x=>if s=x then some w.1 else rW r q x
 |_,_,_=>none
def vT (c:zq):Nat→zq
 | 0=>wO c
 |n+1=>
  if c.at_<(c.seen.length:Int)then
   (match rW c.s c.aR (zT c.seen c.at_).1 with
   |none=>c
   |some v=>if v≠(zT c.seen c.at_).2 then kz c 5 0 (-1)else vT { c with at_:=c.at_+1 } n)
  else wO c
def Qc (c:zq):zq:=vT { c with state:=4 } (c.seen.length+1)
def kx (c:zq) (a:cO):zq :=
 if c.state=0∧a.lk.2.1=true then Qq c a.lk
 else if c.state=0 then{ c with lk:=a.lk,state:=1 }
 else if a.done=true then Qk { c with aR:=c.aR++[c.lk] }
 else{ c with state:=0 }
def gD (c:zq) (a:cO):zq :=
 if c.state=2∧4611686018427387903≤a.word then kz c 4 7 (-1)
 else if c.state=2 then{ c with now:=a.word,state:=3 }
 else if a.done=false then{ c with state:=2 }
 else if c.now=c.aj then wO c
 else Qc c
def wZ (c:zq) (l:cZ):zq :=
 if l.2.1=true then Qq c l
 else if l.1≠(zT c.seen c.at_).2 then kz c 5 0 (-1)
 else Qc { c with at_:=c.at_+1 }
def zj (c:zq) (a:cO):zq :=
 if(qu c.p a).1=true then{ c with p:=(qu c.p a).2 }
 else if c.state=0∨c.state=1 then kx c a
 else if c.state=2∨c.state=3 then gD c a
 else if c.state=4 then wZ c a.lk
 else if c.state=5 then yh { c with at_:=c.at_+1 }
 else if c.state=6 then y3 { c with at_:=c.at_+1 }
 else gQ { c with at_:=c.at_+1 }
def ga (c:zq):Int:=if c.writing=false then 0 else c.now+1
def wq (c:zq):Bool:=c.writing&&decide (c.p.fin=0)
structure zR where
  words:Int
  al:Int
  wide:Int
  aa:Int
  start:Int
  af:Int
  writes:Int
  fuel:Int
def JE (n lo hi:Int):Int:=max lo (min n hi)
def jK (s:zR):zR:=⟨JE s.words 32 256,JE s.al 1 16,JE s.wide 1 16,JE s.aa 1 4,min s.start 4611686018427387903,JE s.af 0 4,JE s.writes 0 96,JE s.fuel 0 400⟩
structure ux where
  l:List qT
  s:IM
  fin:Int
  err:Int
  left:Nat
inductive JX where
  |prog (r:ux)
  |ao (blocks:List Int) (k:Nat)
structure q8 where
  me:Int
  set:zR
  ax:JX
  v:VM
  r:List xj
  state:Int
  f:QT
  e:QF
  c:Option zq
  begun:Bool
  bV:Int
  aj:Int
  fin:Int
  dB:Int
  err:Int
  cj:Bool
def GN (me:Int) (S:zR) (ax:JX):q8:=⟨me,S,ax,QN S.words S.writes,[],0,kP 0 0 0 0 0,Uh 0 0 [],none,false,0,0,0,-1,0,false⟩
def y5 (me:Int) (S:zR) (l:List qT):q8:=GN me (jK S) (.prog ⟨l,YU,0,0,zc (jK S).fuel⟩)
def gZ (me:Int) (S:zR) (bs:List Int):q8:=GN me (jK S) (.ao bs 0)
def xZ (x:q8):Option dz :=
 if x.state=0 then some (bg 9 x.me 1)
 else if x.state=1 then some (bg 6 0 0)
 else if x.state=2 then some (bg 9 x.me (zv .u64 (x.aj+1)))
 else if x.state=7 then some (bg 9 x.me 0)
 else if x.state=8 then none
 else if x.state=3 then KE x.f
 else if x.state=6 then x.c.bind xP
 else Jj x.e
def xy (x:q8) (fin err dB:Int):q8:={ x with fin:=fin,err:=err,dB:=dB,state:=7 }
def JQ (x:q8) (at_:Int):q8:={ x with state:=3,f:=kP x.me at_ (ofM at_ x.set.al x.set.wide) x.set.af x.aj }
def yA (x:q8) (state:Int):q8:={ x with state:=state,e:=Uh x.me x.set.af x.r }
def jE:VM→List Int→Nat→(Nat×Int)×VM
 |V,[],k=>((k,0),V)
 |V,b::r,k=>if(zY V b).1=0 then jE (zY V b).2 r (k+1)else((k,(zY V b).1),(zY V b).2)
def yB (x:q8):(Int×Int)×q8:=match x.ax with
 | .ao bs k=>(if(jE x.v (bs.drop k) k).1.2=11 then(1,0)else if(jE x.v (bs.drop k) k).1.2=0 then(2,0)else(4,(jE x.v (bs.drop k) k).1.2),{ x with ax:=.ao bs (jE x.v (bs.drop k) k).1.1,v:=(jE x.v (bs.drop k) k).2 })
 | .prog q=>(((jM q.l (qP q.l) q.left q.s x.v).kind,(jM q.l (qP q.l) q.left q.s x.v).err),{ x with
   ax:=.prog ⟨q.l,(jM q.l (qP q.l) q.left q.s x.v).s,if(jM q.l (qP q.l) q.left q.s x.v).kind=1 then 0 else(jM q.l (qP q.l) q.left q.s x.v).kind,(jM q.l (qP q.l) q.left q.s x.v).err,(jM q.l (qP q.l) q.left q.s x.v).left⟩,
   v:=(jM q.l (qP q.l) q.left q.s x.v).v })
def vD (x:q8) (k e:Int):q8 :=
 if k=1 then JQ x x.v.aK
 else if k=3 then yA { x with cj:=true } 5
 else if k=4 then xy x 4 e (-1)
 else if jA x.v.lv=[]then xy x 2 0 (-1)
 else{ x with state:=6,c:=some (Js x.me x.set.af x.aj x.r (jA x.v.lv) x.set.al x.set.wide) }
def xT (x:q8):q8:=vD (yB x).2 (yB x).1.1 (yB x).1.2
def wU (r:List xj) (x:xj):Int×List xj :=
 if x.1<0∨16≤x.1∨4611686018427387904≤x.2 then(1,r)
 else match r.find? λy=>decide (y.1=x.1)with
  |some y=>if y.2≠x.2 then(14,r)else(0,r)
  |none=>if r.length=16 then(5,r)else(0,r++[x])
def x6 (x:q8):q8 :=
 if x.f.p.fin=6 then yA x 4
 else if(wU x.r (ya x.f)).1=0 then xT { x with r:=(wU x.r (ya x.f)).2,v:=(zu x.v x.v.aK (x9 x.f)).2 }
 else if(wU x.r (ya x.f)).1=14 then xy x 5 0 (-1)
 else xy x 4 (wU x.r (ya x.f)).1 (-1)
def xV (x:q8):Int×Int:=if x.state=3 then(x.f.p.fin,x.f.p.dB)else if x.state=6 then(match x.c with |some c=>(c.p.fin,c.p.dB) |none=>(0,0))else(x.e.p.fin,x.e.p.dB)
def xm (x:q8):q8 :=
 if x.state=3 then x6 x
 else if x.state=4 then JQ { x with aj:=gF x.e } x.v.aK
 else if x.state=5 then xy { x with aj:=gF x.e } 3 0 (-1)
 else match x.c with |some c=>xy x c.p.fin c.p.err (-1) |none=>x
def zC (x:q8):Bool:=decide (x.state≠8)&&(match x.c with |some c=>wq c||decide (c.p.fin=2) |none=>false)
def zo (x:q8):q8:=if zC x=true then(match x.c with |some c=>{ x with aj:=ga c } |none=>x)else x
def xH (x:q8):q8:=zo (if(xV x).1=0 then x else if(xV x).1=5 then xy x 5 0 (xV x).2 else xm x)
def jS (x:q8) (a:cO):q8 :=
 if x.state=8 then x
 else if a.err≠0 then{ xy x 4 a.err (-1)with state:=8 }
 else if x.state=0 then{ x with state:=1 }
 else if x.state=1 then{ x with begun:=true,bV:=a.word,aj:=a.word,state:=2 }
 else if x.state=2 then xT x
 else if x.state=7 then{ x with state:=8 }
 else if x.state=3 then xH { x with f:=xC x.f a }
 else if x.state=6 then xH { x with c:=x.c.map λc=>zj c a }
 else xH { x with e:=xU x.e a }
def jT (x:q8):Int:=if x.state≠8 then 0 else x.fin
def xW (x:q8):Bool:=decide (jT x=2)||zC x
def Qb (x:q8):List Cl:=if xW x=true then jA x.v.lv else[]
def zZ (x:q8):List Int:=if xW x=true then(match x.ax with | .ao bs _=>bs | .prog _=>vK x.v.lv)else[]
def zg (x:q8):List UInt8:=if xW x=true then(match x.ax with | .ao _ _=>[] | .prog q=>Cg q.s.out)else[]
end
section
variable {g h:AH} {L R:List SP}
def zG (l:cZ):List AV:=[.int .u64 l.1,.bool l.2.1,.int .i64 l.2.2]
def x8 (o:dz):List AV:=[.int .i64 o.kind,.int .i64 o.at_,.int .u64 o.cW,.int .u64 o.word,.int .u64 o.aR.1,.bool o.aR.2.1,.int .i64 o.aR.2.2,.int .u64 o.lk.1,.bool o.lk.2.1,.int .i64 o.lk.2.2]
def z6 (a:cO):List AV:=[.int .u64 a.word,.int .u64 a.lk.1,.bool a.lk.2.1,.int .i64 a.lk.2.2,.bool a.done,.int .i64 a.err]
theorem qkf {l:List cZ} {k:Nat} (hk:k<l.length):l[k]? =some (zQ l (k:Int)):=by unfold zQ;rw[Int.toNat_natCast,iW hk];rfl
theorem NJ {l:List cZ} {k:Nat} (hk:k<l.length):((l.flatMap zG).drop (k*3)).take 3=zG (zQ l (k:Int)):=vw (sz:=3) (enc:=zG) (λ_=>rfl) (qkf hk)
section
variable {n b m:Nat} {v:AV} {a:Int} {e:TypeId} {xs:List AV} {R2:List SP}
theorem Mt {w o:Int}:Y5 (w,true,o)↔w<4611686018427387904∧0≤o∧o<4:=by unfold Y5;simp
theorem NU {w o:Int}:Y5 (w,false,o)↔w<4611686018427387904∧o=0:=by unfold Y5;simp
theorem qke {o:Int} (hn:1≤n):aA n 141 [.int .i64 o] h λr h'=>r=.bool (decide (0≤o∧o<4))∧h'=h:=by
 refine ay (S:=S141) rfl omQ λk hk=>?_;unfold S141;try simp only[iZ]
 refine yg (λc2=>?_) (λc2=>?_)
 ·refine qW ?_;(try dsimp only);refine qa ?_;(try dsimp only)
  refine xw (λc3=>?_) (λc3=>?_)
  ·refine qH ?_;exact qG ⟨by rw[iG omQ],rfl⟩
  ·refine qH ?_;exact qG ⟨by rw[iV omQ],rfl⟩
 ·refine qW ?_;(try dsimp only);refine qU ?_;(try dsimp only);refine qI ?_
  exact qG ⟨by rw[iV omQ],rfl⟩
theorem qwS (hn:2≤n) {l:cZ} (H:HS g h R):aA n 116 [.agg (zG l)] h λr h'=>r=.bool (decide (Y5 l))∧HS g h' R:=by
 refine ay (S:=S116) rfl omQ λk hk=>?_;unfold S116;try simp only[iZ]
 obtain⟨w,d,o⟩:=l;refine qO H rfl λb h1 H1=>?_;have H1:HS g h1 (qA b [.int .u64 w,.bool d,.int .i64 o]::R):=H1;refine qQ (qZ ‹_› .here rfl ?_);cases d with
 |true=>
  refine qX (qQ (qZ ‹_› .here rfl ?_));refine xw (λc1=>?_) (λc1=>?_)
  ·refine qW ?_;(try dsimp only);refine qa ?_;(try dsimp only);refine qQ (qZ ‹_› .here rfl ?_)
   refine qV (qke omQ) ?_;rintro _ _ ⟨rfl,rfl⟩;refine qH (qG ⟨?_,H1.drop⟩);by_cases hc:0≤o∧o<4
   ·rw[iG hc,iG (Mt.2 ⟨by omega,hc⟩)]
   ·rw[iV hc,iV (λh=>hc (Mt.1 h).2)]
  ·refine qW ?_;(try dsimp only);refine qU ?_;(try dsimp only);refine qI ?_
   exact qG ⟨by rw[iV (λh=>by have:=(Mt.1 h).1;omega)],H1.drop⟩
 |false=>
  refine qJ (qQ (qZ ‹_› .here rfl ?_));refine xw (λc1=>?_) (λc1=>?_)
  ·refine qW ?_;(try dsimp only);refine qa ?_;(try dsimp only);refine qQ (qZ ‹_› .here rfl ?_)
   refine gw (λc2=>?_) (λc2=>?_)
   ·refine qH ?_;exact qG ⟨by rw[iG (NU.2 omQ)],H1.drop⟩
   ·refine qH ?_;exact qG ⟨by rw[iV (λh=>by have:=(NU.1 h).2;omega)],H1.drop⟩
  ·refine qW ?_;(try dsimp only);refine qU ?_;(try dsimp only);refine qI ?_
   exact qG ⟨by rw[iV (λh=>by have:=(NU.1 h).1;omega)],H1.drop⟩
theorem PO (hn:1≤n) (H:HS g h L) (s:aZ L (qA b [v]) R) (s2:aZ L (qB e 1 m v xs) R2) :
  aA n 91 [.ptr b 0,.int .i64 a] h λr h'=>r=.bool (decide (1≤a∧a<m))∧h'=h:=by
 refine ba (S:=S91) rfl omQ λk hk=>?_;unfold S91;try simp only[iZ]
 refine yg (λh1=>?_) (λh1=>?_)
 ·refine qW ?_;(try dsimp only);refine qa ?_;(try dsimp only);refine qK (qQ ?_)
  refine qZ H s rfl ?_;refine qo H s2 ?_;refine xw (λh2=>?_) (λh2=>?_)
  ·refine qH ?_;exact qG ⟨by rw[iG omQ],rfl⟩
  ·refine qH ?_;exact qG ⟨by rw[iV omQ],rfl⟩
 ·refine qW ?_;(try dsimp only);refine qU ?_;(try dsimp only);refine qI ?_
  exact qG ⟨by rw[iV omQ],rfl⟩
theorem PP (hn:1≤n) (H:HS g h L) (s:aZ L (qA b [v]) R) (s2:aZ L (qB e 1 m v xs) R2) :
  aA n 94 [.ptr b 0,.int .i64 a] h λr h'=>r=.bool (decide (0≤a∧a<m))∧h'=h:=by
 refine ba (S:=S94) rfl omQ λk hk=>?_;unfold S94;try simp only[iZ]
 refine yg (λh1=>?_) (λh1=>?_)
 ·refine qW ?_;(try dsimp only);refine qa ?_;(try dsimp only);refine qK (qQ ?_)
  refine qZ H s rfl ?_;refine qo H s2 ?_;refine xw (λh2=>?_) (λh2=>?_)
  ·refine qH ?_;exact qG ⟨by rw[iG omQ],rfl⟩
  ·refine qH ?_;exact qG ⟨by rw[iV omQ],rfl⟩
 ·refine qW ?_;(try dsimp only);refine qU ?_;(try dsimp only);refine qI ?_
  exact qG ⟨by rw[iV omQ],rfl⟩
theorem PQ (hn:1≤n) {wd:AV} (H:HS g h L) (s:aZ L (qA b [v,wd]) R) (s2:aZ L (qB e 3 m v xs) R2) :
  aA n 92 [.ptr b 0,.int .i64 a] h λr h'=>r=.bool (decide (0≤a∧a<m))∧h'=h:=by
 refine ba (S:=S92) rfl omQ λk hk=>?_;unfold S92;try simp only[iZ]
 refine yg (λh1=>?_) (λh1=>?_)
 ·refine qW ?_;(try dsimp only);refine qa ?_;(try dsimp only);refine qK (qQ ?_)
  refine qZ H s rfl ?_;refine qo H s2 ?_;refine xw (λh2=>?_) (λh2=>?_)
  ·refine qH ?_;exact qG ⟨by rw[iG omQ],rfl⟩
  ·refine qH ?_;exact qG ⟨by rw[iV omQ],rfl⟩
 ·refine qW ?_;(try dsimp only);refine qU ?_;(try dsimp only);refine qI ?_
  exact qG ⟨by rw[iV omQ],rfl⟩
theorem qjD {ws:List Int} (hn:2≤n) (H:HS g h L) (s:aZ L (qA b [v]) R) (s2:aZ L (qB e 1 ws.length v (ws.map (.int .u64))) R2) :
  aA n 59 [.ptr b 0,.int .i64 a] h λr h'=>r=.bM [.int .u64 (if 1≤a∧a<ws.length then qE ws a else 0),.int .i64 (if 1≤a∧a<ws.length then 0 else 2)]∧h'=h:=by
 refine ba (S:=S59) rfl omQ λk hk=>?_;unfold S59;try simp only[iZ]
 refine qV (PO omQ H s s2) ?_;rintro _ _ ⟨rfl,rfl⟩;by_cases hc:1≤a∧a<ws.length
 ·rw[iG hc,iJ hc,iJ hc];obtain⟨k,rfl⟩:∃k:Nat,a=k:=⟨a.toNat,by omega⟩;refine jY (qJ (qK (qQ (qZ H s rfl ?_))));refine jd (H.sl s2) (x:=.int .u64 (qE ws k)) (by rw[List.getElem?_map,gX omQ];rfl) ?_;exact qG ⟨rfl,rfl⟩
 ·rw[iV hc,iQ hc,iQ hc];refine jB (qX ?_);exact qG ⟨rfl,rfl⟩
theorem qj6 {ws:List Int} (hn:2≤n) (H:HS g h L) (s:aZ L (qA b [v]) R) (s2:aZ L (qB e 1 ws.length v (ws.map (.int .u64))) R2) :
  aA n 66 [.ptr b 0,.int .i64 a] h λr h'=>r=.bM [.int .u64 (if 0≤a∧a<ws.length then qE ws a else 0),.int .i64 (if 0≤a∧a<ws.length then 0 else 2)]∧h'=h:=by
 refine ba (S:=S66) rfl omQ λk hk=>?_;unfold S66;try simp only[iZ]
 refine qV (PP omQ H s s2) ?_;rintro _ _ ⟨rfl,rfl⟩;by_cases hc:0≤a∧a<ws.length
 ·rw[iG hc,iJ hc,iJ hc];obtain⟨k,rfl⟩:∃k:Nat,a=k:=⟨a.toNat,by omega⟩;refine jY (qJ (qK (qQ (qZ H s rfl ?_))));refine jd (H.sl s2) (x:=.int .u64 (qE ws k)) (by rw[List.getElem?_map,gX omQ];rfl) ?_;exact qG ⟨rfl,rfl⟩
 ·rw[iV hc,iQ hc,iQ hc];refine jB (qX ?_);exact qG ⟨rfl,rfl⟩
theorem qKo {ws:List Int} {w:Int} (hn:2≤n) (H:HS g h (qA b [v]::qB e 1 ws.length v (ws.map (.int .u64))::R)) :
  aA n 60 [.ptr b 0,.int .i64 a,.int .u64 w] h λr h'=>r=.int .i64 (if 1≤a∧a<ws.length then 0 else 2)∧
   HS g h' (qA b [v]::qB e 1 (if 1≤a∧a<ws.length then ws.set a.toNat w else ws).length v ((if 1≤a∧a<ws.length then ws.set a.toNat w else ws).map (.int .u64))::R):=by
 refine cL (S:=S60) rfl omQ λk hk=>?_;unfold S60;try simp only[iZ]
 refine qV (PO omQ H .here e_1) ?_;rintro _ _ ⟨rfl,rfl⟩;by_cases hc:1≤a∧a<ws.length
 ·rw[iG hc];simp only[iJ hc];obtain⟨k,rfl⟩:∃k:Nat,a=k:=⟨a.toNat,by omega⟩;refine jY (qJ (qK (qQ (qZ ‹_› .here rfl ?_))));refine X5 (H.aG e_1) omQ ⟨rfl,rfl⟩ λh2 H2=>?_;rw[← List.map_set]at H2;exact qG ⟨rfl,by rw[List.length_set];exact H2.sub (.cons e_1 (.cons .here .refl))⟩
 ·rw[iV hc];simp only[iQ hc];refine jB (qX ?_);exact qG ⟨rfl,H⟩
theorem qKE {ws:List Int} {w:Int} (hn:2≤n) (H:HS g h (qA b [v]::qB e 1 ws.length v (ws.map (.int .u64))::R)) :
  aA n 67 [.ptr b 0,.int .i64 a,.int .u64 w] h λr h'=>r=.int .i64 (if 0≤a∧a<ws.length then 0 else 2)∧
   HS g h' (qA b [v]::qB e 1 (if 0≤a∧a<ws.length then ws.set a.toNat w else ws).length v ((if 0≤a∧a<ws.length then ws.set a.toNat w else ws).map (.int .u64))::R):=by
 refine cL (S:=S67) rfl omQ λk hk=>?_;unfold S67;try simp only[iZ]
 refine qV (PP omQ H .here e_1) ?_;rintro _ _ ⟨rfl,rfl⟩;by_cases hc:0≤a∧a<ws.length
 ·rw[iG hc];simp only[iJ hc];obtain⟨k,rfl⟩:∃k:Nat,a=k:=⟨a.toNat,by omega⟩;refine jY (qJ (qK (qQ (qZ ‹_› .here rfl ?_))));refine X5 (H.aG e_1) omQ ⟨rfl,rfl⟩ λh2 H2=>?_;rw[← List.map_set]at H2;exact qG ⟨rfl,by rw[List.length_set];exact H2.sub (.cons e_1 (.cons .here .refl))⟩
 ·rw[iV hc];simp only[iQ hc];refine jB (qX ?_);exact qG ⟨rfl,H⟩
variable {ls:List cZ} {wd:AV}
theorem qjL (hn:2≤n) (H:HS g h L) (s:aZ L (qA b [v,wd]) R) (s2:aZ L (qB e 3 ls.length v (ls.flatMap zG)) R2) :
  aA n 61 [.ptr b 0,.int .i64 a] h λr h'=>r=.bM [.agg (zG (if 0≤a∧a<ls.length then zQ ls a else b8)),.int .i64 (if 0≤a∧a<ls.length then 0 else 2)]∧HS g h' L:=by
 refine ba (S:=S61) rfl omQ λk hk=>?_;unfold S61;try simp only[iZ]
 refine qO H rfl λb0 h1 H1=>?_;refine qV (PQ omQ H1 (.there s) (.there s2)) ?_;rintro _ _ ⟨rfl,rfl⟩;by_cases hc:0≤a∧a<ls.length
 ·rw[iG hc,iJ hc,iJ hc];obtain⟨k,rfl⟩:∃k:Nat,a=k:=⟨a.toNat,by omega⟩;refine jY (qJ (qK (qQ (qZ H1 (.there s) rfl ?_))));refine zd (l:=zG (zQ ls k)) (H1.sl (.there s2)) omQ omQ (NJ omQ) ?_;refine qh H1 (b:=b0) .here rfl (by show 0+3≤3;omega) rfl λh2 H2=>?_;refine qF H2 (b:=b0) (off:=0) .here rfl omQ (l:=zG (zQ ls k)) rfl ?_;exact qG ⟨rfl,H2.drop⟩
 ·rw[iV hc,iQ hc,iQ hc];refine jB (qX (qM rfl ?_));refine qh H1 (b:=b0) .here rfl (by show 0+3≤3;omega) rfl λh2 H2=>?_;refine qF H2 (b:=b0) (off:=0) .here rfl omQ (l:=zG b8) rfl ?_;exact qG ⟨rfl,H2.drop⟩
def kE (n:Nat) (a:Int) (l:cZ):Int:=if 0≤a∧a<n then(if Y5 l then 0 else 1)else 2
theorem PR {l:cZ} (hn:3≤n) (H:HS g h L) (s:aZ L (qA b [v,wd]) R) (s2:aZ L (qB e 3 m v xs) R2) :
  aA n 93 [.ptr b 0,.int .i64 a,.agg (zG l)] h λr h'=>r=.int .i64 (kE m a l)∧HS g h' L:=by
 refine cL (S:=S93) rfl omQ λk hk=>?_;unfold S93;try simp only[iZ]
 unfold kE;refine qO H rfl λb0 h1 H1=>?_;refine qV (PQ omQ H1 (.there s) (.there s2)) ?_;rintro _ _ ⟨rfl,rfl⟩;by_cases hc:0≤a∧a<m
 ·rw[iG hc,iJ hc];refine jY (qJ (qF H1 (b:=b0) (off:=0) .here rfl omQ (l:=zG l) rfl ?_));refine qV (qwS omQ H1) ?_;rintro _ h2 ⟨rfl,H2⟩;by_cases hl:Y5 l
  ·rw[iG hl,iJ hl];refine jY (qJ ?_);exact qG ⟨rfl,H2.drop⟩
  ·rw[iV hl,iQ hl];refine jB (qX ?_);exact qG ⟨rfl,H2.drop⟩
 ·rw[iV hc,iQ hc];refine jB (qX ?_);exact qG ⟨rfl,H1.drop⟩
theorem PS (x y:cZ):xY [.lD .int 0,.lD .bool 1,.lD .int 2] (zG x) (zG y)=some (decide (x=y)):=by obtain⟨a,b,c⟩:=x;obtain⟨a',b',c'⟩:=y;show(bif lC a a' then(bif b==b' then(bif lC c c' then some true else some false)else some false)else some false)=_;rw[XU,XU];by_cases h1:a=a'<;>by_cases h3:c=c'<;>cases b<;>cases b'<;>simp[h1,h3]
theorem qva {aR l:cZ} (hn:4≤n) (H:HS g h (qA b [v,wd]::qB e 3 ls.length v (ls.flatMap zG)::R)) :
  aA n 62 [.ptr b 0,.int .i64 a,.agg (zG aR),.agg (zG l)] h λr h'=>r=.bM [.bool (decide (kE ls.length a l=0∧zQ ls a=aR)),.int .i64 (kE ls.length a l)]∧
   HS g h' (qA b [v,wd]::qB e 3 (if kE ls.length a l=0∧zQ ls a=aR then ls.set a.toNat l else ls).length v ((if kE ls.length a l=0∧zQ ls a=aR then ls.set a.toNat l else ls).flatMap zG)::R):=by
 (refine qy (g:=W62) rfl omQ λk hk=>?_;show wp (S62 (callT tab qx k) _ _ _ _ _) _;unfold S62;try simp only[iI,iZ])
 refine qO H rfl λb0 h1 H1=>?_;refine qO H1 rfl λb1 h2 H2=>?_;refine qF H2 (b:=b1) (off:=0) .here rfl omQ (l:=zG l) rfl ?_;refine qV (PR (l:=l) omQ H2 e_2 e_3) ?_;rintro _ h3 ⟨rfl,H3⟩;by_cases c0:kE ls.length a l=0
 rotate_left
 ·refine jQ c0 ?_;refine qX ?_;rw[iV (λh=>c0 h.1)];simp only[iQ (show¬(kE ls.length a l=0∧zQ ls a=aR)from λh=>c0 h.1)];exact qG ⟨rfl,H3.drop.drop⟩
 have hc:0≤a∧a<ls.length:=by
  unfold kE at c0
  split at c0
  ·assumption
  ·cases c0
 obtain⟨k,rfl⟩:∃k:Nat,a=k:=⟨a.toNat,by omega⟩;refine qs c0 ?_;refine qJ (qK (qQ (qZ ‹_› e_2 rfl ?_)));refine zd (l:=zG (zQ ls k)) (H3.sl e_3) omQ omQ (NJ omQ) ?_;refine qF H3 (b:=b0) (off:=0) e_1 rfl omQ (l:=zG aR) rfl ?_;refine Pv (p:=zQ ls k=aR) (PS _ _) (λc1=>?_) (λc1=>?_)
 ·rw[iG ⟨c0,c1⟩];simp only[iJ (show kE ls.length k l=0∧zQ ls k=aR from⟨c0,c1⟩)];rw[c0];refine qJ (qK (qQ (qZ ‹_› e_2 rfl ?_)));refine qF H3 (b:=b1) (off:=0) .here rfl omQ (l:=zG l) rfl ?_;refine Fy (l:=zG l) (i:=k) (H3.aG e_3) omQ rfl rfl λh4 H4=>?_;rw[NZ (sz:=3) (enc:=zG) (l:=ls) (i:=k) (a:=l) (λ_=>rfl) omQ]at H4;exact qG ⟨rfl,by rw[List.length_set];exact H4.sub (.cons e_3 (.cons .here (.drop (.drop .refl))))⟩
 ·rw[iV (λh=>c1 h.2)];simp only[iQ (show¬(kE ls.length k l=0∧zQ ls k=aR)from λh=>c1 h.2)];rw[c0];refine qX ?_;exact qG ⟨rfl,H3.drop.drop⟩
theorem qGO {l:cZ} (hn:4≤n) (H:HS g h (qA b [v,wd]::qB e 3 ls.length v (ls.flatMap zG)::R)) :
  aA n 63 [.ptr b 0,.int .i64 a,.agg (zG l)] h λr h'=>r=.int .i64 (kE ls.length a l)∧
   HS g h' (qA b [v,wd]::qB e 3 (if kE ls.length a l=0 then ls.set a.toNat l else ls).length v ((if kE ls.length a l=0 then ls.set a.toNat l else ls).flatMap zG)::R):=by
 refine cL (S:=S63) rfl omQ λk hk=>?_;unfold S63;try simp only[iZ]
 refine qO H rfl λb0 h1 H1=>?_;refine qF H1 (b:=b0) (off:=0) .here rfl omQ (l:=zG l) rfl ?_;refine qV (PR (l:=l) omQ H1 e_1 e_2) ?_;rintro _ h3 ⟨rfl,H3⟩;refine qW ?_
 try dsimp only
 by_cases c0:kE ls.length a l=0
 rotate_left
 ·refine qj c0 ?_;refine qJ (qk ?_);simp only[iQ c0];exact qG ⟨rfl,H3.drop⟩
 have hc:0≤a∧a<ls.length:=by
  unfold kE at c0
  split at c0
  ·assumption
  ·cases c0
 obtain⟨k,rfl⟩:∃k:Nat,a=k:=⟨a.toNat,by omega⟩;refine qg c0 ?_;simp only[iJ c0];refine qX (qK (qQ (qZ ‹_› e_1 rfl ?_)));refine qF H3 (b:=b0) (off:=0) .here rfl omQ (l:=zG l) rfl ?_;refine Fy (l:=zG l) (i:=k) (H3.aG e_2) omQ rfl rfl λh4 H4=>?_;rw[NZ (sz:=3) (enc:=zG) (l:=ls) (i:=k) (a:=l) (λ_=>rfl) omQ]at H4;refine qk ?_;exact qG ⟨rfl,by rw[List.length_set];exact H4.sub (.cons e_2 (.cons .here (.drop .refl)))⟩
end
def uy (p hb tb cb sb:Nat) (wv lv sv:AV) (S:zR) (M:jD) (R:List SP):List SP :=
 qA p [.int .i64 S.words,.int .i64 S.al,.int .i64 S.wide,.int .i64 S.aa,.int .u64 S.start,.ptr hb 0,.ptr tb 0,.ptr cb 0,.ptr sb 0,.int .i64 M.aX]::qA hb [wv]::qB 31 1 M.w.length wv (M.w.map (.int .u64))::
 qA tb [lv,.int .i64 S.wide]::qB 62 3 M.l.length lv (M.l.flatMap zG)::qA cb [.int .u64 M.n]::qA sb [sv]::qB 31 1 M.s.length sv (M.s.map (.int .u64))::R
def bS (p:Nat) (S:zR) (M:jD):SP:=.ex λq:(Nat×Nat×Nat×Nat)×AV×AV×AV=>.all (uy p q.1.1 q.1.2.1 q.1.2.2.1 q.1.2.2.2 q.2.1 q.2.2.1 q.2.2.2 S M [])
section
variable {p hb tb cb sb:Nat} {wv lv sv:AV} {S:zR} {M:jD}
theorem bS.E (H:HS g h (bS p S M::R)):∃hb tb cb sb wv lv sv,HS g h (qA p [.int .i64 S.words,.int .i64 S.al,.int .i64 S.wide,.int .i64 S.aa,.int .u64 S.start,.ptr hb 0,.ptr tb 0,.ptr cb 0,.ptr sb 0,.int .i64 M.aX]::qA hb [wv]::qB 31 1 M.w.length wv (M.w.map (.int .u64))::
  qA tb [lv,.int .i64 S.wide]::qB 62 3 M.l.length lv (M.l.flatMap zG)::qA cb [.int .u64 M.n]::qA sb [sv]::qB 31 1 M.s.length sv (M.s.map (.int .u64))::R):=by
 obtain⟨⟨⟨hb,tb,cb,sb⟩,wv,lv,sv⟩,H⟩:=H.dU;exact⟨hb,tb,cb,sb,wv,lv,sv,H.b9⟩
theorem bS.I (H:HS g h (uy p hb tb cb sb wv lv sv S M R)):HS g h (bS p S M::R):=HS.ei ((hb,tb,cb,sb),wv,lv,sv) (HS.allI (A:=uy p hb tb cb sb wv lv sv S M []) H)
end
end
section
variable {g h:AH} {L R:List SP}
def xr (p:JZ) (xs:List AV):List AV:=.int .i64 p.me:: .int .i64 p.af:: .int .i64 p.fin:: .int .i64 p.dB:: .int .i64 p.err::xs
def ri (o:Option dz):AV:=.bM [.agg (x8 (o.getD (bg 0 0 0))),.bool o.isSome]
def KZ (p:JZ):Prop:=p.fin=0→0≤p.af∧p.af≤4
section
variable {n b:Nat} {p:JZ} {xs:List AV}
theorem NH {me sp:Int} (hn:1≤n) (H:HS g h R):aA n 129 [.int .i64 me,.int .i64 sp] h λr h'=>r=.agg (xr (QM me sp) [])∧HS g h' R:=by
 refine ba (S:=S129) rfl omQ λk hk=>?_;unfold S129;try simp only[iZ]
 refine qO H rfl λb h1 H1=>?_;refine zk (zn (qM rfl ?_));refine qh H1 (b:=b) .here rfl (by show 0+5≤5;omega) rfl λh2 H2=>?_;refine qF H2 (b:=b) (off:=0) .here rfl omQ (l:=xr (QM me sp) []) rfl ?_;exact qG ⟨rfl,H2.drop⟩
theorem Xz (hn:1≤n) (H:HS g h L) (s:aZ L (qA b (xr p xs)) R):aA n 140 [.ptr b 0] h λr h'=>r=.int .i64 p.fin∧h'=h:=by
 refine ay (S:=S140) rfl omQ λk hk=>?_;unfold S140;try simp only
 refine qK (qQ ?_);exact qZ H s rfl (qG ⟨rfl,rfl⟩)
theorem qzs (hn:1≤n) (H:HS g h L) (s:aZ L (qA b (xr p xs)) R):aA n 167 [.ptr b 0] h λr h'=>r=.int .i64 p.err∧h'=h:=by
 refine ay (S:=S167) rfl omQ λk hk=>?_;unfold S167;try simp only
 refine qK (qQ ?_);exact qZ H s rfl (qG ⟨rfl,rfl⟩)
theorem Hq (hn:1≤n) (H:HS g h L) (s:aZ L (qA b (xr p xs)) R):aA n 354 [.ptr b 0] h λr h'=>r=.int .i64 p.dB∧h'=h:=by
 refine ay (S:=S354) rfl omQ λk hk=>?_;unfold S354;try simp only
 refine qK (qQ ?_);exact qZ H s rfl (qG ⟨rfl,rfl⟩)
theorem gK {f e y:Int} (hn:1≤n) (H:HS g h (qA b (xr p xs)::R)):aA n 356 [.ptr b 0,.int .i64 f,.int .i64 e,.int .i64 y] h λ_ h'=>HS g h' (qA b (xr (zV p f e y) xs)::R):=by
 refine nL (S:=S356) rfl omQ λk hk=>?_;unfold S356;try simp only
 unfold xr at H;refine qK (qQ (qw H (b:=b) .here ⟨rfl,rfl⟩ aN λh1 H1=>?_));refine qK (qQ (qw H1 (b:=b) .here ⟨rfl,rfl⟩ aN λh2 H2=>?_));refine qK (qQ (qw H2 (b:=b) .here ⟨rfl,rfl⟩ aN λh3 H3=>?_));exact qG H3
theorem GA {l:cZ} (hn:1≤n) (hp:0≤p.af∧p.af≤4) (H:HS g h (qA b (xr p xs)::R)):aA n 358 [.ptr b 0,.agg (zG l)] h λr h'=>r=.bool (ji p l).1∧HS g h' (qA b (xr (ji p l).2 xs)::R):=by
 refine ba (S:=S358) rfl omQ λk hk=>?_;unfold S358;try simp only[iZ]
 refine qO H rfl λb0 h1 H1=>?_;have H1:HS g h1 (qA b0 (zG l)::qA b (.int .i64 p.me:: .int .i64 p.af:: .int .i64 p.fin:: .int .i64 p.dB:: .int .i64 p.err::xs)::R):=H1;unfold zG at H1;refine qQ (qZ ‹_› .here rfl ?_);refine qK (qQ (qZ ‹_› e_1 rfl ?_));unfold ji;by_cases c:p.me<l.2.2
 ·refine vQ c ?_;rw[iJ c];refine qX ?_;exact qG ⟨rfl,H1.drop⟩
 ·refine yQ c ?_;rw[iQ c];refine qJ (qK (qQ (qZ ‹_› e_1 rfl ?_)));refine zD omQ ?_;refine qK (qQ (qw H1 (b:=b) e_1 ⟨rfl,rfl⟩ aN λh2 H2=>?_));have H2:HS g h2 (qA b (.int .i64 p.me:: .int .i64 (p.af-1):: .int .i64 p.fin:: .int .i64 p.dB:: .int .i64 p.err::xs)::qA b0 (zG l)::R):=H2;refine qK (qQ (qZ ‹_› .here rfl ?_));refine yg (λc2=>?_) (λc2=>?_)
  ·exact qG ⟨by rw[iG omQ],H2.sub (.cons .here (.drop .refl))⟩
  ·exact qG ⟨by rw[iV omQ],H2.sub (.cons .here (.drop .refl))⟩
theorem JR {a:cO} (hn:2≤n) (H:HS g h (qA b (xr p xs)::R)):aA n 355 [.ptr b 0,.agg (z6 a)] h λr h'=>r=.bool (qu p a).1∧HS g h' (qA b (xr (qu p a).2 xs)::R):=by
 refine ba (S:=S355) rfl omQ λk hk=>?_;unfold S355;try simp only[iZ]
 refine qO H rfl λb0 h1 H1=>?_;have H1:HS g h1 (qA b0 (z6 a)::qA b (.int .i64 p.me:: .int .i64 p.af:: .int .i64 p.fin:: .int .i64 p.dB:: .int .i64 p.err::xs)::R):=H1;unfold z6 at H1;refine jo [] (λs h'=>s=(.ptr b 0,())∧HS g h' (qA b (xr (if p.fin=0∧a.err≠0 then zV p 4 a.err (-1)else p) xs)::R)) ?_ ?_
 rotate_left
 ·rintro s h2 ⟨rfl,H2⟩;unfold xr at H2;refine qK (qQ (qZ ‹_› .here rfl ?_));by_cases c:p.fin=0∧a.err≠0
  ·rw[iJ c]at H2;rw[show qu p a=(true,zV p 4 a.err (-1))from iJ c];rw[iJ c];refine jQ (by show(4:Int)≠0;decide) ?_;refine qk ?_;exact qG ⟨rfl,H2⟩
  ·rw[iQ c]at H2;rw[show qu p a=(decide (p.fin≠0),p)from iQ c];rw[iQ c];refine vA (λc2=>?_) (λc2=>?_)
   ·refine qk ?_;exact qG ⟨congrArg AV.bool (iG (p:=p.fin≠0) c2).symm,H2⟩
   ·refine qk ?_;exact qG ⟨congrArg AV.bool (iV (p:=p.fin≠0) (λh=>h c2)).symm,H2⟩
 intro j hj;refine qK (qQ (qZ ‹_› e_1 rfl ?_));by_cases c:p.fin=0
 ·refine qg c ?_;refine qW ?_;(try dsimp only);refine qa ?_;(try dsimp only);refine qQ (qZ ‹_› .here rfl ?_)
  by_cases c2:a.err=0
  ·refine qs c2 ?_;refine qH (qJ ?_);exact hj _ _ ⟨rfl,by rw[iQ (λh=>h.2 c2)];exact H1.drop⟩
  ·refine jQ c2 ?_;refine qH (qX (qQ (qZ ‹_› .here rfl ?_)));refine qV (gK (p:=p) omQ (H1.aG e_1)) λ_ h2 H2=>?_;exact hj _ _ ⟨rfl,by rw[iJ ⟨c,c2⟩];exact H2.sub (.cons .here (.drop .refl))⟩
 ·refine qj c ?_;refine qW ?_;(try dsimp only);refine qU ?_;(try dsimp only);refine qI (qJ ?_)
  exact hj _ _ ⟨rfl,by rw[iQ (λh=>c h.1)];exact H1.drop⟩
end
def ge (f:QT):List AV:=xr f.p [.int .i64 f.at_,.int .i64 f.cF,.int .u64 f.aj,.int .i64 f.state,.int .u64 f.lk.1,.bool f.lk.2.1,.int .i64 f.lk.2.2,.int .u64 f.word]
section
variable {n b:Nat} {f:QT}
theorem qkF {me at_ st sp t:Int} (hn:2≤n) (H:HS g h R):aA n 125 [.int .i64 me,.int .i64 at_,.int .i64 st,.int .i64 sp,.int .u64 t] h λr h'=>∃b,r=.ptr b 0∧HS g h' (qA b (ge (kP me at_ st sp t))::R):=by
 refine FA (S:=S125) rfl omQ λk hk=>?_;unfold S125;try simp only[iZ]
 refine qV (NH omQ H) ?_;rintro _ h1 ⟨rfl,H1⟩;unfold xr;refine qM rfl ?_;refine qO H1 rfl λb h2 H2=>qG ⟨b,rfl,H2⟩
theorem qWO (hn:2≤n) (H:HS g h (qA b (ge f)::R)):aA n 352 [.ptr b 0] h λr h'=>r=ri (KE f)∧HS g h' (qA b (ge f)::R):=by
 refine ay (S:=S352) rfl omQ λk hk=>?_;unfold S352;try simp only[iZ]
 refine qO H rfl λb0 h1 H1=>?_;refine qK (qQ (qV (Xz omQ H1 e_1) ?_));rintro _ _ ⟨rfl,rfl⟩;unfold KE;have H2:=H1;unfold ge xr at H2;by_cases c:f.p.fin=0
 ·refine qs c ?_;rw[iQ (λh=>h c)];refine qJ (qK (qQ (qZ ‹_› e_1 rfl ?_)));by_cases c2:f.state=1
  ·refine qg c2 ?_;rw[iJ c2];refine qX (qK (qQ (qZ ‹_› e_1 rfl ?_)));refine qM rfl ?_;refine qh H1 (b:=b0) .here rfl (by show 0+10≤10;omega) rfl λh3 H3=>?_;refine qF H3 (b:=b0) (off:=0) .here rfl omQ (l:=x8 (bg 1 f.at_ 0)) rfl ?_;exact qG ⟨rfl,H3.drop⟩
  ·refine qj c2 ?_;rw[iQ c2];refine qJ (qK (qQ (qZ ‹_› e_1 rfl ?_)));refine qM rfl ?_;refine qh H1 (b:=b0) .here rfl (by show 0+10≤10;omega) rfl λh3 H3=>?_;refine qF H3 (b:=b0) (off:=0) .here rfl omQ (l:=x8 (bg 3 f.cF 0)) rfl ?_;exact qG ⟨rfl,H3.drop⟩
 ·refine jQ c ?_;rw[iJ c];refine qX (qM rfl ?_);refine qh H1 (b:=b0) .here rfl (by show 0+10≤10;omega) rfl λh3 H3=>?_;refine qF H3 (b:=b0) (off:=0) .here rfl omQ (l:=x8 (bg 0 0 0)) rfl ?_;exact qG ⟨rfl,H3.drop⟩
theorem V7 {l:cZ} (hn:2≤n) (hp:0≤f.p.af∧f.p.af≤4) (H:HS g h (qA b (ge f)::R)):aA n 357 [.ptr b 0,.agg (zG l)] h λ_ h'=>HS g h' (qA b (ge (Jt f l))::R):=by
 refine ba (S:=S357) rfl omQ λk hk=>?_;unfold S357;try simp only[iZ]
 refine qO H rfl λb0 h1 H1=>?_;unfold ge xr zG at H1;refine qK (qQ (qw H1 (b:=b) e_1 ⟨rfl,rfl⟩ aN λh2 H2=>?_));have H2:HS g h2 (qA b (ge { f with state:=0 })::qA b0 (zG l)::R):=H2;have H3:=H2;unfold ge xr zG at H3;refine qW ?_;(try dsimp only);refine qQ (qZ ‹_› e_1 rfl ?_)
 unfold Jt;obtain⟨w,d,o⟩:=l;cases d with
 |true=>
  rw[iJ rfl];refine qX (qK (qQ (qF H2 (b:=b0) (off:=0) e_1 rfl omQ (l:=zG (w,true,o)) rfl ?_)));refine qV (GA (l:=(w,true,o)) omQ hp H2) ?_;rintro _ h4 ⟨rfl,H4⟩;cases hw:(ji f.p (w,true,o)).1 with
  |true=>rw[iJ rfl];refine jY (qJ (qk ?_));exact qG (H4.sub (.cons .here (.drop .refl)))
  |false=>rw[iQ aN];have H5:=H4;unfold zG at H5;refine jB (qX (qK (qQ (qQ (qZ ‹_› e_1 rfl ?_)))));refine qV (gK omQ H4) λ_ h5 H5=>?_;refine qk ?_;exact qG (H5.sub (.cons .here (.drop .refl)))
 |false=>
  rw[iQ aN];refine qJ (qQ (qZ ‹_› e_1 rfl ?_));refine qK (qQ (qZ ‹_› .here rfl ?_));by_cases c:f.aj<w
  ·refine vQ c ?_;rw[iJ c];refine qX (qK (qQ (qV (gK omQ H2) λ_ h5 H5=>?_)));refine qk ?_;exact qG (H5.sub (.cons .here (.drop .refl)))
  ·refine yQ c ?_;rw[iQ c];refine qJ (qF H3 (b:=b0) (off:=0) e_1 rfl omQ (l:=zG (w,false,o)) rfl ?_);refine qK (qQ (qh H3 (b:=b) .here rfl (by show 9+3≤13;omega) rfl λh5 H5=>?_));refine qK (qQ (qw H5 (b:=b) .here ⟨rfl,rfl⟩ (by simp[kT]) λh6 H6=>?_));refine qk ?_;exact qG (H6.sub (.cons .here (.drop .refl)))
theorem qYE {a:cO} (hn:3≤n) (hp:KZ f.p) (H:HS g h (qA b (ge f)::R)):aA n 353 [.ptr b 0,.agg (z6 a)] h λ_ h'=>HS g h' (qA b (ge (xC f a))::R):=by
 (refine qy (g:=W353) rfl omQ λk hk=>?_;show wp (S353 (callT tab qx k) _ _ _) _;unfold S353;try simp only[iI,iZ])
 generalize hF:xC f a=F;refine qO H rfl λb0 h1 H1=>?_;refine jo [] (λ_ h'=>HS g h' (qA b (ge F)::R)) (λj hj=>?_) λ_ h' H'=>?_
 rotate_left
 ·refine qk ?_;exact qG H'
 refine qK (qQ (qF H1 (b:=b0) (off:=0) .here rfl omQ (l:=z6 a) rfl ?_));refine qV (JR omQ (H1.aG e_1)) ?_;rintro _ h2 ⟨rfl,H2⟩;unfold xC at hF;cases hs:(qu f.p a).1 with
 |true=>rw[iJ hs]at hF;refine qX ?_;exact hj _ _ (by rw[← hF];exact H2.sub (.cons .here (.drop .refl)))
 |false=>
  rw[iQ (by rw[hs];simp)]at hF;have pD:(qu f.p a).2=f.p∧f.p.fin=0:=by
   unfold qu at hs ⊢
   split at hs
   ·cases hs
   ·rename_i c;rw[iQ c];exact⟨rfl,by simpa using hs⟩
  rw[pD.1]at H2;have H3:HS g h2 (qA b (ge f)::qA b0 (z6 a)::R):=H2;have H4:=H3;unfold ge xr z6 at H4;refine qJ (qK (qQ (qZ ‹_› .here rfl ?_)));by_cases c1:f.state=1
  ·refine qg c1 ?_;rw[iJ c1]at hF;refine qX (qQ (qZ ‹_› e_1 rfl ?_));refine qK (qQ (qw H4 (b:=b) .here ⟨rfl,rfl⟩ aN λh5 H5=>?_));refine qK (qQ (qw H5 (b:=b) .here ⟨rfl,rfl⟩ aN λh6 H6=>?_));exact hj _ _ (by rw[← hF];exact H6.sub (.cons .here (.drop .refl)))
  refine qj c1 ?_;rw[iQ c1]at hF;refine qJ (qK (qQ (qZ ‹_› .here rfl ?_)));by_cases c2:f.state=2
  ·refine qg c2 ?_;refine qW ?_;(try dsimp only);refine qa ?_;(try dsimp only);refine qQ ?_
   refine qF H4 (b:=b0) (off:=1) e_1 rfl omQ (l:=zG a.lk) rfl ?_;refine qK (qQ (qF H4 (b:=b) (off:=9) .here rfl omQ (l:=zG f.lk) rfl ?_));refine Pv (p:=a.lk=f.lk) (PS _ _) (λc3=>?_) (λc3=>?_)
   ·rw[iJ ⟨c2,c3⟩]at hF;show wp (gG (.bool true) (.bool true) (.bool false) _) _;refine qH (qX (qK (qQ (qV (gK omQ H3) λ_ h5 H5=>?_))));exact hj _ _ (by rw[← hF];exact H5.sub (.cons .here (.drop .refl)))
   ·rw[iQ (λh=>c3 h.2)]at hF;refine qH (qJ (qQ (qF H4 (b:=b0) (off:=1) e_1 rfl omQ (l:=zG a.lk) rfl ?_)));refine qV (V7 omQ (hp pD.2) H3) λ_ h5 H5=>?_;exact hj _ _ (by rw[← hF];exact H5.sub (.cons .here (.drop .refl)))
  ·refine qj c2 ?_;rw[iQ (λh=>c2 h.1)]at hF;refine qW ?_;(try dsimp only);refine qU ?_;(try dsimp only);refine qI (qJ (qQ ?_))
   refine qF H4 (b:=b0) (off:=1) e_1 rfl omQ (l:=zG a.lk) rfl ?_;refine qV (V7 omQ (hp pD.2) H3) λ_ h5 H5=>?_;exact hj _ _ (by rw[← hF];exact H5.sub (.cons .here (.drop .refl)))
theorem Kx (hn:2≤n) (H:HS g h L) (s:aZ L (qA b (ge f)) R):aA n 161 [.ptr b 0] h λr h'=>r=.int .i64 f.p.fin∧h'=h:=by
 refine ay (S:=S161) rfl omQ λk hk=>?_;unfold S161;try simp only
 refine qK (qQ (qV (Xz omQ H s) ?_));rintro _ _ ⟨rfl,rfl⟩;exact qG ⟨rfl,rfl⟩
theorem qg1 (hn:2≤n) (H:HS g h L) (s:aZ L (qA b (ge f)) R):aA n 351 [.ptr b 0] h λr h'=>r=.int .i64 f.p.dB∧h'=h:=by
 refine ay (S:=S351) rfl omQ λk hk=>?_;unfold S351;try simp only
 refine qK (qQ (qV (Hq omQ H s) ?_));rintro _ _ ⟨rfl,rfl⟩;exact qG ⟨rfl,rfl⟩
theorem qYm (hn:3≤n) (H:HS g h L) (s:aZ L (qA b (ge f)) R):aA n 165 [.ptr b 0] h λr h'=>r=.int .u64 (x9 f)∧h'=h:=by
 refine ay (S:=S165) rfl omQ λk hk=>?_;unfold S165;try simp only[iZ]
 refine qV (Kx omQ H s) ?_;rintro _ _ ⟨rfl,rfl⟩;unfold x9;by_cases c:f.p.fin=2
 ·refine qs c ?_;rw[iQ (λh=>h c)];refine qJ (qK (qQ ?_));exact qZ H s rfl (qG ⟨rfl,rfl⟩)
 ·refine jQ c ?_;rw[iJ c];refine qX ?_;exact qG ⟨rfl,rfl⟩
def yi (x:xj):List AV:=[.int .i64 x.1,.int .u64 x.2]
theorem qWt (hn:3≤n) (H:HS g h L) (s:aZ L (qA b (ge f)) R):aA n 163 [.ptr b 0] h λr h'=>r=.agg (yi (ya f))∧HS g h' L:=by
 refine ay (S:=S163) rfl omQ λk hk=>?_;unfold S163;try simp only[iZ]
 refine qO H rfl λb0 h1 H1=>?_;refine qV (Kx omQ H1 (.there s)) ?_;rintro _ _ ⟨rfl,rfl⟩;unfold ya;by_cases c:f.p.fin=2
 ·refine qs c ?_;rw[iQ (λh=>h c)];refine qJ (qK (qQ (qZ H1 (.there s) rfl ?_)));refine qK (qQ (qZ H1 (.there s) rfl ?_));refine qM rfl ?_;refine qh H1 (b:=b0) .here rfl (by show 0+2≤2;omega) rfl λh3 H3=>?_;refine qF H3 (b:=b0) (off:=0) .here rfl omQ (l:=yi (f.cF,f.lk.1)) rfl ?_;exact qG ⟨rfl,H3.drop⟩
 ·refine jQ c ?_;rw[iJ c];refine qX (qM rfl ?_);refine qh H1 (b:=b0) .here rfl (by show 0+2≤2;omega) rfl λh3 H3=>?_;refine qF H3 (b:=b0) (off:=0) .here rfl omQ (l:=yi (0,0)) rfl ?_;exact qG ⟨rfl,H3.drop⟩
end
end
section
variable {g h:AH} {L R:List SP}
section
variable {n m:Nat} {v:AV} {xs:List AV}
theorem qGa (hn:1≤n) (H:HS g h L) (s:aZ L (qB 31 1 m v xs) R) (ha:qn xs=true) (hm:m≤1000000) :
  aA n 68 [v] h λr h'=>HS g h' (qB 31 1 m r xs::L):=by
 refine ay (S:=S68) rfl omQ λk hk=>?_;unfold S68;try simp only[iZ]
 refine QY H s (λh1 h2=>?_) (qJ ?_)
 ·subst h1 h2;obtain rfl:xs=[]:=iA (by simpa using H.cT s);exact qX (qG H.ak)
 ·refine qm (n:=0) (l:=[]) (sz:=1) H rfl rfl rfl rfl λv2 h2 H2=>?_;refine ja H2 (H2.sl (.there s)) omQ omQ ha λv3 h3 H3=>?_;rw[Nat.zero_add,List.nil_append]at H3;exact qG H3
theorem YE (hn:1≤n) (H:HS g h L) (s:aZ L (qB 110 2 m v xs) R) (ha:qn xs=true) (hm:m≤1000000) :
  aA n 112 [v] h λr h'=>HS g h' (qB 110 2 m r xs::L):=by
 refine ay (S:=S112) rfl omQ λk hk=>?_;unfold S112;try simp only[iZ]
 refine QY H s (λh1 h2=>?_) (qJ ?_)
 ·subst h1 h2;obtain rfl:xs=[]:=iA (by simpa using H.cT s);exact qX (qG H.ak)
 ·refine qm (n:=0) (l:=[]) (sz:=2) H rfl rfl rfl rfl λv2 h2 H2=>?_;refine ja H2 (H2.sl (.there s)) omQ omQ ha λv3 h3 H3=>?_;rw[Nat.zero_add,List.nil_append]at H3;exact qG H3
end
theorem Na {f:Int→AV} (hf:∀x,(f x).one=true):∀l:List Int,qn (l.map f)=true:=by intro l;unfold qn;rw[List.all_map,List.all_eq_true];intro x _;exact hf x
theorem ke {α:Type} {f:α→List AV} (hf:∀x,qn (f x)=true):∀l:List α,qn (l.flatMap f)=true:=by
 intro l
 induction l with
 |nil=>rfl
 |cons x l ih=>rw[List.flatMap_cons];unfold qn at*;rw[List.all_append,hf,ih];rfl
section
variable {n b m:Nat} {v wd:AV} {e:TypeId} {xs:List AV} {R2:List SP}
theorem qvn (hn:2≤n) (H:HS g h L) (s:aZ L (qA b [v]) R) (s2:aZ L (qB 31 1 m v xs) R2) (ha:qn xs=true) (hm:m≤1000000) :
  aA n 43 [.ptr b 0] h λr h'=>HS g h' (qB 31 1 m r xs::L):=by
 refine ay (S:=S43) rfl omQ λk hk=>?_;unfold S43;try simp only
 refine qK (qQ (qZ H s rfl ?_));exact qV (qGa omQ H s2 ha hm) λ_ _ H1=>qG H1
end
section
variable {n p hb tb cb sb:Nat} {wv lv sv:AV} {S:zR} {M:jD} {o:dz}
theorem bS.I1 {X:SP} (H:HS g h (X::uy p hb tb cb sb wv lv sv S M R)):HS g h (X::bS p S M::R):=HS.bZ e_1 (bS.I (HS.back (A:=uy p hb tb cb sb wv lv sv S M []) H))
theorem qGE (hn:3≤n) (hw:M.w.length≤1000000) (H:HS g h (bS p S M::R)) :
  aA n 24 [.ptr p 0] h λr h'=>HS g h' (qB 31 1 M.w.length r (M.w.map (.int .u64))::bS p S M::R):=by
 refine ay (S:=S24) rfl omQ λk hk=>?_;unfold S24;try simp only
 obtain⟨hb,tb,cb,sb,wv,lv,sv,H⟩:=bS.E H;refine qK (qQ (qZ ‹_› .here rfl ?_));exact qV (qvn omQ H e_1 e_2 (Na (λ_=>rfl) _) hw) λ_ _ H1=>qG (bS.I1 H1)
theorem qzN {b:Nat} {x:Int} (hn:1≤n) (H:HS g h L) (s:aZ L (qA b [.int .u64 x]) R):aA n 64 [.ptr b 0] h λr h'=>r=.int .u64 x∧h'=h:=by
 refine ay (S:=S64) rfl omQ λk hk=>?_;unfold S64;try simp only
 refine qK (qQ ?_);exact qZ H s rfl (qG ⟨rfl,rfl⟩)
theorem qks {b:Nat} (hn:1≤n) (H:HS g h (qA b [.int .u64 M.n]::R)):aA n 65 [.ptr b 0,.int .u64 o.cW,.int .u64 o.word] h λr h'=>
  r=.bM [.bool (JO M { o with kind:=7 }).1.done,.int .i64 (JO M { o with kind:=7 }).1.err]∧HS g h' (qA b [.int .u64 (JO M { o with kind:=7 }).2.n]::R):=by
 refine cL (S:=S65) rfl omQ λk hk=>?_;unfold S65;try simp only[iZ]
 unfold JO;rw[iQ (show¬(7:Int)=6 by decide)];refine kj (λc1=>?_) (λc1=>?_)
 ·rw[iJ c1];refine qX ?_;exact qG ⟨rfl,H⟩
 rw[iQ c1];refine qJ (yg (λc2=>?_) (λc2=>?_))
 ·rw[iJ (by dsimp only;omega)];refine qX ?_;exact qG ⟨rfl,H⟩
 rw[iQ (by dsimp only;omega)];refine qJ (qK (qQ (qZ ‹_› .here rfl ?_)));refine vA (λc3=>?_) (λc3=>?_)
 ·rw[iJ c3];refine qX ?_;exact qG ⟨rfl,H⟩
 ·rw[iQ (λh=>h c3)];refine qJ (qK (qQ (qw H (b:=b) .here ⟨rfl,rfl⟩ aN λh2 H2=>?_)));exact qG ⟨rfl,H2⟩
def yH (M:jD) (o:dz):cO×jD:=if o.kind=1∨o.kind=2 then Jp M o else if o.kind=3∨o.kind=4∨o.kind=5 then QV M o else if o.kind=6∨o.kind=7 then JO M o else if o.kind=8∨o.kind=9 then QH M o else(ll 1,M)
theorem wF:jC M o=if(yH M o).1.err=0 then((yH M o).1,{ (yH M o).2 with aX:=(yH M o).2.aX+1 })else yH M o:=rfl
theorem ZS:(yH M o).2.aX=M.aX:=by
 unfold yH Jp QV JO QH
 repeat' split
 all_goals rfl
theorem qwb (hn:6≤n) (H:HS g h (bS p S M::R)) :
  aA n 39 [.ptr p 0,.agg (x8 o)] h λr h'=>r=.agg (z6 (yH M o).1)∧HS g h' (bS p S (yH M o).2::R):=by
 refine ba (S:=S39) rfl omQ λk hk=>?_;unfold S39;try simp only[iZ]
 generalize hr:yH M o=r;obtain⟨hb,tb,cb,sb,wv,lv,sv,H⟩:=bS.E H;refine qO H rfl λb0 h1 H1=>?_;refine qO H1 rfl λb1 h2 H2=>?_;refine qO H2 rfl λb2 h3 H3=>?_;clear H1 H2;unfold x8 at H3;refine qQ (qZ H3 (b:=b0) e_2 rfl ?_);refine jo [] (λs h'=>s=(.ptr b2 0,.ptr b1 0,())∧HS g h' (qA b2 (z6 r.1)::qA b1 (z6 fk)::uy p hb tb cb sb wv lv sv S r.2 R)) ?_ ?_
 rotate_left
 ·rintro s h4 ⟨rfl,H4⟩;dsimp only;refine qF H4 (b:=b2) (off:=0) .here rfl omQ (l:=z6 r.1) rfl ?_;refine qh H4 (b:=b1) e_1 rfl (by show 0+6≤6;omega) rfl λh5 H5=>?_;refine qk (qF H5 (b:=b1) (off:=0) .here rfl omQ (l:=z6 r.1) rfl ?_);exact qG ⟨rfl,bS.I (H5.drop.drop)⟩
 intro j hj;by_cases k1:o.kind=1
 ·refine qg k1 ?_;refine qX (qK (qQ (qZ ‹_› e_3 rfl ?_)));refine qQ (qZ ‹_› e_2 rfl ?_);have e:r=(⟨(if 1≤o.at_∧o.at_<M.w.length then qE M.w o.at_ else 0),b8,false,(if 1≤o.at_∧o.at_<M.w.length then 0 else 2)⟩,M):=by
   rw[← hr];unfold yH Jp ll;rw[iJ (.inl k1)];by_cases c:1≤o.at_∧o.at_<M.w.length
   ·rw[iQ omQ,iJ k1,iJ c,iJ c]
   ·rw[iJ omQ,iQ c,iQ c]
  subst e;refine qV (qjD omQ H3 e_4 e_5) ?_;rintro _ _ ⟨rfl,rfl⟩;refine qD rfl ?_;refine qD rfl ?_;refine qQ (qw H3 (b:=b2) .here ⟨rfl,rfl⟩ (by show 0<6;omega) λh4 H4=>?_);refine qQ (qw H4 (b:=b2) .here ⟨rfl,rfl⟩ (by show 5<6;omega) λh5 H5=>?_);exact hj _ _ ⟨rfl,H5.sub (.cons .here (.cons .here (.drop .refl)))⟩
 refine qj k1 ?_;refine qJ ?_;by_cases k2:o.kind=2
 ·refine qg k2 ?_;refine qX (qK (qQ (qZ ‹_› e_3 rfl ?_)));refine qQ (qZ ‹_› e_2 rfl ?_);refine qQ (qZ ‹_› e_2 rfl ?_);have e:r=(⟨0,b8,false,(if 1≤o.at_∧o.at_<M.w.length then 0 else 2)⟩,{ M with w:=(if 1≤o.at_∧o.at_<M.w.length then M.w.set o.at_.toNat o.word else M.w) }):=by
   rw[← hr];unfold yH Jp ll;rw[iJ (.inr k2)];by_cases c:1≤o.at_∧o.at_<M.w.length
   ·rw[iQ omQ,iQ k1,iJ c,iJ c];rfl
   ·rw[iJ omQ,iQ c,iQ c]
  subst e;refine qV (qKo omQ (H3.sub (.cons e_4 (.cons e_4 .refl)))) ?_;rintro _ h4 ⟨rfl,H4⟩;refine qQ (qw H4 (b:=b2) e_2 ⟨rfl,rfl⟩ (by show 5<6;omega) λh5 H5=>?_);exact hj _ _ ⟨rfl,H5.sub (.cons .here (.cons e_2 (.cons e_3 (.cons .here (.cons .here (.drop .refl))))))⟩
 refine qj k2 ?_;refine qJ ?_;by_cases k3:o.kind=3
 ·refine qg k3 ?_;refine qX (qK (qQ (qZ ‹_› e_3 rfl ?_)));refine qQ (qZ ‹_› e_2 rfl ?_);have e:r=(⟨0,(if 0≤o.at_∧o.at_<M.l.length then zQ M.l o.at_ else b8),false,(if 0≤o.at_∧o.at_<M.l.length then 0 else 2)⟩,M):=by
   rw[← hr];unfold yH QV ll;rw[iQ omQ,iJ (.inl k3)];by_cases c:0≤o.at_∧o.at_<M.l.length
   ·rw[iQ omQ,iJ k3,iJ c,iJ c]
   ·rw[iJ omQ,iQ c,iQ c]
  subst e;refine qV (qjL omQ H3 e_6 e_7) ?_;rintro _ h4 ⟨rfl,H4⟩;refine qD rfl ?_;refine qD rfl ?_;refine qQ (qh H4 (b:=b2) .here rfl (by show 1+3≤6;omega) rfl λh5 H5=>?_);refine qQ (qw H5 (b:=b2) .here ⟨rfl,rfl⟩ (by show 5<6;omega) λh6 H6=>?_);exact hj _ _ ⟨rfl,H6.sub (.cons .here (.cons .here (.drop .refl)))⟩
 refine qj k3 ?_;refine qJ ?_;by_cases k4:o.kind=4
 ·refine qg k4 ?_;refine qX (qK (qQ (qZ ‹_› e_3 rfl ?_)));refine qQ (qZ ‹_› e_2 rfl ?_);refine qQ ?_;have e:r=(⟨0,b8,decide (kE M.l.length o.at_ o.lk=0∧zQ M.l o.at_=o.aR),kE M.l.length o.at_ o.lk⟩,{ M with l:=if kE M.l.length o.at_ o.lk=0∧zQ M.l o.at_=o.aR then M.l.set o.at_.toNat o.lk else M.l }):=by
   rw[← hr];unfold yH QV kE ll fk;rw[iQ omQ,iJ (.inr (.inl k4))];by_cases c:0≤o.at_∧o.at_<M.l.length
   ·rw[iQ omQ,iQ k3,iJ c];by_cases c2:Y5 o.lk
    ·rw[iQ (λh=>h c2),iQ omQ,iJ c2];by_cases c3:zQ M.l o.at_=o.aR
     ·rw[iQ (λh=>h c3),iG ⟨rfl,c3⟩,iJ ⟨rfl,c3⟩]
     ·rw[iJ c3,iV (λh=>c3 h.2),iQ (λh=>c3 h.2)]
    ·rw[iJ c2,iQ c2,iV aN,iQ aN]
   ·rw[iJ omQ,iQ c,iV aN,iQ aN]
  subst e;refine qF H3 (b:=b0) (off:=4) e_2 rfl omQ (l:=zG o.aR) rfl ?_;refine qQ (qF H3 (b:=b0) (off:=7) e_2 rfl omQ (l:=zG o.lk) rfl ?_);refine qV (qva omQ (H3.sub (.cons e_6 (.cons e_6 .refl)))) ?_;rintro _ h4 ⟨rfl,H4⟩;refine qD rfl ?_;refine qD rfl ?_;refine qQ (qw H4 (b:=b2) e_2 ⟨rfl,rfl⟩ (by show 4<6;omega) λh5 H5=>?_);refine qQ (qw H5 (b:=b2) .here ⟨rfl,rfl⟩ (by show 5<6;omega) λh6 H6=>?_);exact hj _ _ ⟨rfl,H6.sub (.cons .here (.cons e_2 (.cons e_3 (.cons e_3 (.cons e_3 (.cons .here (.cons .here (.drop .refl))))))))⟩
 refine qj k4 ?_;refine qJ ?_;by_cases k5:o.kind=5
 ·refine qg k5 ?_;refine qX (qK (qQ (qZ ‹_› e_3 rfl ?_)));refine qQ (qZ ‹_› e_2 rfl ?_);refine qQ ?_;have e:r=(⟨0,b8,false,kE M.l.length o.at_ o.lk⟩,{ M with l:=if kE M.l.length o.at_ o.lk=0 then M.l.set o.at_.toNat o.lk else M.l }):=by
   rw[← hr];unfold yH QV kE ll fk;rw[iQ omQ,iJ (.inr (.inr k5))];by_cases c:0≤o.at_∧o.at_<M.l.length
   ·rw[iQ omQ,iQ k3,iJ c];by_cases c2:Y5 o.lk
    ·rw[iQ (λh=>h c2),iJ k5,iJ c2,iJ rfl]
    ·rw[iJ c2,iQ c2,iQ od]
   ·rw[iJ omQ,iQ c,iQ od]
  subst e;refine qF H3 (b:=b0) (off:=7) e_2 rfl omQ (l:=zG o.lk) rfl ?_;refine qV (qGO omQ (H3.sub (.cons e_6 (.cons e_6 .refl)))) ?_;rintro _ h4 ⟨rfl,H4⟩;refine qQ (qw H4 (b:=b2) e_2 ⟨rfl,rfl⟩ (by show 5<6;omega) λh5 H5=>?_);exact hj _ _ ⟨rfl,H5.sub (.cons .here (.cons e_2 (.cons e_3 (.cons e_3 (.cons e_3 (.cons .here (.cons .here (.drop .refl))))))))⟩
 refine qj k5 ?_;refine qJ ?_;by_cases k6:o.kind=6
 ·refine qg k6 ?_;refine qX (qK (qQ (qZ ‹_› e_3 rfl ?_)));have e:r=(⟨M.n,b8,false,0⟩,M):=by
   rw[← hr];unfold yH JO;rw[iQ omQ,iQ omQ,iJ (.inl k6),iJ k6]
  subst e;refine qV (qzN omQ H3 e_8) ?_;rintro _ _ ⟨rfl,rfl⟩;refine qQ (qw H3 (b:=b2) .here ⟨rfl,rfl⟩ (by show 0<6;omega) λh4 H4=>?_);exact hj _ _ ⟨rfl,H4.sub (.cons .here (.cons .here (.drop .refl)))⟩
 refine qj k6 ?_;refine qJ ?_;by_cases k7:o.kind=7
 ·refine qg k7 ?_;refine qX (qK (qQ (qZ ‹_› e_3 rfl ?_)));refine qQ (qZ ‹_› e_2 rfl ?_);refine qQ (qZ ‹_› e_2 rfl ?_);have e:r=(⟨0,b8,(JO M { o with kind:=7 }).1.done,(JO M { o with kind:=7 }).1.err⟩,{ M with n:=(JO M { o with kind:=7 }).2.n }):=by
   rw[← hr];unfold yH JO ll fk;rw[iQ omQ,iQ omQ,iJ (.inr k7),iQ k6,iQ (show¬(7:Int)=6 by decide)];dsimp only
   repeat' split
   all_goals rfl
  subst e;refine qV (qks (o:=o) omQ (H3.sub (.cons e_8 .refl))) ?_;rintro _ h4 ⟨rfl,H4⟩;refine qD rfl ?_;refine qD rfl ?_;refine qQ (qw H4 (b:=b2) e_1 ⟨rfl,rfl⟩ (by show 4<6;omega) λh5 H5=>?_);refine qQ (qw H5 (b:=b2) .here ⟨rfl,rfl⟩ (by show 5<6;omega) λh6 H6=>?_);exact hj _ _ ⟨rfl,H6.sub (.cons .here (.cons e_1 (.cons e_2 (.cons e_2 (.cons e_2 (.cons e_2 (.cons e_2 (.cons .here (.drop .refl)))))))))⟩
 refine qj k7 ?_;refine qJ ?_;by_cases k8:o.kind=8
 ·refine qg k8 ?_;refine qX (qK (qQ (qZ ‹_› e_3 rfl ?_)));refine qQ (qZ ‹_› e_2 rfl ?_);have e:r=(⟨(if 0≤o.at_∧o.at_<M.s.length then qE M.s o.at_ else 0),b8,false,(if 0≤o.at_∧o.at_<M.s.length then 0 else 2)⟩,M):=by
   rw[← hr];unfold yH QH ll;rw[iQ omQ,iQ omQ,iQ omQ,iJ (.inl k8)];by_cases c:0≤o.at_∧o.at_<M.s.length
   ·rw[iQ omQ,iJ k8,iJ c,iJ c]
   ·rw[iJ omQ,iQ c,iQ c]
  subst e;refine qV (qj6 omQ H3 e_9 e_10) ?_;rintro _ _ ⟨rfl,rfl⟩;refine qD rfl ?_;refine qD rfl ?_;refine qQ (qw H3 (b:=b2) .here ⟨rfl,rfl⟩ (by show 0<6;omega) λh4 H4=>?_);refine qQ (qw H4 (b:=b2) .here ⟨rfl,rfl⟩ (by show 5<6;omega) λh5 H5=>?_);exact hj _ _ ⟨rfl,H5.sub (.cons .here (.cons .here (.drop .refl)))⟩
 refine qj k8 ?_;refine qJ ?_;by_cases k9:o.kind=9
 ·refine qg k9 ?_;refine qX (qK (qQ (qZ ‹_› e_3 rfl ?_)));refine qQ (qZ ‹_› e_2 rfl ?_);refine qQ (qZ ‹_› e_2 rfl ?_);have e:r=(⟨0,b8,false,(if 0≤o.at_∧o.at_<M.s.length then 0 else 2)⟩,{ M with s:=(if 0≤o.at_∧o.at_<M.s.length then M.s.set o.at_.toNat o.word else M.s) }):=by
   rw[← hr];unfold yH QH ll;rw[iQ omQ,iQ omQ,iQ omQ,iJ (.inr k9)];by_cases c:0≤o.at_∧o.at_<M.s.length
   ·rw[iQ omQ,iQ k8,iJ c,iJ c];rfl
   ·rw[iJ omQ,iQ c,iQ c]
  subst e;refine qV (qKE omQ (H3.sub (.cons e_9 (.cons e_9 .refl)))) ?_;rintro _ h4 ⟨rfl,H4⟩;refine qQ (qw H4 (b:=b2) e_2 ⟨rfl,rfl⟩ (by show 5<6;omega) λh5 H5=>?_);exact hj _ _ ⟨rfl,H5.sub (.cons .here (.cons e_2 (.cons e_3 (.cons e_3 (.cons e_3 (.cons e_3 (.cons e_3 (.cons e_3 (.cons .here (.cons .here (.drop .refl)))))))))))⟩
 refine qj k9 ?_;refine qJ (qQ ?_);have e:r=(ll 1,M):=by rw[← hr];unfold yH;rw[iQ omQ,iQ omQ,iQ omQ,iQ omQ]
 subst e;refine qw H3 (b:=b2) .here ⟨rfl,rfl⟩ (by show 5<6;omega) λh4 H4=>?_;exact hj _ _ ⟨rfl,H4.sub (.cons .here (.cons .here (.drop .refl)))⟩
theorem PU (hn:7≤n) (hc:0≤M.aX∧M.aX<1000000000) (H:HS g h (bS p S M::R)) :
  aA n 21 [.ptr p 0,.agg (x8 o)] h λr h'=>r=.agg (z6 (jC M o).1)∧HS g h' (bS p S (jC M o).2::R):=by
 refine ba (S:=S21) rfl omQ λk hk=>?_;unfold S21;try simp only[iZ]
 refine qO H rfl λb0 h1 H1=>?_;refine qO H1 rfl λb1 h2 H2=>?_;refine qF H2 (b:=b0) (off:=0) e_1 rfl omQ (l:=x8 o) rfl ?_;refine qV (qwb (o:=o) omQ (H2.aG e_2)) ?_;rintro _ h3 ⟨rfl,H3⟩;have ec:(yH M o).2.aX=M.aX:=ZS;rw[wF];generalize yH M o=r at*;obtain⟨r,M'⟩:=r;dsimp only at ec H3 ⊢;refine qO H3 rfl λb2 h4 H4=>?_;refine qh H4 (b:=b2) .here rfl (by show 0+6≤6;omega) rfl λh5 H5=>?_;have H5:HS g h5 (qA b2 (z6 r)::bS p S M'::qA b1 (z6 fk)::qA b0 (x8 o)::R):=H5;clear H3 H4;have H6:=H5;unfold z6 at H6;refine jo [] (λs h'=>s=(.ptr b2 0,.ptr b1 0,())∧HS g h' (qA b2 (z6 r)::qA b1 (z6 fk)::bS p S (if r.err=0 then(r,{ M' with aX:=M'.aX+1 })else(r,M')).2::R)) ?_ ?_
 rotate_left
 ·rintro s h4 ⟨rfl,H4⟩;dsimp only;refine qF H4 (b:=b2) (off:=0) .here rfl omQ (l:=z6 r) rfl ?_;refine qh H4 (b:=b1) e_1 rfl (by show 0+6≤6;omega) rfl λh5 H5=>?_;refine qk (qF H5 (b:=b1) (off:=0) .here rfl omQ (l:=z6 r) rfl ?_);refine qG ⟨by split<;>rfl,?_⟩;exact H5.drop.drop
 intro j hj;refine qQ (qZ ‹_› .here rfl ?_);by_cases c:r.err=0
 ·refine qg c ?_;rw[iJ c]at hj ⊢;refine qX (qK (qQ ?_));obtain⟨hb,tb,cb,sb,wv,lv,sv,H7⟩:=bS.E (H5.aG e_1);refine qZ ‹_› .here rfl ?_;refine qb omQ ?_;refine qK (qQ (qw H7 (b:=p) .here ⟨rfl,rfl⟩ (by show 9<10;omega) λh8 H8=>?_));have H9:HS g h8 (bS p S { M' with aX:=M'.aX+1 }::_):=bS.I (hb:=hb) (tb:=tb) (cb:=cb) (sb:=sb) (wv:=wv) (lv:=lv) (sv:=sv) H8;exact hj _ _ ⟨rfl,H9.sub (.cons e_1 (.cons e_1 (.cons .here (.drop .refl))))⟩
 ·refine qj c ?_;rw[iQ c]at hj ⊢;refine qJ ?_;exact hj _ _ ⟨rfl,H5.sub (.cons .here (.cons e_1 (.cons .here (.drop .refl))))⟩
end
end
section
variable {g h:AH} {L R:List SP}
theorem qY4:∀{a b:List Int},a.Pairwise (· < ·)→b.Pairwise (· < ·)→(∀x,x∈a↔x∈b)→a=b:=by
 intro a
 induction a with
 |nil=>
  intro b _ _ h;cases b with
  |nil=>rfl
  |cons y b=>have:=(h y).2 (iK ..);cases this
 |cons x a ih=>
  intro b ha hb h;cases b with
  |nil=>have:=(h x).1 (iK ..);cases this
  |cons y b=>
   have tM:=List.pairwise_cons.1 ha;have bB:=List.pairwise_cons.1 hb;have e:x=y:=by
    rcases List.mem_cons.1 ((h x).1 (iK ..))with e |e
    ·exact e
    ·rcases List.mem_cons.1 ((h y).2 (iK ..))with e2 |e2
     ·exact e2.symm
     ·have h1:=bB.1 x e;have h2:=tM.1 y e2;omega
   subst e
   congr 1
   refine ih tM.2 bB.2 λz=>⟨λhz=>?_,λhz=>?_⟩
   ·rcases List.mem_cons.1 ((h z).1 (iX _ hz))with e |e
    ·have:=tM.1 z hz;omega
    ·exact e
   ·rcases List.mem_cons.1 ((h z).2 (iX _ hz))with e |e
    ·have:=bB.1 z hz;omega
    ·exact e
theorem qXr {d:Array Int} (hs:∀i j,i≤j→j<d.size→d[i]! ≤d[j]!):∀m,m≤d.size→(Lib.compactUpTo d m).Pairwise (· < ·)∧∀x,x∈Lib.compactUpTo d m↔∃j,j<m∧d[j]! =x:=by
 intro m
 induction m with
 |zero=>intro _;exact⟨List.Pairwise.nil,λx=>⟨(λh=>by cases h),λ⟨j,h,_⟩=>by omega⟩⟩
 |succ m ih=>
  intro hm;obtain⟨p,q⟩:=ih omQ;rw[Lib.compactUpTo_succ];by_cases hk:Lib.keeps d m=true
  ·rw[iJ hk];refine⟨?_,λx=>?_⟩
   ·rw[List.pairwise_append];refine⟨p,List.pairwise_singleton ..,λa ha b hb=>?_⟩;rw[List.mem_singleton]at hb;subst hb;obtain⟨j,hj,rfl⟩:=(q a).1 ha;have h1:=hs j (m-1) omQ omQ;have h2:=hs (m-1) m omQ omQ;have h3:d[m]! ≠d[m-1]!:=by
     intro e;rw[Lib.keeps_neg omQ e]at hk;cases hk
    omega
   ·rw[List.mem_append,q x,List.mem_singleton];refine⟨λh=>?_,λ⟨j,hj,e⟩=>?_⟩
    ·rcases h with⟨j,hj,e⟩ |e
     ·exact⟨j,by omega,e⟩
     ·exact⟨m,by omega,e.symm⟩
    ·by_cases fO:j=m
     ·subst fO;exact .inr e.symm
     ·exact .inl ⟨j,by omega,e⟩
  ·rw[iQ hk,List.append_nil];refine⟨p,λx=>?_⟩;rw[q x];refine⟨λ⟨j,hj,e⟩=>⟨j,by omega,e⟩,λ⟨j,hj,e⟩=>?_⟩;by_cases fO:j=m
   ·subst fO;have h0:0<j:=by
     rcases Nat.eq_zero_or_pos j with h |h
     ·subst h;exact absurd (Lib.keeps_lt_one d 0 omQ) hk
     ·exact h
    refine⟨j-1,by omega,?_⟩;refine Decidable.byContradiction λcS=>hk (Lib.keeps_pos λh=>cS ?_);rw[← h,e]
   ·exact⟨j,by omega,e⟩
theorem qk6 {zs:List Int} (h:zs.Pairwise (· ≤ ·)):(Lib.compact zs).Pairwise (· < ·)∧∀x,x∈Lib.compact zs↔x∈zs:=by
 have hg:∀i:Nat,i<zs.length→zs.toArray[i]! =zs[i]!:=λi hi=>by simp
 obtain⟨p,q⟩:=qXr (d:=zs.toArray) (λi j oL hj=>by
  have hj:j<zs.length:=by simpa using hj
  rw[hg i omQ,hg j hj,getElem!_pos zs i omQ,getElem!_pos zs j hj];by_cases e:i=j
  ·subst e;exact Int.le_refl _
  ·exact List.pairwise_iff_getElem.1 h i j omQ hj omQ) zs.length aN
 refine⟨p,λx=>?_⟩;refine(q x).trans ⟨λ⟨j,hj,e⟩=>?_,λhx=>?_⟩
 ·rw[hg j hj,getElem!_pos zs j hj]at e;rw[← e];exact List.getElem_mem hj
 ·obtain⟨j,hj,e⟩:=List.mem_iff_getElem.1 hx;exact⟨j,hj,by rw[hg j hj,getElem!_pos zs j hj];exact e⟩
theorem ZO {p n w:Int} (h:0≤p):0≤ofM p n w∧ofM p n w<16:=by unfold ofM;rw[iQ omQ];have h1:=Int.emod_nonneg (p/max 1 (min w 16)) (show max 1 (min n 16)≠0 by omega);have h2:=Int.emod_lt_of_pos (p/max 1 (min w 16)) (show 0<max 1 (min n 16) by omega);omega
theorem Q8 {cs:List Cl} {n w:Int}:(xk cs n w).Pairwise (· < ·):=by unfold xk;refine List.Pairwise.filter _ ?_;rw[List.pairwise_map];exact List.pairwise_lt_range.imp λh=>by omega
theorem XJ {cs:List Cl} {n w:Int} (h:∀c∈cs,0≤c.1) {x:Int}:x∈xk cs n w↔x∈cs.map λc=>ofM c.1 n w:=by unfold xk;rw[List.mem_filter,List.any_eq_true,List.mem_map,List.mem_map];refine⟨λ⟨_,c,hc,e⟩=>⟨c,hc,by simpa using e⟩,λ⟨c,hc,e⟩=>⟨?_,c,hc,by simpa using e⟩⟩;have:=ZO (n:=n) (w:=w) (h c hc);exact⟨x.toNat,List.mem_range.2 omQ,by omega⟩
theorem qQi {cs:List Cl} {n w:Int} (h:∀c∈cs,0≤c.1):Lib.compact (kc (cs.map λc=>ofM c.1 n w))=xk cs n w:=by obtain⟨p,q⟩:=qk6 (Xp (cs.map λc=>ofM c.1 n w));exact qY4 p Q8 λx=>by rw[q,(Jd _).mem_iff,XJ h]
section
variable {n m:Nat} {v:AV} {zs:List Int}
theorem qj1 {e:TypeId} (hn:1≤n) (H:HS g h (qB e 1 m v (zs.map (.int .i64))::R)) (h0:0<m) (hm:m≤1000000) :
  aA n 159 [v] h λ_ h'=>HS g h' (qB e 1 m v ((kc zs).map (.int .i64))::R):=by
 have hl:zs.length=m:=by have:=H.cT .here;simpa using this
 obtain⟨b,cp,o,ys,rfl,HC,q1,q2,q3⟩:=H.BO h0;rw[Nat.mul_one]at q1 q2;refine qy (g:=W159) rfl omQ λk hk=>?_;show wp (ZP _ [.slice b 0 m cp o] h) _;obtain⟨D,⟨hD,A⟩,dS,kk⟩:=HC.act;obtain⟨c,c1,c2,c3⟩:=A.bp;unfold ZP;simp only[c1,c2];rw[q2,NG];simp only[];rw[show Nat.beq zs.length m=true from by rw[hl];exact Nat.beq_refl _,iY hm];simp only[Bool.and_self,cond_true];refine⟨_,_,rfl,?_⟩;have Hr:=kk _ (Cell b ((kc zs).map (.int .i64)++ys.drop m) e o) D ⟨by simp,λa ha hn=>AH.bn h _ λe=>hn ((hD a).2 e.symm)⟩ ⟨hD,by simpa using A.lt,CT.ofList _,AH.aQ ..,CT.aI _,CT.bt _⟩ λa ha=>⟨.inl ha,by have:=(dS a ha).2;simpa using this⟩;have hlen:((kc zs).map (AV.int .i64)).length=m:=by rw[List.length_map,VG,hl]
 have:=HS.BP (n:=m) (sz:=1) (cp:=cp) Hr (by rw[List.length_append,hlen];omega) (by
  rw[List.length_append,hlen,List.length_drop,show m+(ys.length-m)=ys.length by omega];exact q3)
 rw[Nat.mul_one,List.take_append_of_le_length omQ,List.take_of_length_le omQ]at this;exact this
theorem qqT (hn:1≤n) (H:HS g h (qB 3 1 m v (zs.map (.int .i64))::R)) (h0:0<m) (hm:m≤1000000) :
  aA n 160 [v] h λr h'=>HS g h' (qB 3 1 (Lib.compact zs).length r ((Lib.compact zs).map (.int .i64))::R):=by
 have hl:zs.length=m:=by have:=H.cT .here;simpa using this
 obtain⟨b,cp,o,ys,rfl,HC,q1,q2,q3⟩:=H.BO h0;rw[Nat.mul_one]at q1 q2;refine qy (g:=W160) rfl omQ λk hk=>?_;show wp (Ow 3 _ [.slice b 0 m cp o] h) _;obtain⟨D,⟨hD,A⟩,dS,kk⟩:=HC.act;obtain⟨c,c1,c2,c3⟩:=A.bp;have hle:=Pj zs;unfold Ow;simp only[c1,c2];rw[q2,NG];simp only[];have hc:(Nat.beq zs.length m&&(Nat.ble m 1000000&&(bif o then Nat.beq cp 0&&(o&&Nat.beq 3 3)else Nat.ble m cp)))=true:=by
  rw[show Nat.beq zs.length m=true from by rw[hl];exact Nat.beq_refl _,iY hm];cases o with
  |true=>rw[iJ rfl]at q3;subst q3;rfl
  |false=>rw[iQ aN]at q3;simp only[Bool.true_and,cond_false];exact iY q3.2
 rw[hc];simp only[cond_true];refine⟨_,_,rfl,?_⟩;have Hr:=kk _ (Cell b ((Lib.compact zs++List.replicate (zs.length-(Lib.compact zs).length) 0).map (.int .i64)++ys.drop m) 3 o) D ⟨by simp,λa ha hn=>AH.bn h _ λe=>hn ((hD a).2 e.symm)⟩ ⟨hD,by simpa using A.lt,CT.ofList _,AH.aQ ..,CT.aI _,CT.bt _⟩ λa ha=>⟨.inl ha,by have:=(dS a ha).2;simpa using this⟩;have hlen:((Lib.compact zs++List.replicate (zs.length-(Lib.compact zs).length) 0).map (AV.int .i64)).length=m:=by simp;omega
 have:=HS.BP (n:=(Lib.compact zs).length) (sz:=1) (cp:=cp) Hr (by rw[List.length_append,hlen];omega) (by
  rw[List.length_append,hlen,List.length_drop,show m+(ys.length-m)=ys.length by omega];cases o with
  |true=>exact q3
  |false=>rw[iQ aN]at q3 ⊢;exact⟨q3.1,by omega⟩)
 have tk:((Lib.compact zs++List.replicate (zs.length-(Lib.compact zs).length) 0).map (AV.int .i64)++ys.drop m).take (Lib.compact zs).length=(Lib.compact zs).map (AV.int .i64):=by rw[List.take_append_of_le_length omQ,List.map_append,List.take_append_of_le_length aN,List.take_of_length_le aN]
 rw[Nat.mul_one,tk]at this;exact this
theorem qj4:∀{l:List Int},l.Pairwise (· ≤ ·)→UL l=true:=by
 intro l
 induction l with
 |nil=>intro _;rfl
 |cons x r ih=>
  intro h;cases r with
  |nil=>rfl
  |cons y r=>have h1:=List.pairwise_cons.1 h;unfold UL;rw[ih h1.2,iG (h1.1 y (iK ..))];rfl
theorem qzT {e:TypeId} {x:Int} (hn:1≤n) (H:HS g h L) (s:aZ L (qB e 1 m v (zs.map (.int .i64))) R) (h0:0<m) (hm:m≤1000000) (hs:zs.Pairwise (· ≤ ·)) :
  aA n 375 [v,.int .i64 x] h λr h'=>r=.bM [.int .i64 (zs.countP (· <x):Nat),.bool (zs.contains x)]∧h'=h:=by
 have hl:zs.length=m:=by have:=H.cT s;simpa using this
 obtain⟨b,cp,o,ys,rfl,HC,q1,q2,q3⟩:=(H.aG s).BO h0;rw[Nat.mul_one]at q1 q2;refine qy (g:=W375) rfl omQ λk hk=>?_;show wp (Og _ [.slice b 0 m cp o,.int .i64 x] h) _;obtain⟨D,⟨hD,A⟩,dS,kk⟩:=HC.act;obtain⟨c,c1,c2,c3⟩:=A.bp;unfold Og;simp only[c1,c2];rw[q2,NG];simp only[];rw[show Nat.beq zs.length m=true from by rw[hl];exact Nat.beq_refl _,iY hm,qj4 hs];exact⟨_,_,rfl,rfl,rfl⟩
end
theorem KP {n:Nat} {a b:Int} (hn:1≤n):aA n 58 [.int .i64 a,.int .i64 b] h λr h'=>r=.int .i64 (max 1 (min a b))∧h'=h:=by
 refine ba (S:=S58) rfl omQ λk hk=>?_;unfold S58;try simp only[iZ]
 refine zk (zn ?_);exact qG ⟨rfl,rfl⟩
theorem PV {n:Nat} {p a w:Int} (hn:2≤n) (hp:p<4611686018427387904):aA n 126 [.int .i64 p,.int .i64 a,.int .i64 w] h λr h'=>r=.int .i64 (ofM p a w)∧h'=h:=by
 refine cL (S:=S126) rfl omQ λk hk=>?_;unfold S126;try simp only[iZ]
 unfold ofM;by_cases c:p<0
 ·refine jF c ?_;rw[iJ c];refine qX ?_;exact qG ⟨rfl,rfl⟩
 ·refine jV c ?_;rw[iQ c];refine qJ (qV (KP omQ) ?_);rintro _ _ ⟨rfl,rfl⟩;refine Fq omQ ?_;have h1:p.tdiv (max 1 (min w ((16:Nat):Int)))=p/max 1 (min w 16):=Int.tdiv_eq_ediv_of_nonneg omQ;have h2:0≤p/max 1 (min w 16):=Int.ediv_nonneg omQ omQ;have h3:p/max 1 (min w 16)≤p:=Int.ediv_le_self _ omQ;rw[h1,V4 omQ];refine qV (KP omQ) ?_;rintro _ _ ⟨rfl,rfl⟩;refine Ja omQ ?_;rw[Int.tmod_eq_emod_of_nonneg h2];exact qG ⟨rfl,rfl⟩
theorem qZH {n:Nat} {cv:AV} {cs:List Cl} {a w:Int} (hn:4≤n) (H:HS g h R) (S:Rd g R 2 cs.length cv (cs.flatMap jI)) (h0:0<cs.length) (hl:cs.length≤1000) (hc:∀c∈cs,0≤c.1∧c.1<100000) :
  aA n 130 [cv,.int .i64 a,.int .i64 w] h λr h'=>HS g h' (qB 3 1 (xk cs a w).length r ((xk cs a w).map (.int .i64))::R):=by
 refine cL (S:=S130) rfl omQ λk hk=>?_;unfold S130;try simp only[iZ]
 have DN:=(S.sl H).pd;refine xo ‹_› ?_
 refine jL (λm s h'=>∃(i:Nat) (v:AV),s=(.int .i64 (i:Int),.int .i64 (cs.length:Int),cv,v,.int .i64 w,.int .i64 a,())∧i≤cs.length∧m=cs.length-i∧
  HS g h' (qB 3 1 i v (((cs.take i).map λc=>ofM c.1 a w).map (.int .i64))::R))
  ?_ (m:=cs.length) (by show _<1000000000;omega) ⟨0,.ak,rfl,by omega,by omega,H.ak⟩
 clear H DN;rintro m ih s h2 bG ⟨i,v,rfl,hi,rfl,H⟩;dsimp only;by_cases au:i<cs.length
 ·refine jF omQ (qX ?_);have pp:=hc _ (List.getElem_mem au);have hr:=ZO (n:=a) (w:=w) pp.1;refine qW ?_
  try dsimp only
  refine zd (l:=jI cs[i]) (S.sl H.drop) au omQ (vw (sz:=2) (enc:=jI) (λ_=>rfl) (iW au)) ?_;refine qO H rfl λb h3 H3=>?_;refine qh H3 (b:=b) .here rfl (by show 0+2≤2;omega) rfl λh4 H4=>?_;have H4:HS g h4 (qA b [.int .i64 cs[i].1,.int .u64 cs[i].2]::qB 3 1 i v (((cs.take i).map λc=>ofM c.1 a w).map (.int .i64))::R):=H4;refine qQ (qZ ‹_› .here rfl ?_);refine qV (PV omQ omQ) ?_;rintro _ _ ⟨rfl,rfl⟩;refine zx omQ (qX ?_);refine qm (n:=1) (l:=[.int .i64 (ofM cs[i].1 a w)]) (sz:=1) H4 rfl rfl rfl rfl λv2 h5 H5=>?_;refine ja (H5.aG e_2) (H5.sl .here) omQ omQ rfl λv3 h6 H6=>?_;refine qb omQ ?_;refine bG (cs.length-(i+1)) _ _ omQ ⟨i+1,v3,rfl,by omega,rfl,?_⟩;have e:(cs.take (i+1)).map (λc=>ofM c.1 a w)=(cs.take i).map (λc=>ofM c.1 a w)++[ofM cs[i].1 a w]:=by rw[List.take_add_one,iW au,List.map_append];rfl
  rw[e,List.map_append];exact H6.sub (.cons .here (.drop (.drop .refl)))
 ·obtain rfl:i=cs.length:=by omega
  refine jV omQ (qJ ?_);rw[List.take_of_length_le (Nat.le_refl _)]at H;refine qV (qj1 omQ H h0 omQ) λ_ h3 H3=>?_;refine qV (qqT omQ H3 h0 omQ) λr h4 H4=>?_;rw[qQi λc mw=>(hc c mw).1]at H4;refine qk ?_;exact qG H4
end
section
variable {g h:AH} {L R:List SP}
theorem OW {l:List xj} {k:Nat} (hk:k<l.length):((l.flatMap yi).drop (k*2)).take 2=yi (zT l (k:Int)):=vw (sz:=2) (enc:=yi) (λ_=>rfl) (by unfold zT;rw[Int.toNat_natCast,iW hk];rfl)
theorem QS {l:List xj} {k:Nat} (hk:k<l.length):(l.flatMap yi)[k*2+0]? =some (.int .i64 (zT l (k:Int)).1)∧(l.flatMap yi)[k*2+1]? =some (.int .u64 (zT l (k:Int)).2):=by
 have e:=OW hk;have hl:(l.flatMap yi).length=l.length*2:=Ye (sz:=2) yi (λ_=>rfl) (l:=l);constructor
 ·have:=congrArg (·[0]?) e;simp only[List.getElem?_take_of_lt (show 0<2 by omega),List.getElem?_drop]at this;exact this
 ·have:=congrArg (·[1]?) e;simp only[List.getElem?_take_of_lt (show 1<2 by omega),List.getElem?_drop]at this;exact this
def bW (b:Nat) (r:List xj):SP:=.ex λsv=>.all [qA b [.int .i64 16,sv],qB 110 2 r.length sv (r.flatMap yi)]
section
variable {n b:Nat} {r:List xj} {x:xj}
theorem bW.E (H:HS g h (bW b r::R)):∃sv,HS g h (qA b [.int .i64 16,sv]::qB 110 2 r.length sv (r.flatMap yi)::R):=by obtain⟨sv,H⟩:=H.dU;exact⟨sv,H.b9⟩
theorem bW.I {sv:AV} (H:HS g h (qA b [.int .i64 16,sv]::qB 110 2 r.length sv (r.flatMap yi)::R)):HS g h (bW b r::R):=HS.ei sv H.allI
theorem qkT (hn:1≤n) (H:HS g h R):aA n 118 [.int .i64 ((16:Nat):Int)] h λv h'=>∃b,v=.ptr b 0∧HS g h' (bW b []::R):=by
 refine ay (S:=S118) rfl omQ λk hk=>?_;unfold S118;try simp only[iZ]
 refine zk (zn (qM rfl ?_));refine qO H rfl λb h1 H1=>qG ⟨b,rfl,bW.I (sv:=.ak) ?_⟩;have:=(H1.ak (e:=110) (sz:=2));exact this.sub (.cons e_1 (.cons .here .refl))
theorem qkr {r:List xj} {i:Nat} {st:Int} {y:xj} (hb:∀z∈r.take i,z.1≠st) (hi:r[i]? =some y) (hy:y.1=st):r.find? (λz=>decide (z.1=st))=some y:=by
 obtain⟨au,e⟩:=List.getElem?_eq_some_iff.1 hi;have h1:(r.take i).find? (λz=>decide (z.1=st))=none:=List.find?_eq_none.2 λz hz=>by simpa using hb z hz
 have h2:r=r.take i++y::r.drop (i+1):=by rw[← e,← List.drop_eq_getElem_cons au,List.take_append_drop]
 rw[h2,List.find?_append,h1,List.find?_cons,iG hy];rfl
theorem qkN {st:Int} (hn:1≤n) (hr:r.length≤1000) (H:HS g h (bW b r::R)) :
  aA n 192 [.ptr b 0,.int .i64 st] h λv h'=>v=.bM [.int .u64 ((r.find? λz=>decide (z.1=st)).getD (0,0)).2,.bool (r.find? λz=>decide (z.1=st)).isSome]∧HS g h' (bW b r::R):=by
 refine ba (S:=S192) rfl omQ λk hk=>?_;unfold S192;try simp only[iZ]
 obtain⟨sv,H⟩:=bW.E H;refine qK (qQ (qZ ‹_› .here rfl ?_));refine qo ‹_› e_1 ?_;refine jL (λm s h'=>∃i:Nat,s=(.int .i64 (i:Int),.int .i64 (r.length:Int),sv,.int .i64 st,())∧i≤r.length∧m=r.length-i∧(∀z∈r.take i,z.1≠st)∧HS g h' (qA b [.int .i64 16,sv]::qB 110 2 r.length sv (r.flatMap yi)::R))
  ?_ (m:=r.length) (by show _<1000000000;omega) ⟨0,rfl,by omega,by omega,by simp,H⟩
 clear H;rintro m ih s h2 bG ⟨i,rfl,hi,rfl,hb,H⟩;dsimp only;by_cases au:i<r.length
 ·refine jF omQ (qX ?_);refine zd (l:=yi (zT r i)) (H.sl e_1) au omQ (OW au) ?_;refine qO H rfl λc h3 H3=>?_;refine qh H3 (b:=c) .here rfl (by show 0+2≤2;omega) rfl λh4 H4=>?_;have H4:HS g h4 (qA c [.int .i64 (zT r i).1,.int .u64 (zT r i).2]::qA b [.int .i64 16,sv]::qB 110 2 r.length sv (r.flatMap yi)::R):=H4;have hg:r[i]? =some (zT r i):=by unfold zT;rw[Int.toNat_natCast,iW au];rfl
  refine qQ (qZ ‹_› .here rfl ?_);by_cases hy:(zT r i).1=st
  ·refine qg hy ?_;refine qX (qQ (qZ ‹_› .here rfl ?_));refine qk ?_;rw[qkr hb hg hy];exact qG ⟨rfl,bW.I H4.drop⟩
  ·refine qj hy ?_;refine qJ (qb omQ ?_);refine bG (r.length-(i+1)) _ _ omQ ⟨i+1,rfl,by omega,rfl,?_,H4.drop⟩;intro z hz;rw[List.take_add_one,hg]at hz;rcases List.mem_append.1 hz with hz |hz
   ·exact hb z hz
   ·simp only[Option.toList_some,List.mem_singleton]at hz;subst hz;exact hy
 ·obtain rfl:i=r.length:=by omega
  refine jV omQ (qJ ?_);rw[List.take_of_length_le (Nat.le_refl _)]at hb;rw[List.find?_eq_none.2 λz hz=>by simpa using hb z hz];refine qk ?_;exact qG ⟨rfl,bW.I H⟩
theorem qki (hn:2≤n) (hr:r.length≤16) (H:HS g h (bW b r::R)) :
  aA n 162 [.ptr b 0,.agg (yi x)] h λv h'=>v=.int .i64 (wU r x).1∧HS g h' (bW b (wU r x).2::R):=by
 refine ba (S:=S162) rfl omQ λk hk=>?_;unfold S162;try simp only[iZ]
 generalize hA:wU r x=A;refine qO H rfl λb0 h1 H1=>?_;have H1:HS g h1 (qA b0 [.int .i64 x.1,.int .u64 x.2]::bW b r::R):=H1;unfold wU at hA;refine qQ (qZ ‹_› .here rfl ?_);by_cases c1:x.1<0
 ·refine jF c1 ?_;refine qW ?_;(try dsimp only);refine jJ ?_;(try dsimp only);refine qH (qW ?_);(try dsimp only);refine jJ ?_;(try dsimp only);refine qH (qX ?_)
  rw[iJ (.inl c1)]at hA;subst hA;exact qG ⟨rfl,H1.drop⟩
 refine jV c1 ?_;refine qW ?_;(try dsimp only);refine qd ?_;(try dsimp only);refine qQ (qZ ‹_› .here rfl ?_)
 by_cases c2:16≤x.1
 ·refine zx omQ ?_;refine qI (qW ?_);(try dsimp only);refine jJ ?_;(try dsimp only);refine qH (qX ?_)
  rw[iJ (.inr (.inl c2))]at hA;subst hA;exact qG ⟨rfl,H1.drop⟩
 refine zK omQ ?_;refine qI (qW ?_);(try dsimp only);refine qd ?_;(try dsimp only);refine qQ (qZ ‹_› .here rfl ?_)
 by_cases c3:4611686018427387904≤x.2
 ·refine zx omQ ?_;refine qI (qX ?_);rw[iJ (.inr (.inr c3))]at hA;subst hA;exact qG ⟨rfl,H1.drop⟩
 refine zK omQ ?_;refine qI (qJ (qQ (qZ ‹_› .here rfl ?_)));rw[iQ omQ]at hA;refine qV (qkN omQ omQ (H1.aG e_1)) ?_;rintro _ h2 ⟨rfl,H2⟩;have H3:=H2.aG e_1;refine qD rfl ?_;refine qD rfl ?_;cases hf:r.find? λz=>decide (z.1=x.1)with
 |some y=>
  rw[hf]at hA;dsimp only at hA;refine qX (qQ (qZ ‹_› .here rfl ?_));by_cases c4:y.2=x.2
  ·refine qs c4 ?_;rw[iQ (λh=>h c4)]at hA;subst hA;refine qJ ?_;exact qG ⟨rfl,H3.drop⟩
  ·refine jQ c4 ?_;rw[iJ c4]at hA;subst hA;refine qX ?_;exact qG ⟨rfl,H3.drop⟩
 |none=>
  rw[hf]at hA;dsimp only at hA;refine qJ ?_;obtain⟨sv,H4⟩:=bW.E H2;refine qK (qQ (qZ ‹_› .here rfl ?_));refine qo ‹_› e_1 ?_;refine qK (qQ (qZ ‹_› .here rfl ?_));by_cases c4:r.length=16
  ·refine qg omQ ?_;rw[iJ c4]at hA;subst hA;refine qX ?_;exact qG ⟨rfl,H3.drop⟩
  ·refine qj omQ ?_;rw[iQ c4]at hA;subst hA;refine qJ (qK (qQ (qZ ‹_› .here rfl ?_)));refine qF H4 (b:=b0) (off:=0) e_2 rfl omQ (l:=yi x) rfl ?_;refine qm (n:=1) (l:=yi x) (sz:=2) H4 rfl rfl rfl rfl λv2 h5 H5=>?_;refine ja (H5.aG e_2) (H5.sl .here) omQ omQ rfl λv3 h6 H6=>?_;have o6:=H6.one .here;refine qK (qQ (qw H6 (b:=b) e_2 o6 aN λh7 H7=>?_));refine qG ⟨rfl,bW.I (sv:=v3) ?_⟩;rw[List.length_append,List.flatMap_append];exact H7.sub (.cons .here (.cons .here (.drop (.drop .refl))))
theorem Nl (hn:2≤n) (hr:r.length≤1000) (H:HS g h (bW b r::R)):aA n 85 [.ptr b 0] h λv h'=>HS g h' (qB 110 2 r.length v (r.flatMap yi)::bW b r::R):=by
 refine ay (S:=S85) rfl omQ λk hk=>?_;unfold S85;try simp only
 obtain⟨sv,H⟩:=bW.E H;refine qK (qQ (qZ ‹_› .here rfl ?_));refine qV (YE omQ H e_1 (ke (λ_=>rfl) _) omQ) λv h1 H1=>qG ?_;exact HS.bZ e_1 (bW.I (sv:=sv) (H1.sub (.cons e_1 (.cons e_1 (.cons .here .refl)))))
end
def UX (x:QF) (sv:AV):List AV:=xr x.p [sv,.bool x.cV,.int .i64 x.at_,.int .u64 x.aj]
def bX (b:Nat) (x:QF):SP:=.ex λsv=>.all [qA b (UX x sv),qB 110 2 x.seen.length sv (x.seen.flatMap yi)]
structure Ka (x:QF):Prop where
  p:KZ x.p
  lo:0≤x.at_
  hi:x.at_≤1000
  len:x.seen.length≤16
  le:x.at_≤x.seen.length
  Hs:x.p.fin=0→x.cV=true→x.at_<x.seen.length
section
variable {n b:Nat} {x:QF}
theorem bX.E (H:HS g h (bX b x::R)):∃sv,HS g h (qA b (UX x sv)::qB 110 2 x.seen.length sv (x.seen.flatMap yi)::R):=by obtain⟨sv,H⟩:=H.dU;exact⟨sv,H.b9⟩
theorem bX.I {sv:AV} (H:HS g h (qA b (UX x sv)::qB 110 2 x.seen.length sv (x.seen.flatMap yi)::R)):HS g h (bX b x::R):=HS.ei sv H.allI
theorem qz3 {me sp:Int} {v:AV} {r:List xj} (hn:2≤n) (hr:r.length≤1000) (H:HS g h (qB 110 2 r.length v (r.flatMap yi)::R)) :
  aA n 127 [.int .i64 me,.int .i64 sp,v] h λv h'=>∃b,v=.ptr b 0∧HS g h' (bX b (Uh me sp r)::R):=by
 refine cL (S:=S127) rfl omQ λk hk=>?_;unfold S127;try simp only[iZ]
 refine qV (NH omQ H) ?_;rintro _ h1 ⟨rfl,H1⟩;refine qV (YE omQ H1 .here (ke (λ_=>rfl) _) omQ) λv h2 H2=>?_;unfold xr;have o2:=H2.one .here;refine qM (l:=UX (Uh me sp r) v) (by simp only[yV,o2.1];rfl) ?_;refine qO H2 (by show qn [_,_,_,_,_,v,_,_,_]=true;simp only[qn,List.all_cons,o2.2];rfl) λb h3 H3=>qG ⟨b,rfl,?_⟩;exact bX.I (sv:=v) (H3.sub (.cons .here (.cons .here (.drop .refl))))
theorem PW (hn:2≤n) {sv:AV} (H:HS g h L) (s:aZ L (qA b (UX x sv)) R):aA n 166 [.ptr b 0] h λr h'=>r=.int .i64 x.p.fin∧h'=h:=by
 refine ay (S:=S166) rfl omQ λk hk=>?_;unfold S166;try simp only
 refine qK (qQ (qV (Xz omQ H s) ?_));rintro _ _ ⟨rfl,rfl⟩;exact qG ⟨rfl,rfl⟩
theorem qwE (hn:2≤n) {sv:AV} (H:HS g h L) (s:aZ L (qA b (UX x sv)) R):aA n 359 [.ptr b 0] h λr h'=>r=.int .i64 x.p.dB∧h'=h:=by
 refine ay (S:=S359) rfl omQ λk hk=>?_;unfold S359;try simp only
 refine qK (qQ (qV (Hq omQ H s) ?_));rintro _ _ ⟨rfl,rfl⟩;exact qG ⟨rfl,rfl⟩
theorem VI (hn:3≤n) {sv:AV} (H:HS g h L) (s:aZ L (qA b (UX x sv)) R):aA n 133 [.ptr b 0] h λr h'=>r=.int .u64 (gF x)∧h'=h:=by
 refine ay (S:=S133) rfl omQ λk hk=>?_;unfold S133;try simp only[iZ]
 refine qV (PW omQ H s) ?_;rintro _ _ ⟨rfl,rfl⟩;unfold gF;by_cases c:x.p.fin=2
 ·refine qs c ?_;rw[iQ (λh=>h c)];refine qJ (qK (qQ ?_));exact qZ H s rfl (qG ⟨rfl,rfl⟩)
 ·refine jQ c ?_;rw[iJ c];refine qX ?_;exact qG ⟨rfl,rfl⟩
theorem qWd (hn:2≤n) (O:Ka x) (H:HS g h (bX b x::R)):aA n 360 [.ptr b 0] h λr h'=>r=ri (Jj x)∧HS g h' (bX b x::R):=by
 refine ay (S:=S360) rfl omQ λk hk=>?_;unfold S360;try simp only[iZ]
 obtain⟨sv,H⟩:=bX.E H;refine qO H rfl λb0 h1 H1=>?_;refine qK (qQ (qV (Xz omQ H1 e_1) ?_));rintro _ _ ⟨rfl,rfl⟩;unfold Jj;have H2:=H1;unfold UX xr at H2;by_cases c:x.p.fin=0
 ·refine qs c ?_;rw[iQ (λh=>h c)];refine qJ (qK (qQ (qZ ‹_› e_1 rfl ?_)));cases hl:x.cV with
  |false=>rw[iJ rfl];refine jB (qX (qM rfl ?_));refine qh H1 (b:=b0) .here rfl (by show 0+10≤10;omega) rfl λh3 H3=>?_;refine qF H3 (b:=b0) (off:=0) .here rfl omQ (l:=x8 (bg 6 0 0)) rfl ?_;exact qG ⟨rfl,bX.I H3.drop⟩
  |true=>rw[iQ aN];refine jY (qJ (qK (qQ (qZ ‹_› e_1 rfl ?_))));refine qK (qQ (qZ ‹_› e_1 rfl ?_));have dA:=O.Hs c hl;have dn:=O.lo;obtain⟨k,hk⟩:∃k:Nat,x.at_=k:=⟨x.at_.toNat,by omega⟩;rw[hk]at dA ⊢;refine y4 (H1.sl e_2) omQ omQ (QS omQ).1 ?_;refine qM rfl ?_;refine qh H1 (b:=b0) .here rfl (by show 0+10≤10;omega) rfl λh3 H3=>?_;refine qF H3 (b:=b0) (off:=0) .here rfl omQ (l:=x8 (bg 3 (zT x.seen k).1 0)) rfl ?_;exact qG ⟨rfl,bX.I H3.drop⟩
 ·refine jQ c ?_;rw[iJ c];refine qX (qM rfl ?_);refine qh H1 (b:=b0) .here rfl (by show 0+10≤10;omega) rfl λh3 H3=>?_;refine qF H3 (b:=b0) (off:=0) .here rfl omQ (l:=x8 (bg 0 0 0)) rfl ?_;exact qG ⟨rfl,bX.I H3.drop⟩
theorem J8 {p:JZ} {a:cO} (hs:(qu p a).1=false):(qu p a).2=p∧p.fin=0:=by
 unfold qu at hs ⊢
 split at hs
 ·cases hs
 ·rename_i c;rw[iQ c];exact⟨rfl,by simpa using hs⟩
theorem qYN {a:cO} (hn:3≤n) (O:Ka x) (H:HS g h (bX b x::R)):aA n 361 [.ptr b 0,.agg (z6 a)] h λ_ h'=>HS g h' (bX b (xU x a)::R):=by
 refine ba (S:=S361) rfl omQ λk hk=>?_;unfold S361;try simp only[iZ]
 generalize hF:xU x a=F;obtain⟨sv,H⟩:=bX.E H;refine qO H rfl λb0 h1 H1=>?_;refine jo [] (λs h'=>s=(.ptr b 0,())∧∃y,F=JC y∧y.seen.length≤16∧HS g h' (bX b y::R)) (λj hj=>?_) ?_
 rotate_left
 ·rintro s h2 ⟨rfl,y,rfl,hy,H2⟩;obtain⟨sv,H2⟩:=bX.E H2;have H3:=H2;unfold UX xr at H3;unfold JC;refine qK (qQ (qZ ‹_› .here rfl ?_));refine qK (qQ (qZ ‹_› .here rfl ?_));refine qo ‹_› e_1 ?_;by_cases c:y.at_=(y.seen.length:Int)
  ·refine qg c ?_;rw[iJ c];refine qX (qK (qQ (qV (gK omQ H2) λ_ h4 H4=>?_)));refine qk ?_;exact qG (bX.I H4)
  ·refine qj c ?_;rw[iQ c];refine qJ (qk ?_);exact qG (bX.I H2)
 refine qK (qQ (qF H1 (b:=b0) (off:=0) .here rfl omQ (l:=z6 a) rfl ?_));refine qV (JR omQ (H1.aG e_1)) ?_;rintro _ h2 ⟨rfl,H2⟩;unfold xU at hF;cases hs:(qu x.p a).1 with
 |true=>rw[iJ hs]at hF;subst hF;refine qX ?_;exact qG (bX.I (x:={ x with p:=(qu x.p a).2 }) (sv:=sv) (H2.sub (.cons .here (.cons e_1 (.drop .refl)))))
 |false=>
  rw[iQ (by rw[hs];simp)]at hF;have pD:=J8 hs;rw[pD.1]at H2;have H3:HS g h2 (qA b (UX x sv)::qA b0 (z6 a)::qB 110 2 x.seen.length sv (x.seen.flatMap yi)::R):=H2;have H4:=H3;unfold UX xr z6 at H4;have dn:=O.lo;have iM:=O.hi;have hlen:=O.len;refine qJ (qK (qQ (qZ ‹_› .here rfl ?_)));cases hl:x.cV with
  |false=>
   rw[iJ hl]at hF;refine jB (qX (qW ?_));(try dsimp only);refine qQ (qZ ‹_› e_1 rfl ?_);refine qK (qQ ?_)
   refine qw H4 (b:=b) .here ⟨rfl,rfl⟩ aN λh5 H5=>?_;refine qK (qQ (qw H5 (b:=b) .here ⟨rfl,rfl⟩ aN λh6 H6=>?_));refine qc ‹_› e_1 rfl ‹_› e_1 rfl (HS.lt ‹_› e_1) ?_;exact hj _ _ ⟨rfl,{ x with cV:=true,aj:=a.word },hF.symm,hlen,bX.I (sv:=sv) (H6.sub (.cons .here (.cons e_1 (.drop .refl))))⟩
  |true=>
   rw[iQ (by rw[hl];simp)]at hF;refine jY (qJ (qQ (qi (qZ H4 (b:=b0) e_1 rfl ?_))));cases hd:a.lk.2.1 with
   |true=>
    rw[iJ hd]at hF;refine qX (qW ?_);(try dsimp only);refine qK (qQ (qQ ?_))
    refine qF H4 (b:=b0) (off:=1) e_1 rfl omQ (l:=zG a.lk) rfl ?_;refine qV (GA (l:=a.lk) omQ (O.p pD.2) H3) ?_;rintro _ h5 ⟨rfl,H5⟩;cases hw:(ji x.p a.lk).1 with
    |true=>rw[iJ hw]at hF;subst hF;refine jY (qJ (qk ?_));exact qG (bX.I (x:={ x with p:=(ji x.p a.lk).2 }) (sv:=sv) (H5.sub (.cons .here (.cons e_1 (.drop .refl)))))
    |false=>rw[iQ (by rw[hw];simp)]at hF;subst hF;have H6:=H5;unfold z6 at H6;refine jB (qX (qK (qQ (qQ (qi (qZ H6 (b:=b0) e_1 rfl ?_))))));refine qV (gK omQ H5) λ_ h7 H7=>?_;refine qk ?_;exact qG (bX.I (x:={ x with p:=zV (ji x.p a.lk).2 5 0 a.lk.2.2 }) (sv:=sv) (H7.sub (.cons .here (.cons e_1 (.drop .refl)))))
   |false=>
    rw[iQ (by rw[hd];simp)]at hF;refine qJ (qQ (qi (qZ H4 (b:=b0) e_1 rfl ?_)));refine qK (qQ (qZ ‹_› .here rfl ?_));refine qK (qQ (qZ ‹_› .here rfl ?_));have dA:=O.Hs pD.2 hl;obtain⟨k,hk⟩:∃k:Nat,x.at_=k:=⟨x.at_.toNat,by omega⟩;rw[hk]at dA ⊢;rw[hk]at hF;refine y4 (H3.sl e_2) omQ omQ (QS omQ).2 ?_;by_cases c:a.lk.1=(zT x.seen k).2
    ·refine qs c ?_;rw[iQ (λh=>h c)]at hF;refine qJ (qK (qQ (qZ ‹_› .here rfl ?_)));refine qb omQ ?_;refine qK (qQ ?_);rw[hk]
     skip
     refine qw H4 (b:=b) .here ⟨rfl,rfl⟩ aN λh5 H5=>?_;exact hj _ _ ⟨rfl,{ x with at_:=(k:Int)+1 },hF.symm,hlen,bX.I (sv:=sv) (H5.sub (.cons .here (.cons e_1 (.drop .refl))))⟩
    ·refine jQ c ?_;rw[iJ c,← hk]at hF;subst hF;refine qX (qK (qQ (qV (gK omQ H3) λ_ h7 H7=>?_)));exact qG (bX.I (x:={ x with p:=zV x.p 5 0 (-1) }) (sv:=sv) (H7.sub (.cons .here (.cons e_1 (.drop .refl)))))
end
end
section
variable {g h:AH} {L R:List SP}
structure ComL (c:zq):Prop where
  seen:c.seen.length≤16
  cells:c.cells.length≤1000
  s:c.s.length≤16
  aR:c.aR.length≤c.s.length
  pos:0<c.s.length
  di:c.s.Pairwise (· < ·)
  lo:0≤c.at_
  hi:c.at_≤1000
  now:0≤c.now∧c.now<9223372036854775807
def zw (fin af state at_ now bU:Int) (sl cl tl wl:Nat):Prop :=
 (sl≤16∧cl≤1000∧tl≤16∧wl≤tl∧0<tl∧0≤at_∧at_≤1000∧0≤now∧now<9223372036854775807∧0≤state∧state≤7)∧(fin=0→state≤6→0≤af∧af≤4)∧(fin=0→state≤1→wl<tl)∧(state≤4→at_≤sl)∧
 (2≤state→state≤6→wl=tl)∧(fin=0→state=4→at_<sl)∧(fin=0→state=5→at_<cl)∧(fin=0→state=6→at_<tl)∧(fin=0→state=7→at_<wl)∧(state=7→bU≠0)
structure zt (c:zq):Prop where
  di:c.s.Pairwise (· < ·)
  ar:zw c.p.fin c.p.af c.state c.at_ c.now c.bU c.seen.length c.cells.length c.s.length c.aR.length
section
variable {c:zq} (O:zt c)
include O
theorem zt.toComL:ComL c:=by have h:=O.ar;unfold zw at h;exact⟨by omega,by omega,by omega,by omega,by omega,O.di,by omega,by omega,by omega⟩
theorem zt.p (hg:c.p.fin=0) (hs:c.state≤6):0≤c.p.af∧c.p.af≤4:=by have h:=O.ar;unfold zw at h;omega
theorem zt.PX (hg:c.p.fin=0) (hs:c.state≤1):c.aR.length<c.s.length:=by have h:=O.ar;unfold zw at h;omega
theorem zt.PY (h1:2≤c.state) (h2:c.state≤4):c.aR.length=c.s.length∧c.at_≤c.seen.length:=by have h:=O.ar;unfold zw at h;omega
theorem zt.PZ (hg:c.p.fin=0) (hs:c.state=4):c.at_<c.seen.length:=by have h:=O.ar;unfold zw at h;omega
theorem zt.P1 (hg:c.p.fin=0) (hs:c.state=5):c.at_<c.cells.length:=by have h:=O.ar;unfold zw at h;omega
theorem zt.Ar (hg:c.p.fin=0) (hs:c.state=6):c.at_<c.s.length:=by have h:=O.ar;unfold zw at h;omega
theorem zt.Ra (hg:c.p.fin=0) (hs:c.state=7):c.at_<c.aR.length:=by have h:=O.ar;unfold zw at h;omega
theorem zt.st:0≤c.state∧c.state≤7:=by have h:=O.ar;unfold zw at h;omega
theorem zt.s:c.s.length≤16:=O.toComL.s
theorem zt.aR:c.aR.length≤c.s.length:=O.toComL.aR
theorem zt.seen:c.seen.length≤16:=O.toComL.seen
theorem zt.lo:0≤c.at_:=O.toComL.lo
theorem zt.hi:c.at_≤1000:=O.toComL.hi
theorem zt.now:0≤c.now∧c.now<9223372036854775807:=O.toComL.now
end
theorem qqP:∀{s:List Int} {aR:List cZ} {x:Int},s.Pairwise (· < ·)→aR.length=s.length→rW s aR x=if x∈s then some (zQ aR (s.countP (· <x):Nat)).1 else none:=by
 intro s
 induction s with
 |nil=>intro aR x _ _;cases aR<;>rfl
 |cons y s ih=>
  intro aR x hp hl;cases aR with
  |nil=>cases hl
  |cons w aR=>
   have h1:=List.pairwise_cons.1 hp;unfold rW;by_cases e:y=x
   ·subst e;rw[iJ rfl,iJ (iK ..),List.countP_cons,List.countP_eq_zero.2 (λa ha=>by have:=h1.1 a ha;simp;omega),iV omQ];rfl
   ·rw[iQ e,ih h1.2 (by simpa using hl)];by_cases hm:x∈s
    ·rw[iJ hm,iJ (iX _ hm),List.countP_cons,iG (h1.1 x hm)];unfold zQ;simp
    ·rw[iQ hm,iQ (λh=>by rcases List.mem_cons.1 h with h |h;exact e h.symm;exact hm h)]
theorem qk7 {s:List Int} {x:Int} (_:s.Pairwise (· < ·)) (h:x∈s):s.countP (· <x)<s.length:=by
 rcases Nat.lt_or_ge (s.countP (· <x)) s.length with h' |h'
 ·exact h'
 ·have:=List.countP_eq_length.1 (Nat.le_antisymm List.countP_le_length h') x h;simp at this
def QG (c:zq) (sv cv tv wv:AV):List AV:=xr c.p [.int .i64 c.me,.int .u64 c.aj,sv,cv,tv,wv,.int .i64 c.state,.int .i64 c.at_,.int .u64 c.lk.1,.bool c.lk.2.1,.int .i64 c.lk.2.2,.int .u64 c.now,.bool c.writing,.int .i64 c.bU,.int .i64 c.Aq,.int .i64 c.nV]
def aB (b:Nat) (c:zq):SP:=.ex λq:AV×AV×AV×AV=>.all [qA b (QG c q.1 q.2.1 q.2.2.1 q.2.2.2),qB 110 2 c.seen.length q.1 (c.seen.flatMap yi),qB 164 2 c.cells.length q.2.1 (c.cells.flatMap jI),
 qB 3 1 c.s.length q.2.2.1 (c.s.map (.int .i64)),qB 62 3 c.aR.length q.2.2.2 (c.aR.flatMap zG)]
section
variable {n b:Nat} {c:zq} {sv cv tv wv:AV}
theorem aB.E (H:HS g h (aB b c::R)):∃sv cv tv wv,HS g h (qA b (QG c sv cv tv wv)::qB 110 2 c.seen.length sv (c.seen.flatMap yi)::qB 164 2 c.cells.length cv (c.cells.flatMap jI)::
  qB 3 1 c.s.length tv (c.s.map (.int .i64))::qB 62 3 c.aR.length wv (c.aR.flatMap zG)::R):=by
 obtain⟨⟨sv,cv,tv,wv⟩,H⟩:=H.dU;exact⟨sv,cv,tv,wv,H.b9⟩
theorem aB.I (H:HS g h (qA b (QG c sv cv tv wv)::qB 110 2 c.seen.length sv (c.seen.flatMap yi)::qB 164 2 c.cells.length cv (c.cells.flatMap jI)::
  qB 3 1 c.s.length tv (c.s.map (.int .i64))::qB 62 3 c.aR.length wv (c.aR.flatMap zG)::R)):HS g h (aB b c::R):=HS.ei (sv,cv,tv,wv) H.allI
theorem ZI (hn:2≤n) (H:HS g h (aB b c::R)):aA n 370 [.ptr b 0] h λ_ h'=>HS g h' (aB b (y3 c)::R):=by
 refine ay (S:=S370) rfl omQ λk hk=>?_;unfold S370;try simp only[iZ]
 obtain⟨sv,cv,tv,wv,H⟩:=aB.E H;have H1:=H;unfold QG xr at H1;unfold y3;refine qK (qQ (qZ ‹_› .here rfl ?_));refine qK (qQ (qZ ‹_› .here rfl ?_));refine qo ‹_› e_3 ?_;by_cases c0:c.at_=(c.s.length:Int)
 ·refine qg c0 ?_;rw[iJ c0];refine qX (qK (qQ (qV (gK omQ H) λ_ h2 H2=>?_)));exact qG (aB.I (c:={ c with p:=zV c.p 2 0 (-1) }) H2)
 ·refine qj c0 ?_;rw[iQ c0];refine qJ ?_;exact qG (aB.I H)
theorem MY (hn:3≤n) (H:HS g h (aB b c::R)):aA n 369 [.ptr b 0] h λ_ h'=>HS g h' (aB b (yh c)::R):=by
 refine ay (S:=S369) rfl omQ λk hk=>?_;unfold S369;try simp only[iZ]
 obtain⟨sv,cv,tv,wv,H⟩:=aB.E H;have H1:=H;unfold QG xr at H1;unfold yh;refine qK (qQ (qZ ‹_› .here rfl ?_));refine qK (qQ (qZ ‹_› .here rfl ?_));refine qo ‹_› e_2 ?_;by_cases c0:c.at_=(c.cells.length:Int)
 ·refine qg c0 ?_;rw[iJ c0];refine qX (qK (qQ (qw H1 (b:=b) .here ⟨rfl,rfl⟩ aN λh2 H2=>?_)));refine qK (qQ (qw H2 (b:=b) .here ⟨rfl,rfl⟩ aN λh3 H3=>?_));refine qV (ZI (c:={ c with at_:=0,state:=6 }) omQ (aB.I H3)) λ_ h4 H4=>qG H4
 ·refine qj c0 ?_;rw[iQ c0];refine qJ ?_;exact qG (aB.I H)
theorem Ve (hn:4≤n) (H:HS g h (aB b c::R)):aA n 365 [.ptr b 0] h λ_ h'=>HS g h' (aB b (wO c)::R):=by
 refine ay (S:=S365) rfl omQ λk hk=>?_;unfold S365;try simp only[iZ]
 obtain⟨sv,cv,tv,wv,H⟩:=aB.E H;unfold QG xr at H;refine qK (qQ (qw H (b:=b) .here ⟨rfl,rfl⟩ aN λh2 H2=>?_));refine qK (qQ (qw H2 (b:=b) .here ⟨rfl,rfl⟩ aN λh3 H3=>?_));refine qK (qQ (qw H3 (b:=b) .here ⟨rfl,rfl⟩ aN λh4 H4=>?_));refine qV (MY (c:={ c with writing:=true,at_:=0,state:=5 }) omQ (aB.I H4)) λ_ h5 H5=>qG H5
theorem VO (hn:2≤n) (H:HS g h (aB b c::R)):aA n 371 [.ptr b 0] h λ_ h'=>HS g h' (aB b (gQ c)::R):=by
 refine ay (S:=S371) rfl omQ λk hk=>?_;unfold S371;try simp only
 obtain⟨sv,cv,tv,wv,H⟩:=aB.E H;have H1:=H;unfold QG xr at H1;unfold gQ;refine qK (qQ (qZ ‹_› .here rfl ?_));refine qK (qQ (qZ ‹_› .here rfl ?_));refine qo ‹_› e_4 ?_;by_cases c0:c.at_=(c.aR.length:Int)
 ·refine qg c0 ?_;rw[iJ c0];refine qX (qK (qQ (qK (qQ (qZ ‹_› .here rfl ?_)))));refine qK (qQ (qZ ‹_› .here rfl ?_));refine qK (qQ (qZ ‹_› .here rfl ?_));refine qV (gK omQ H) λ_ h2 H2=>?_;exact qG (aB.I (c:={ c with p:=zV c.p c.bU c.nV c.Aq }) H2)
 ·refine qj c0 ?_;rw[iQ c0];refine qJ ?_;exact qG (aB.I H)
theorem Yc {f e y:Int} (hn:3≤n) (H:HS g h (aB b c::R)):aA n 373 [.ptr b 0,.int .i64 f,.int .i64 e,.int .i64 y] h λ_ h'=>HS g h' (aB b (kz c f e y)::R):=by
 refine nL (S:=S373) rfl omQ λk hk=>?_;unfold S373;try simp only[iZ]
 obtain⟨sv,cv,tv,wv,H⟩:=aB.E H;unfold QG xr at H;refine qK (qQ (qw H (b:=b) .here ⟨rfl,rfl⟩ aN λh2 H2=>?_));refine qK (qQ (qw H2 (b:=b) .here ⟨rfl,rfl⟩ aN λh3 H3=>?_));refine qK (qQ (qw H3 (b:=b) .here ⟨rfl,rfl⟩ aN λh4 H4=>?_));refine qK (qQ (qw H4 (b:=b) .here ⟨rfl,rfl⟩ aN λh5 H5=>?_));refine qK (qQ (qw H5 (b:=b) .here ⟨rfl,rfl⟩ aN λh6 H6=>?_));refine qV (VO (c:={ c with bU:=f,nV:=e,Aq:=y,at_:=0,state:=7 }) omQ (aB.I H6)) λ_ h5 H5=>qG H5
theorem Z1 (hn:1≤n) (H:HS g h (aB b c::R)):aA n 131 [.ptr b 0] h λ_ h'=>HS g h' (aB b (Qk c)::R):=by
 refine ay (S:=S131) rfl omQ λk hk=>?_;unfold S131;try simp only[iZ]
 obtain⟨sv,cv,tv,wv,H⟩:=aB.E H;unfold QG xr at H;unfold Qk;refine qK (qQ (qw H (b:=b) .here ⟨rfl,rfl⟩ aN λh2 H2=>?_));refine qK (qQ (qZ ‹_› .here rfl ?_));refine qo ‹_› e_4 ?_;refine qK (qQ (qZ ‹_› .here rfl ?_));refine qo ‹_› e_3 ?_;by_cases c0:c.aR.length=c.s.length
 ·refine qg omQ ?_;rw[iJ c0];refine qX (qK (qQ (qw H2 (b:=b) .here ⟨rfl,rfl⟩ aN λh3 H3=>?_)));exact qG (aB.I (c:={ c with state:=2 }) H3)
 ·refine qj omQ ?_;rw[iQ c0];refine qJ ?_;exact qG (aB.I (c:={ c with state:=0 }) H2)
theorem Ov {l:cZ} (hn:4≤n) (hp:0≤c.p.af∧c.p.af≤4) (H:HS g h (aB b c::R)):aA n 372 [.ptr b 0,.agg (zG l)] h λ_ h'=>HS g h' (aB b (Qq c l)::R):=by
 refine ba (S:=S372) rfl omQ λk hk=>?_;unfold S372;try simp only[iZ]
 obtain⟨sv,cv,tv,wv,H⟩:=aB.E H;refine qO H rfl λb0 h1 H1=>?_;unfold Qq;refine qK (qQ (qF H1 (b:=b0) (off:=0) .here rfl omQ (l:=zG l) rfl ?_));refine qV (GA (l:=l) omQ hp (H1.aG e_1)) ?_;rintro _ h2 ⟨rfl,H2⟩;have H3:HS g h2 (aB b { c with p:=(ji c.p l).2 }::qA b0 (zG l)::R):=aB.I (sv:=sv) (cv:=cv) (tv:=tv) (wv:=wv) (H2.sub (.cons .here (.cons e_1 (.cons e_1 (.cons e_1 (.cons e_1 .refl))))));cases hw:(ji c.p l).1 with
 |true=>rw[iJ rfl];refine jY (qJ ?_);exact qG (H3.sub (.cons .here (.drop .refl)))
 |false=>rw[iQ aN];unfold zG at H3;refine jB (qX (qQ (qZ ‹_› e_1 rfl ?_)));refine qV (Yc omQ H3) λ_ h4 H4=>?_;exact qG (H4.sub (.cons .here (.drop .refl)))
theorem Mw (hn:5≤n) (O:ComL c) (hw:c.aR.length=c.s.length) (ha:c.at_≤c.seen.length) (H:HS g h (aB b c::R)):aA n 374 [.ptr b 0] h λ_ h'=>HS g h' (aB b (Qc c)::R):=by
 refine ay (S:=S374) rfl omQ λk hk=>?_;unfold S374;try simp only[iZ]
 generalize hF:Qc c=F;unfold Qc at hF;obtain⟨sv,cv,tv,wv,H⟩:=aB.E H;unfold QG xr at H;have l1:=O.seen;have l2:=O.s;have l3:=O.pos;have l4:=O.lo;refine qK (qQ (qw H (b:=b) .here ⟨rfl,rfl⟩ aN λh2 H2=>?_));have H2:HS g h2 (aB b { c with state:=4 }::R):=aB.I H2;refine jL (λm s h'=>s=(.ptr b 0,())∧∃a:Int,vT { c with state:=4,at_:=a } m=F∧0≤a∧a≤c.seen.length∧c.seen.length<a+m∧HS g h' (aB b { c with state:=4,at_:=a }::R))
  ?_ (m:=c.seen.length+1) (by show _<1000000000;omega) ⟨rfl,c.at_,hF,l4,ha,by omega,H2⟩
 clear H H2 hF;rintro m ih s h3 bG ⟨rfl,a,hF,ha0,ha,hm,H⟩;dsimp only;obtain⟨m,rfl⟩:∃k,m=k+1:=⟨m-1,by omega⟩;unfold vT at hF;dsimp only at hF;obtain⟨sv,cv,tv,wv,H⟩:=aB.E H;have H1:=H;unfold QG xr at H1;dsimp only at H1;refine qK (qQ (qZ ‹_› .here rfl ?_));refine qK (qQ (qZ ‹_› .here rfl ?_));refine qo ‹_› e_1 ?_;by_cases au:a<c.seen.length
 ·refine jF au ?_;rw[iJ au]at hF;obtain⟨k,rfl⟩:∃k:Nat,a=k:=⟨a.toNat,by omega⟩;refine qX (qK (qQ (qZ ‹_› .here rfl ?_)));refine qK (qQ (qZ ‹_› .here rfl ?_));refine qK (qQ (qZ ‹_› .here rfl ?_));refine y4 (H.sl e_1) omQ (by show k<c.seen.length;omega) (QS (by show k<c.seen.length;omega)).1 ?_;refine qV (qzT omQ H1 e_3 l3 omQ (O.di.imp λh=>by omega)) ?_;rintro _ _ ⟨rfl,rfl⟩;rw[qqP O.di hw]at hF;by_cases hc:(zT c.seen k).1∈c.s
  ·rw[iJ hc]at hF;dsimp only at hF;rw[show c.s.contains (zT c.seen k).1=true from List.contains_iff_mem.2 hc];have DM:=qk7 O.di hc;refine qD rfl ?_;refine qD rfl ?_;refine jY (qJ (qK (qQ (qZ ‹_› .here rfl ?_))));refine y4 (f:=0) (x:=.int .u64 (zQ c.aR (c.s.countP (· <(zT c.seen k).1):Nat)).1) (H.sl e_4) omQ (Nat.lt_of_lt_of_eq DM hw.symm) ?_ ?_
   ·have:=congrArg (·[0]?) (NJ (l:=c.aR) (k:=c.s.countP (· <(zT c.seen k).1)) omQ);simp only[List.getElem?_take_of_lt (show 0<3 by omega),List.getElem?_drop]at this;exact this
   refine qK (qQ (qZ ‹_› .here rfl ?_));refine qK (qQ (qZ ‹_› .here rfl ?_));refine y4 (H.sl e_1) omQ (by show k<c.seen.length;omega) (QS (by show k<c.seen.length;omega)).2 ?_;by_cases hv:(zQ c.aR (c.s.countP (· <(zT c.seen k).1):Nat)).1=(zT c.seen k).2
   ·refine qs hv ?_;rw[iQ (λh=>h hv)]at hF;refine qJ (qK (qQ (qZ ‹_› .here rfl ?_)));refine qb omQ ?_;refine qK (qQ (qw H1 (b:=b) .here ⟨rfl,rfl⟩ aN λh4 H4=>?_));exact bG m _ _ omQ ⟨rfl,(k:Int)+1,hF,by omega,by omega,by omega,aB.I (c:={ c with state:=4,at_:=(k:Int)+1 }) H4⟩
   ·refine jQ hv ?_;rw[iJ hv]at hF;subst hF;refine qX (qV (Yc omQ (aB.I H)) λ_ h4 H4=>?_);refine qk ?_;exact qG H4
  ·rw[iQ hc]at hF;dsimp only at hF;subst hF;rw[show c.s.contains (zT c.seen k).1=false from by simpa using hc];refine qD rfl ?_;refine qD rfl ?_;refine jB (qX (qk ?_));exact qG (aB.I H)
 ·refine jV au ?_;rw[iQ au]at hF;subst hF;refine qJ (qV (Ve omQ (aB.I H)) λ_ h4 H4=>?_);refine qk ?_;exact qG H4
end
end
section
variable {g h:AH} {L R:List SP}
section
variable {n b:Nat} {c:zq} {sv cv tv wv:AV} {a:cO}
theorem qJe {l:cZ} (hn:6≤n) (O:zt c) (hg:c.p.fin=0) (h4:c.state=4) (H:HS g h (aB b c::R)):aA n 368 [.ptr b 0,.agg (zG l)] h λ_ h'=>HS g h' (aB b (wZ c l)::R):=by
 refine ba (S:=S368) rfl omQ λk hk=>?_;unfold S368;try simp only[iZ]
 generalize hF:wZ c l=F;refine qO H rfl λb0 h1 H1=>?_;refine jo [] (λ_ h'=>HS g h' (aB b F::R)) (λj hj=>?_) λ_ h' H'=>?_
 rotate_left
 ·refine qk ?_;exact qG H'
 unfold wZ at hF;have H2:=H1;unfold zG at H2;refine qQ (qZ ‹_› .here rfl ?_);cases hd:l.2.1 with
 |true=>rw[iJ hd]at hF;subst hF;refine qX (qF H1 (b:=b0) (off:=0) .here rfl omQ (l:=zG l) rfl ?_);refine qV (Ov omQ (O.p hg omQ) (H1.aG e_1)) λ_ h3 H3=>?_;exact hj _ _ (H3.sub (.cons .here (.drop .refl)))
 |false=>
  rw[iQ (by rw[hd];simp)]at hF;obtain⟨sv,cv,tv,wv,H3⟩:=aB.E (H2.aG e_1);have H4:=H3;unfold QG xr at H4;have au:=O.PZ hg h4;have dn:=O.lo;have l1:=O.seen;obtain⟨k,hk⟩:∃k:Nat,c.at_=k:=⟨c.at_.toNat,by omega⟩;refine qJ (qQ (qZ ‹_› e_5 rfl ?_));refine qK (qQ (qZ ‹_› .here rfl ?_));refine qK (qQ (qZ ‹_› .here rfl ?_));rw[hk]at hF au ⊢;refine y4 (H3.sl e_1) omQ omQ (QS omQ).2 ?_;by_cases c0:l.1=(zT c.seen k).2
  ·refine qs c0 ?_;rw[iQ (λh=>h c0)]at hF;subst hF;refine qJ (qK (qQ (qZ ‹_› .here rfl ?_)));refine qb omQ ?_;refine qK (qQ ?_);rw[hk]
   skip
   refine qw H4 (b:=b) .here ⟨rfl,rfl⟩ aN λh5 H5=>?_;refine qV (Mw (c:={ c with at_:=(k:Int)+1 }) omQ { O.toComL with lo:=(by show(0:Int)≤k+1;omega),hi:=(by show(k:Int)+1≤1000;have:=O.seen;omega) } (O.PY omQ omQ).1 (by show(k:Int)+1≤c.seen.length;omega) (aB.I H5)) λ_ h6 H6=>?_;exact hj _ _ (H6.sub (.cons .here (.drop .refl)))
  ·refine jQ c0 ?_;rw[iJ c0]at hF;subst hF;refine qX (qV (Yc omQ (aB.I H3)) λ_ h6 H6=>?_);exact hj _ _ (H6.sub (.cons .here (.drop .refl)))
theorem Ob (hn:5≤n) (O:zt c) (hg:c.p.fin=0) (H:HS g h (aB b c::R)):aA n 366 [.ptr b 0,.agg (z6 a)] h λ_ h'=>HS g h' (aB b (kx c a)::R):=by
 refine ba (S:=S366) rfl omQ λk hk=>?_;unfold S366;try simp only[iZ]
 generalize hF:kx c a=F;refine qO H rfl λb0 h1 H1=>?_;refine jo [] (λ_ h'=>HS g h' (aB b F::R)) (λj hj=>?_) λ_ h' H'=>?_
 rotate_left
 ·refine qk ?_;exact qG H'
 unfold kx at hF;obtain⟨sv,cv,tv,wv,H2⟩:=aB.E (H1.aG e_1);have H3:=H2;unfold QG xr z6 at H3;have l1:=O.s;have l2:=O.aR;refine qK (qQ (qZ ‹_› .here rfl ?_));by_cases c0:c.state=0
 ·refine qg c0 ?_;refine qW ?_;(try dsimp only);refine qa ?_;(try dsimp only);refine qQ ?_
  refine qi (qZ H3 (b:=b0) e_5 rfl ?_);cases hd:a.lk.2.1 with
  |true=>rw[iJ ⟨c0,hd⟩]at hF;subst hF;refine qH (qX (qQ (qF H1 (b:=b0) (off:=1) .here rfl omQ (l:=zG a.lk) rfl ?_)));refine qV (Ov omQ (O.p hg omQ) (H1.aG e_1)) λ_ h3 H3=>?_;exact hj _ _ (H3.sub (.cons .here (.drop .refl)))
  |false=>rw[iQ (λh=>by rw[hd]at h;cases h.2),iJ c0]at hF;subst hF;refine qH (qJ (qK (qQ (qZ ‹_› .here rfl ?_))));refine qg omQ ?_;refine qX (qQ (qF H1 (b:=b0) (off:=1) .here rfl omQ (l:=zG a.lk) rfl ?_));refine qK (qQ (qh H3 (b:=b) .here rfl (by show 13+3≤21;omega) rfl λh5 H5=>?_));refine qK (qQ (qw H5 (b:=b) .here ⟨rfl,rfl⟩ (by simp[kT]) λh6 H6=>?_));have H7:HS g h6 (aB b { c with lk:=a.lk,state:=1 }::qA b0 (z6 a)::R):=aB.I (sv:=sv) (cv:=cv) (tv:=tv) (wv:=wv) H6;exact hj _ _ (H7.sub (.cons .here (.drop .refl)))
 ·refine qj c0 ?_;rw[iQ (λh=>c0 h.1),iQ c0]at hF;refine qW ?_;(try dsimp only);refine qU ?_;(try dsimp only);refine qI (qJ (qK (qQ (qZ ‹_› .here rfl ?_))));refine qj omQ ?_;refine qJ (qQ (qZ ‹_› e_5 rfl ?_))
  cases hd:a.done with
  |true=>
   rw[iJ hd]at hF;subst hF;refine qX (qK (qQ (qZ ‹_› .here rfl ?_)));refine qK (qQ (qF H3 (b:=b) (off:=13) .here rfl omQ (l:=zG c.lk) rfl ?_));refine qm (n:=1) (l:=zG c.lk) (sz:=3) H3 rfl rfl rfl rfl λv2 h5 H5=>?_;refine ja (H5.aG e_5) (H5.sl .here) omQ omQ rfl λv3 h6 H6=>?_;have o6:=H6.one .here;refine qK (qQ (qw H6 (b:=b) e_2 o6 aN λh7 H7=>?_));have H8:HS g h7 (aB b { c with aR:=c.aR++[c.lk] }::qA b0 (z6 a)::R):=by refine aB.I (sv:=sv) (cv:=cv) (tv:=tv) (wv:=v3) ?_;rw[List.length_append,List.flatMap_append];exact H7.sub (.cons .here (.cons e_2 (.cons e_2 (.cons e_2 (.cons .here (.drop .refl))))))
   refine qV (Z1 omQ H8) λ_ h9 H9=>?_;exact hj _ _ (H9.sub (.cons .here (.drop .refl)))
  |false=>rw[iQ (by rw[hd];simp)]at hF;subst hF;refine qJ (qK (qQ (qw H3 (b:=b) .here ⟨rfl,rfl⟩ aN λh6 H6=>?_)));have H7:HS g h6 (aB b { c with state:=0 }::qA b0 (z6 a)::R):=aB.I (sv:=sv) (cv:=cv) (tv:=tv) (wv:=wv) H6;exact hj _ _ (H7.sub (.cons .here (.drop .refl)))
theorem MK (hn:6≤n) (O:zt c) (Ag:c.state=2∨c.state=3) (H:HS g h (aB b c::R)):aA n 367 [.ptr b 0,.agg (z6 a)] h λ_ h'=>HS g h' (aB b (gD c a)::R):=by
 refine ba (S:=S367) rfl omQ λk hk=>?_;unfold S367;try simp only[iZ]
 generalize hF:gD c a=F;refine qO H rfl λb0 h1 H1=>?_;refine jo [] (λ_ h'=>HS g h' (aB b F::R)) (λj hj=>?_) λ_ h' H'=>?_
 rotate_left
 ·refine qk ?_;exact qG H'
 unfold gD at hF;obtain⟨sv,cv,tv,wv,H2⟩:=aB.E (H1.aG e_1);have H3:=H2;unfold QG xr z6 at H3;refine qK (qQ (qZ ‹_› .here rfl ?_));by_cases c0:c.state=2
 ·refine qg c0 ?_;refine qW ?_;(try dsimp only);refine qa ?_;(try dsimp only);refine qQ (qZ ‹_› e_5 rfl ?_)
  by_cases c1:4611686018427387903≤a.word
  ·refine zx omQ ?_;rw[iJ ⟨c0,c1⟩]at hF;subst hF;refine qH (qX (qV (Yc omQ (aB.I H2)) λ_ h6 H6=>?_));exact hj _ _ (H6.sub (.cons .here (.drop .refl)))
  ·refine zK omQ ?_;rw[iQ (λh=>c1 h.2),iJ c0]at hF;subst hF;refine qH (qJ (qK (qQ (qZ ‹_› .here rfl ?_))));refine qg omQ ?_;refine qX (qQ (qZ ‹_› e_5 rfl ?_));refine qK (qQ (qw H3 (b:=b) .here ⟨rfl,rfl⟩ aN λh6 H6=>?_));refine qK (qQ (qw H6 (b:=b) .here ⟨rfl,rfl⟩ aN λh7 H7=>?_));have H8:HS g h7 (aB b { c with now:=a.word,state:=3 }::qA b0 (z6 a)::R):=aB.I (sv:=sv) (cv:=cv) (tv:=tv) (wv:=wv) H7;exact hj _ _ (H8.sub (.cons .here (.drop .refl)))
 ·refine qj c0 ?_;rw[iQ (λh=>c0 h.1),iQ c0]at hF;have h3:=O.PY omQ omQ;refine qW ?_;(try dsimp only);refine qU ?_;(try dsimp only);refine qI (qJ (qK (qQ (qZ ‹_› .here rfl ?_))));refine qj omQ ?_;refine qJ (qQ (qZ ‹_› e_5 rfl ?_))
  cases hd:a.done with
  |false=>rw[iJ hd]at hF;subst hF;refine jB (qX (qK (qQ (qw H3 (b:=b) .here ⟨rfl,rfl⟩ aN λh6 H6=>?_))));have H7:HS g h6 (aB b { c with state:=2 }::qA b0 (z6 a)::R):=aB.I (sv:=sv) (cv:=cv) (tv:=tv) (wv:=wv) H6;exact hj _ _ (H7.sub (.cons .here (.drop .refl)))
  |true=>
   rw[iQ (by rw[hd];simp)]at hF;refine jY (qJ (qK (qQ (qZ ‹_› .here rfl ?_))));refine qK (qQ (qZ ‹_› .here rfl ?_));by_cases c1:c.now=c.aj
   ·refine qg c1 ?_;rw[iJ c1]at hF;subst hF;refine qX (qV (Ve omQ (aB.I H2)) λ_ h6 H6=>?_);exact hj _ _ (H6.sub (.cons .here (.drop .refl)))
   ·refine qj c1 ?_;rw[iQ c1]at hF;subst hF;refine qJ (qV (Mw omQ O.toComL h3.1 h3.2 (aB.I H2)) λ_ h6 H6=>?_);exact hj _ _ (H6.sub (.cons .here (.drop .refl)))
theorem qzU (hn:7≤n) (O:zt c) (H:HS g h (aB b c::R)):aA n 364 [.ptr b 0,.agg (z6 a)] h λ_ h'=>HS g h' (aB b (zj c a)::R):=by
 refine ba (S:=S364) rfl omQ λk hk=>?_;unfold S364;try simp only[iZ]
 generalize hF:zj c a=F;refine qO H rfl λb0 h1 H1=>?_;obtain⟨sv,cv,tv,wv,H2⟩:=aB.E (H1.aG e_1);have dn:=O.lo;have iM:=O.hi;have cC:=O.st;unfold zj at hF;refine qK (qQ (qF H1 (b:=b0) (off:=0) .here rfl omQ (l:=z6 a) rfl ?_));refine qV (JR omQ H2) ?_;rintro _ h2 ⟨rfl,H3⟩;cases hs:(qu c.p a).1 with
 |true=>rw[iJ hs]at hF;subst hF;refine qX ?_;have H4:HS g h2 (aB b { c with p:=(qu c.p a).2 }::qA b0 (z6 a)::R):=aB.I (sv:=sv) (cv:=cv) (tv:=tv) (wv:=wv) H3;exact qG (H4.sub (.cons .here (.drop .refl)))
 |false=>
  rw[iQ (by rw[hs];simp)]at hF;have pD:=J8 hs;rw[pD.1]at H3;have hg:=pD.2;clear H1 H2 H pD hs;have H2:HS g h2 (aB b c::qA b0 (z6 a)::R):=aB.I (sv:=sv) (cv:=cv) (tv:=tv) (wv:=wv) H3
  have H4:HS g h2 (qA b (QG c sv cv tv wv)::qB 110 2 c.seen.length sv (c.seen.flatMap yi)::qB 164 2 c.cells.length cv (c.cells.flatMap jI)::
   qB 3 1 c.s.length tv (c.s.map (.int .i64))::qB 62 3 c.aR.length wv (c.aR.flatMap zG)::qA b0 (z6 a)::R):=H3
  unfold QG xr at H4;refine qJ (qK (qi (qZ H4 (b:=b) .here rfl ?_)));refine jo [] (λ_ h'=>HS g h' (aB b F::R)) (λj hj=>?_) λ_ h' H'=>?_
  rotate_left
  ·refine qk ?_;exact qG H'
  by_cases c0:c.state=0∨c.state=1
  ·rw[iJ c0]at hF;subst hF;rcases c0 with c0 |c0
   ·refine qW ?_;(try dsimp only);refine qg omQ ?_;refine qX (qX ?_)
    refine qF H3 (b:=b0) (off:=0) e_5 rfl omQ (l:=z6 a) rfl ?_;refine qV (Ob omQ O hg H2) λ_ h6 H6=>?_;exact hj _ _ (H6.sub (.cons .here (.drop .refl)))
   ·refine qW ?_;(try dsimp only);refine qj omQ ?_;refine qJ (qg omQ ?_);refine qX ?_
    refine qF H3 (b:=b0) (off:=0) e_5 rfl omQ (l:=z6 a) rfl ?_;refine qV (Ob omQ O hg H2) λ_ h6 H6=>?_;exact hj _ _ (H6.sub (.cons .here (.drop .refl)))
  rw[iQ c0]at hF;by_cases c1:c.state=2∨c.state=3
  ·rw[iJ c1]at hF;subst hF;have c2:=c1;rcases c1 with c1' |c1'
   ·refine qW ?_;(try dsimp only);refine qj omQ ?_;refine qJ (qj omQ ?_);refine qJ (qW ?_);(try dsimp only);refine qg omQ ?_;refine qX (qX ?_)
    refine qF H3 (b:=b0) (off:=0) e_5 rfl omQ (l:=z6 a) rfl ?_;refine qV (MK omQ O c2 H2) λ_ h6 H6=>?_;exact hj _ _ (H6.sub (.cons .here (.drop .refl)))
   ·refine qW ?_;(try dsimp only);refine qj omQ ?_;refine qJ (qj omQ ?_);refine qJ (qW ?_);(try dsimp only);refine qj omQ ?_;refine qJ (qg omQ ?_);refine qX ?_
    refine qF H3 (b:=b0) (off:=0) e_5 rfl omQ (l:=z6 a) rfl ?_;refine qV (MK omQ O c2 H2) λ_ h6 H6=>?_;exact hj _ _ (H6.sub (.cons .here (.drop .refl)))
  rw[iQ c1]at hF;by_cases c4:c.state=4
  ·rw[iJ c4]at hF;subst hF;refine qW ?_;(try dsimp only);refine qj omQ ?_;refine qJ (qj omQ ?_);refine qJ (qW ?_);(try dsimp only);refine qj omQ ?_;refine qJ (qj omQ ?_);refine qJ (qg omQ ?_);refine qX (qQ ?_)
   refine qF H3 (b:=b0) (off:=1) e_5 rfl omQ (l:=zG a.lk) rfl ?_;refine qV (qJe omQ O hg c4 H2) λ_ h6 H6=>?_;exact hj _ _ (H6.sub (.cons .here (.drop .refl)))
  rw[iQ c4]at hF;by_cases c5:c.state=5
  ·rw[iJ c5]at hF;subst hF;refine qW ?_;(try dsimp only);refine qj omQ ?_;refine qJ (qj omQ ?_);refine qJ (qW ?_);(try dsimp only);refine qj omQ ?_;refine qJ (qj omQ ?_);refine qJ (qj omQ ?_);refine qJ (qg omQ ?_);refine qX (qK (qQ (qZ ‹_› .here rfl ?_)));refine qb omQ ?_;refine qK (qQ ?_)
   refine qw H4 (b:=b) .here ⟨rfl,rfl⟩ aN λh5 H5=>?_;have H6:HS g h5 (aB b { c with at_:=c.at_+1 }::qA b0 (z6 a)::R):=aB.I (sv:=sv) (cv:=cv) (tv:=tv) (wv:=wv) H5;refine qV (MY omQ H6) λ_ h6 H6=>?_;exact hj _ _ (H6.sub (.cons .here (.drop .refl)))
  rw[iQ c5]at hF;by_cases c6:c.state=6
  ·rw[iJ c6]at hF;subst hF;refine qW ?_;(try dsimp only);refine qj omQ ?_;refine qJ (qj omQ ?_);refine qJ (qW ?_);(try dsimp only);refine qj omQ ?_;refine qJ (qj omQ ?_);refine qJ (qj omQ ?_);refine qJ (qj omQ ?_);refine qJ (qg omQ ?_);refine qX (qK (qQ (qZ ‹_› .here rfl ?_)));refine qb omQ ?_;refine qK (qQ ?_)
   refine qw H4 (b:=b) .here ⟨rfl,rfl⟩ aN λh5 H5=>?_;have H6:HS g h5 (aB b { c with at_:=c.at_+1 }::qA b0 (z6 a)::R):=aB.I (sv:=sv) (cv:=cv) (tv:=tv) (wv:=wv) H5;refine qV (ZI omQ H6) λ_ h6 H6=>?_;exact hj _ _ (H6.sub (.cons .here (.drop .refl)))
  rw[iQ c6]at hF;subst hF;refine qW ?_;(try dsimp only);refine qj omQ ?_;refine qJ (qj omQ ?_);refine qJ (qW ?_);(try dsimp only);refine qj omQ ?_;refine qJ (qj omQ ?_);refine qJ (qj omQ ?_);refine qJ (qj omQ ?_);refine qJ (qj omQ ?_);refine qJ (qg omQ ?_);refine qX (qK (qQ (qZ ‹_› .here rfl ?_)));refine qb omQ ?_;refine qK (qQ ?_)
  refine qw H4 (b:=b) .here ⟨rfl,rfl⟩ aN λh5 H5=>?_;have H6:HS g h5 (aB b { c with at_:=c.at_+1 }::qA b0 (z6 a)::R):=aB.I (sv:=sv) (cv:=cv) (tv:=tv) (wv:=wv) H5;refine qV (VO omQ H6) λ_ h6 H6=>?_;exact hj _ _ (H6.sub (.cons .here (.drop .refl)))
end
end
section
variable {g h:AH} {L R:List SP}
theorem Zy {l:List Cl} {k:Nat} (hk:k<l.length):(l.flatMap jI)[k*2+0]? =some (.int .i64 (wu l (k:Int)).1)∧(l.flatMap jI)[k*2+1]? =some (.int .u64 (wu l (k:Int)).2):=by
 have e:((l.flatMap jI).drop (k*2)).take 2=jI (wu l (k:Int)):=vw (sz:=2) (enc:=jI) (λ_=>rfl) (by unfold wu;rw[Int.toNat_natCast,iW hk];rfl);constructor
 ·have:=congrArg (·[0]?) e;simp only[List.getElem?_take_of_lt (show 0<2 by omega),List.getElem?_drop]at this;exact this
 ·have:=congrArg (·[1]?) e;simp only[List.getElem?_take_of_lt (show 1<2 by omega),List.getElem?_drop]at this;exact this
section
variable {n b:Nat} {c:zq} {sv cv tv wv:AV}
theorem Kg (hn:2≤n) (H:HS g h (aB b c::R)):aA n 114 [.ptr b 0] h λr h'=>r=.int .i64 c.p.fin∧h'=h:=by
 refine ay (S:=S114) rfl omQ λk hk=>?_;unfold S114;try simp only
 obtain⟨sv,cv,tv,wv,H⟩:=aB.E H;refine qK (qQ (qV (Xz omQ H .here) ?_));rintro _ _ ⟨rfl,rfl⟩;exact qG ⟨rfl,rfl⟩
theorem qzp (hn:2≤n) (H:HS g h (aB b c::R)):aA n 134 [.ptr b 0] h λr h'=>r=.int .i64 c.p.err∧h'=h:=by
 refine ay (S:=S134) rfl omQ λk hk=>?_;unfold S134;try simp only
 obtain⟨sv,cv,tv,wv,H⟩:=aB.E H;refine qK (qQ (qV (qzs omQ H .here) ?_));rintro _ _ ⟨rfl,rfl⟩;exact qG ⟨rfl,rfl⟩
theorem qwT (hn:2≤n) (H:HS g h (aB b c::R)):aA n 362 [.ptr b 0] h λr h'=>r=.int .i64 c.p.dB∧h'=h:=by
 refine ay (S:=S362) rfl omQ λk hk=>?_;unfold S362;try simp only
 obtain⟨sv,cv,tv,wv,H⟩:=aB.E H;refine qK (qQ (qV (Hq omQ H .here) ?_));rintro _ _ ⟨rfl,rfl⟩;exact qG ⟨rfl,rfl⟩
theorem qK0 (hn:1≤n) (hw:0≤c.now∧c.now<9223372036854775807) (H:HS g h (aB b c::R)):aA n 105 [.ptr b 0] h λr h'=>r=.int .u64 (ga c)∧h'=h:=by
 refine ay (S:=S105) rfl omQ λk hk=>?_;unfold S105;try simp only[iZ]
 obtain⟨sv,cv,tv,wv,H⟩:=aB.E H;unfold QG xr at H;unfold ga;refine qK (qQ (qZ ‹_› .here rfl ?_));cases hd:c.writing with
 |true=>rw[iQ aN];refine jY (qJ (qK (qQ (qZ ‹_› .here rfl ?_))));refine yv omQ ?_;exact qG ⟨rfl,rfl⟩
 |false=>rw[iJ rfl];refine jB (qX ?_);exact qG ⟨rfl,rfl⟩
theorem O4 (hn:3≤n) (H:HS g h (aB b c::R)):aA n 113 [.ptr b 0] h λr h'=>r=.bool (wq c)∧h'=h:=by
 refine ay (S:=S113) rfl omQ λk hk=>?_;unfold S113;try simp only[iZ]
 obtain⟨sv,cv,tv,wv,H1⟩:=aB.E H;unfold QG xr at H1;unfold wq;refine qK (qQ (qZ ‹_› .here rfl ?_));refine qW ?_;(try dsimp only)
 cases hd:c.writing with
 |true=>
  refine qa ?_;(try dsimp only)
  refine qV (Kg omQ H) ?_;rintro _ _ ⟨rfl,rfl⟩;refine gw (λc1=>?_) (λc1=>?_)
  ·refine qH ?_;exact qG ⟨congrArg AV.bool (by rw[iG (p:=c.p.fin=0) c1];rfl),rfl⟩
  ·refine qH ?_;exact qG ⟨congrArg AV.bool (by rw[iV (p:=c.p.fin=0) c1];rfl),rfl⟩
 |false=>
  refine qU ?_;(try dsimp only);refine qI ?_
  exact qG ⟨rfl,rfl⟩
theorem qWo (hn:2≤n) (O:zt c) (H:HS g h (aB b c::R)):aA n 363 [.ptr b 0] h λr h'=>r=ri (xP c)∧HS g h' (aB b c::R):=by
 refine ay (S:=S363) rfl omQ λk hk=>?_;unfold S363;try simp only[iZ]
 obtain⟨sv,cv,tv,wv,H⟩:=aB.E H;refine qO H rfl λb0 h1 H1=>?_;have dn:=O.lo;have cC:=O.st;have rX:=O.now;have l1:=O.s;have l2:=O.aR;refine qK (qQ (qV (Xz omQ H1 e_1) ?_));rintro _ _ ⟨rfl,rfl⟩;unfold xP;have H2:=H1;unfold QG xr at H2;by_cases hg:c.p.fin=0
 rotate_left
 ·refine jQ hg ?_;rw[iJ hg];refine qX (qM rfl ?_);refine qh H1 (b:=b0) .here rfl (by show 0+10≤10;omega) rfl λh3 H3=>?_;refine qF H3 (b:=b0) (off:=0) .here rfl omQ (l:=x8 (bg 0 0 0)) rfl ?_;exact qG ⟨rfl,aB.I H3.drop⟩
 refine qs hg ?_;rw[iQ (λh=>h hg)];refine qJ (qK (qQ (qZ ‹_› e_1 rfl ?_)));by_cases c0:c.state=0
 ·refine qg c0 ?_;rw[iJ c0];refine qX (qK (qQ (qZ ‹_› e_1 rfl ?_)));refine qK (qQ (qZ ‹_› e_1 rfl ?_));refine qo ‹_› e_5 ?_;have hw:=O.PX hg omQ;refine jd (H1.sl e_4) (x:=.int .i64 (qE c.s c.aR.length)) (by rw[List.getElem?_map,gX hw];rfl) ?_;refine qM rfl ?_;refine qh H2 (b:=b0) .here rfl (by show 0+10≤10;omega) rfl λh3 H3=>?_;refine qF H3 (b:=b0) (off:=0) .here rfl omQ (l:=x8 (bg 3 (qE c.s c.aR.length) 0)) rfl ?_;exact qG ⟨rfl,aB.I H3.drop⟩
 refine qj c0 ?_;rw[iQ c0];refine qJ ?_;by_cases c1:c.state=1
 ·refine qg c1 ?_;rw[iJ c1];refine qX (qK (qQ ?_));have hw:=O.PX hg omQ;refine qi (qZ H2 (b:=b) e_1 rfl ?_);refine qK (qQ (qZ ‹_› e_1 rfl ?_));refine qM rfl ?_;refine qO H2 rfl λb1 h3 H3=>?_;refine qh H3 (b:=b1) .here rfl (by show 0+3≤3;omega) rfl λh4 H4=>?_;have H4:HS g h4 (qA b1 (zG (c.lk.1,true,c.me))::qA b0 _::qA b (QG c sv cv tv wv)::_):=H4;have H5:=H4;unfold QG xr at H5;refine qK (qQ (qZ ‹_› e_2 rfl ?_));refine qK (qQ (qZ ‹_› e_2 rfl ?_));refine qo ‹_› e_6 ?_;refine jd (H4.sl e_5) (x:=.int .i64 (qE c.s c.aR.length)) (by rw[List.getElem?_map,gX hw];rfl) ?_;refine qK (qQ (qF H5 (b:=b) (off:=13) e_2 rfl omQ (l:=zG c.lk) rfl ?_));refine qF H5 (b:=b1) (off:=0) .here rfl omQ (l:=zG (c.lk.1,true,c.me)) rfl ?_;refine qM rfl ?_;refine qh H5 (b:=b0) e_1 rfl (by show 0+10≤10;omega) rfl λh6 H6=>?_;refine qF H6 (b:=b0) (off:=0) .here rfl omQ (l:=x8 ⟨4,qE c.s c.aR.length,0,0,c.lk,(c.lk.1,true,c.me)⟩) rfl ?_;exact qG ⟨rfl,aB.I H6.drop.drop⟩
 refine qj c1 ?_;rw[iQ c1];refine qJ ?_;by_cases c2:c.state=2
 ·refine qg c2 ?_;rw[iJ c2];refine qX (qM rfl ?_);refine qh H2 (b:=b0) .here rfl (by show 0+10≤10;omega) rfl λh3 H3=>?_;refine qF H3 (b:=b0) (off:=0) .here rfl omQ (l:=x8 (bg 6 0 0)) rfl ?_;exact qG ⟨rfl,aB.I H3.drop⟩
 refine qj c2 ?_;rw[iQ c2];refine qJ ?_;by_cases c3:c.state=3
 ·refine qg c3 ?_;rw[iJ c3];refine qX (qK (qQ (qZ ‹_› e_1 rfl ?_)));refine qK (qQ (qZ ‹_› e_1 rfl ?_));refine yv omQ ?_;refine qM rfl ?_;refine qh H2 (b:=b0) .here rfl (by show 0+10≤10;omega) rfl λh3 H3=>?_;refine qF H3 (b:=b0) (off:=0) .here rfl omQ (l:=x8 (⟨7,0,c.now,c.now+1,b8,b8⟩)) rfl ?_;exact qG ⟨rfl,aB.I H3.drop⟩
 refine qj c3 ?_;rw[iQ c3];refine qJ ?_;by_cases c4:c.state=4
 ·refine qg c4 ?_;rw[iJ c4];refine qX (qK (qQ (qZ ‹_› e_1 rfl ?_)));refine qK (qQ (qZ ‹_› e_1 rfl ?_));have au:=O.PZ hg c4;obtain⟨k,hk⟩:∃k:Nat,c.at_=k:=⟨c.at_.toNat,by omega⟩;rw[hk]at au ⊢;refine y4 (H1.sl e_2) omQ omQ (QS omQ).1 ?_;refine qM rfl ?_;refine qh H2 (b:=b0) .here rfl (by show 0+10≤10;omega) rfl λh3 H3=>?_;refine qF H3 (b:=b0) (off:=0) .here rfl omQ (l:=x8 (bg 3 (zT c.seen k).1 0)) rfl ?_;exact qG ⟨rfl,aB.I H3.drop⟩
 refine qj c4 ?_;rw[iQ c4];refine qJ ?_;by_cases c5:c.state=5
 ·refine qg c5 ?_;rw[iJ c5];refine qX (qK (qQ (qZ ‹_› e_1 rfl ?_)));refine qK (qQ (qZ ‹_› e_1 rfl ?_));have au:=O.P1 hg c5;obtain⟨k,hk⟩:∃k:Nat,c.at_=k:=⟨c.at_.toNat,by omega⟩;rw[hk]at au ⊢;refine y4 (H1.sl e_3) omQ omQ (Zy omQ).1 ?_;refine qK (qQ (qZ ‹_› e_1 rfl ?_));refine qK (qQ (qZ ‹_› e_1 rfl ?_));rw[hk];refine y4 (H1.sl e_3) omQ omQ (Zy omQ).2 ?_;refine qM rfl ?_;refine qh H2 (b:=b0) .here rfl (by show 0+10≤10;omega) rfl λh3 H3=>?_;refine qF H3 (b:=b0) (off:=0) .here rfl omQ (l:=x8 (bg 2 (wu c.cells k).1 (wu c.cells k).2)) rfl ?_;exact qG ⟨rfl,aB.I H3.drop⟩
 refine qj c5 ?_;rw[iQ c5];refine qJ ?_;by_cases c6:c.state=6
 ·refine qg c6 ?_;rw[iJ c6];refine qX (qK (qQ (qZ ‹_› e_1 rfl ?_)));refine qK (qQ (qZ ‹_› e_1 rfl ?_));have au:=O.Ar hg c6;obtain⟨k,hk⟩:∃k:Nat,c.at_=k:=⟨c.at_.toNat,by omega⟩;rw[hk]at au ⊢;refine jd (H1.sl e_4) (x:=.int .i64 (qE c.s k)) (by rw[List.getElem?_map,gX omQ];rfl) ?_;refine qK (qQ (qZ ‹_› e_1 rfl ?_));refine yv omQ ?_;refine qM rfl ?_;refine qM rfl ?_;refine qh H2 (b:=b0) .here rfl (by show 0+10≤10;omega) rfl λh3 H3=>?_;refine qF H3 (b:=b0) (off:=0) .here rfl omQ (l:=x8 (⟨5,qE c.s k,0,0,b8,(c.now+1,false,0)⟩)) rfl ?_;exact qG ⟨rfl,aB.I H3.drop⟩
 refine qj c6 ?_;rw[iQ c6];refine qJ (qK (qQ (qZ ‹_› e_1 rfl ?_)));refine qK (qQ (qZ ‹_› e_1 rfl ?_));have au:=O.Ra hg omQ;obtain⟨k,hk⟩:∃k:Nat,c.at_=k:=⟨c.at_.toNat,by omega⟩;rw[hk]at au ⊢;refine jd (H1.sl e_4) (x:=.int .i64 (qE c.s k)) (by rw[List.getElem?_map,gX omQ];rfl) ?_;refine qK (qQ (qZ ‹_› e_1 rfl ?_));refine qK (qQ (qZ ‹_› e_1 rfl ?_));rw[hk];refine zd (l:=zG (zQ c.aR k)) (H1.sl e_5) omQ omQ (NJ omQ) ?_;refine qM rfl ?_;refine qh H2 (b:=b0) .here rfl (by show 0+10≤10;omega) rfl λh3 H3=>?_;refine qF H3 (b:=b0) (off:=0) .here rfl omQ (l:=x8 (⟨5,qE c.s k,0,0,b8,zQ c.aR k⟩)) rfl ?_;exact qG ⟨rfl,aB.I H3.drop⟩
theorem qxA {me sp st a w:Int} {v1 v2:AV} {r:List xj} {cs:List Cl} (hn:5≤n) (hr:r.length≤1000) (h0:0<cs.length) (hl:cs.length≤1000) (hc:∀c∈cs,0≤c.1∧c.1<100000)
  (H:HS g h (qB 110 2 r.length v1 (r.flatMap yi)::qB 164 2 cs.length v2 (cs.flatMap jI)::R)) :
  aA n 102 [.int .i64 me,.int .i64 sp,.int .u64 st,v1,v2,.int .i64 a,.int .i64 w] h λv h'=>∃b,v=.ptr b 0∧HS g h' (aB b (Js me sp st r cs a w)::R):=by
 refine FB (S:=S102) rfl omQ λk hk=>?_;unfold S102;try simp only[iZ]
 refine qV (NH omQ H) ?_;rintro _ h1 ⟨rfl,H1⟩;refine qV (YE omQ H1 .here (ke (λ_=>rfl) _) omQ) λu1 h2 H2=>?_;refine qV (Pn omQ H2 e_2 omQ) λu2 h3 H3=>?_;refine qV (qZH omQ H3 (H3.rd e_3) h0 hl hc) λu3 h4 H4=>?_;have o1:=H4.one e_2;have o2:=H4.one e_1;have o3:=H4.one .here;unfold xr;refine qM (l:=QG ⟨QM me sp,me,st,r,cs,xk cs a w,[],0,0,b8,0,false,0,0,0⟩ u1 u2 u3 .ak) (by simp only[yV,o1.1,o2.1,o3.1];rfl) ?_;refine qO H4 (by show qn [_,_,_,_,_,_,_,u1,u2,u3,_,_,_,_,_,_,_,_,_,_,_]=true;simp only[qn,List.all_cons,o1.2,o2.2,o3.2];rfl) λb h5 H5=>?_;have H6:=H5.ak (e:=62) (sz:=3);have H7:HS g h5 (aB b ⟨QM me sp,me,st,r,cs,xk cs a w,[],0,0,b8,0,false,0,0,0⟩::R) :=
  aB.I (sv:=u1) (cv:=u2) (tv:=u3) (wv:=.ak) (H6.sub (.cons e_1 (.cons e_3 (.cons e_2 (.cons e_1 (.cons .here (.drop (.drop .refl))))))))
 refine qV (Z1 omQ H7) λ_ h6 H8=>qG ⟨b,rfl,H8⟩
end
end
section
def J1 (a:cO):Prop:=0≤a.word∧a.word<18446744073709551616
theorem Qw {p:JZ} {a:cO} (h:(qu p a).1=true):(qu p a).2.fin≠0:=by
 unfold qu at h ⊢
 split
 ·show(4:Int)≠0;decide
 ·rename_i c;rw[iQ c]at h;simpa using h
theorem NO {p:JZ} {l:cZ} (hp:0≤p.af∧p.af≤4) (h:(ji p l).1=true):(ji p l).2.fin=p.fin∧0≤(ji p l).2.af∧(ji p l).2.af≤4:=by
 unfold ji at h ⊢
 split
 ·exact⟨rfl,hp⟩
 ·rename_i c;rw[iQ c]at h;have:0≤p.af-1:=by simpa using h
  refine⟨rfl,?_⟩;show 0≤p.af-1∧p.af-1≤4;omega
theorem Rb {me sp:Int}:KZ (QM me sp):=λ_=>by show 0≤max 0 (min sp 4)∧max 0 (min sp 4)≤4;omega
theorem Xa {p:JZ} {f e y:Int} (h:f≠0):KZ (zV p f e y):=λhf=>absurd hf h
theorem YG {f:QT} {a:cO} (hp:KZ f.p):KZ (xC f a).p:=by
 unfold xC;cases hs:(qu f.p a).1 with
 |true=>rw[iJ rfl];exact λh=>absurd h (Qw hs)
 |false=>
  rw[iQ aN];have hg:=(J8 hs).2;unfold Jt
  split
  ·exact hp
  ·split
   ·exact Xa od
   ·split
    ·split
     ·rename_i hw;exact λ_=>(NO (hp hg) hw).2
     ·exact Xa od
    ·split
     ·exact Xa od
     ·exact hp
theorem qxC {me sp:Int} {r:List xj} (hr:r.length≤16):Ka (Uh me sp r):=⟨Rb,Int.le_refl _,by show(0:Int)≤1000;decide,hr,by show(0:Int)≤_;omega,λ_ h=>by cases h⟩
theorem Zi {x:QF} (hp:KZ x.p) (h0:0≤x.at_) (h1:x.at_≤x.seen.length) (hr:x.seen.length≤16):Ka (JC x):=by
 unfold JC
 split
 ·exact⟨Xa od,h0,by show x.at_≤1000;omega,hr,h1,λh=>by cases h⟩
 ·exact⟨hp,h0,by omega,hr,h1,λ_ _=>by omega⟩
theorem Yg {x:QF} {a:cO} (O:Ka x):Ka (xU x a):=by
 unfold xU;cases hs:(qu x.p a).1 with
 |true=>rw[iJ rfl];exact⟨λh=>absurd h (Qw hs),O.lo,O.hi,O.len,O.le,λh=>absurd h (Qw hs)⟩
 |false=>
  rw[iQ aN];have hg:=(J8 hs).2;have dn:=O.lo;have iM:=O.hi;have hlen:=O.len
  split
  ·exact Zi (x:={ x with cV:=true,aj:=a.word }) O.p dn O.le hlen
  ·rename_i hl;have hl:x.cV=true:=by simpa using hl
   have dA:=O.Hs hg hl
   split
   ·split
    ·rename_i hw;have:=NO (O.p hg) hw;exact⟨λ_=>this.2,dn,iM,hlen,O.le,λ_ _=>dA⟩
    ·exact⟨Xa od,dn,iM,hlen,O.le,λh=>by cases h⟩
   ·split
    ·exact⟨Xa od,dn,iM,hlen,O.le,λh=>by cases h⟩
    ·exact Zi (x:={ x with at_:=x.at_+1 }) O.p (by show 0≤x.at_+1;omega) (by show x.at_+1≤(x.seen.length:Int);omega) hlen
section
variable {c:zq}
theorem ML (r:c.s.Pairwise (· < ·)) (h:zw 1 c.p.af 6 c.at_ c.now c.bU c.seen.length c.cells.length c.s.length c.aR.length) (hs:c.state=6) (hp:0≤c.p.af∧c.p.af≤4) (ha:c.at_≤c.s.length):zt (y3 c):=by
 unfold y3;unfold zw at h
 split
 ·refine⟨r,?_⟩;show zw 2 c.p.af c.state c.at_ c.now c.bU c.seen.length c.cells.length c.s.length c.aR.length;unfold zw;omega
 ·refine⟨r,?_⟩;unfold zw;omega
theorem UB (r:c.s.Pairwise (· < ·)) (h:zw 1 c.p.af 5 c.at_ c.now c.bU c.seen.length c.cells.length c.s.length c.aR.length) (hs:c.state=5) (hp:0≤c.p.af∧c.p.af≤4) (ha:c.at_≤c.cells.length):zt (yh c):=by
 unfold yh;unfold zw at h
 split
 ·refine ML (c:={ c with at_:=0,state:=6 }) r ?_ rfl hp (by show(0:Int)≤_;omega);show zw 1 c.p.af 6 0 c.now c.bU c.seen.length c.cells.length c.s.length c.aR.length;unfold zw;omega
 ·refine⟨r,?_⟩;unfold zw;omega
theorem YJ (r:c.s.Pairwise (· < ·)) (h:zw 1 c.p.af 4 c.at_ c.now c.bU c.seen.length c.cells.length c.s.length c.aR.length) (hp:0≤c.p.af∧c.p.af≤4):zt (wO c):=by unfold wO;unfold zw at h;refine UB (c:={ c with writing:=true,at_:=0,state:=5 }) r ?_ rfl hp (by show(0:Int)≤_;omega);show zw 1 c.p.af 5 0 c.now c.bU c.seen.length c.cells.length c.s.length c.aR.length;unfold zw;omega
theorem Uw (r:c.s.Pairwise (· < ·)) (h:zw 1 c.p.af 7 c.at_ c.now c.bU c.seen.length c.cells.length c.s.length c.aR.length) (hs:c.state=7) (ha:c.at_≤c.aR.length):zt (gQ c):=by
 unfold gQ;unfold zw at h
 split
 ·refine⟨r,?_⟩;show zw c.bU c.p.af c.state c.at_ c.now c.bU c.seen.length c.cells.length c.s.length c.aR.length;unfold zw;omega
 ·refine⟨r,?_⟩;unfold zw;omega
theorem XM {f e y:Int} (r:c.s.Pairwise (· < ·)) (h:zw 1 c.p.af c.state c.at_ c.now c.bU c.seen.length c.cells.length c.s.length c.aR.length) (hf:f≠0):zt (kz c f e y):=by unfold kz;unfold zw at h;refine Uw (c:={ c with bU:=f,nV:=e,Aq:=y,at_:=0,state:=7 }) r ?_ rfl (by show(0:Int)≤_;omega);show zw 1 c.p.af 7 0 c.now f c.seen.length c.cells.length c.s.length c.aR.length;unfold zw;omega
theorem zt.dead (O:zt c):zw 1 c.p.af c.state c.at_ c.now c.bU c.seen.length c.cells.length c.s.length c.aR.length:=by have h:=O.ar;unfold zw at h ⊢;omega
theorem VP {l:cZ} (O:zt c) (hg:c.p.fin=0) (hs:c.state≤6):zt (Qq c l):=by
 unfold Qq;have h:=O.ar
 split
 ·rename_i hw;have:=NO (O.p hg hs) hw;refine⟨O.di,?_⟩;show zw (ji c.p l).2.fin (ji c.p l).2.af c.state c.at_ c.now c.bU c.seen.length c.cells.length c.s.length c.aR.length;unfold zw at h ⊢;omega
 ·refine XM (c:={ c with p:=(ji c.p l).2 }) O.di ?_ od;show zw 1 (ji c.p l).2.af c.state c.at_ c.now c.bU c.seen.length c.cells.length c.s.length c.aR.length;unfold zw at h ⊢;omega
theorem ON (r:c.s.Pairwise (· < ·)):∀(m:Nat) (a:Int),zw 1 c.p.af 4 a c.now c.bU c.seen.length c.cells.length c.s.length c.aR.length→(0≤c.p.af∧c.p.af≤4)→zt (vT { c with state:=4,at_:=a } m):=by
 intro m
 induction m with
 |zero=>intro a h hp;exact YJ (c:={ c with state:=4,at_:=a }) r h hp
 |succ m ih=>
  intro a h hp;unfold vT;dsimp only
  split
  ·rename_i au
   split
   ·refine⟨r,?_⟩;show zw c.p.fin c.p.af 4 a c.now c.bU c.seen.length c.cells.length c.s.length c.aR.length;unfold zw at h ⊢;omega
   ·split
    ·exact XM (c:={ c with state:=4,at_:=a }) r h od
    ·refine ih (a+1) ?_ hp;unfold zw at h ⊢;omega
  ·exact YJ (c:={ c with state:=4,at_:=a }) r h hp
theorem Uj (r:c.s.Pairwise (· < ·)) (h:zw 1 c.p.af 4 c.at_ c.now c.bU c.seen.length c.cells.length c.s.length c.aR.length) (hp:0≤c.p.af∧c.p.af≤4):zt (Qc c):=ON r _ c.at_ h hp
set_option maxHeartbeats 4000000 in
theorem Gn {a:cO} (O:zt c) (ha:J1 a):zt (zj c a):=by
 have h:=O.ar;have hd:=O.dead;unfold zj;cases hs:(qu c.p a).1 with
 |true=>rw[iJ rfl];have hf:=Qw hs;refine⟨O.di,?_⟩;show zw (qu c.p a).2.fin (qu c.p a).2.af c.state c.at_ c.now c.bU c.seen.length c.cells.length c.s.length c.aR.length;unfold zw at h ⊢;omega
 |false=>
  rw[iQ aN];have hg:=(J8 hs).2;have ha:=ha.1;rw[hg]at h
  split
  ·rename_i cC;unfold kx
   split
   ·exact VP O hg omQ
   ·split
    ·refine⟨O.di,?_⟩;show zw c.p.fin c.p.af 1 c.at_ c.now c.bU c.seen.length c.cells.length c.s.length c.aR.length;rw[hg];unfold zw at h ⊢;omega
    ·split
     ·unfold Qk;dsimp only;have hl:(c.aR++[c.lk]).length=c.aR.length+1:=by simp
      split
      ·refine⟨O.di,?_⟩;show zw c.p.fin c.p.af 2 c.at_ c.now c.bU c.seen.length c.cells.length c.s.length (c.aR++[c.lk]).length;rw[hg];unfold zw at h ⊢;omega
      ·refine⟨O.di,?_⟩;show zw c.p.fin c.p.af 0 c.at_ c.now c.bU c.seen.length c.cells.length c.s.length (c.aR++[c.lk]).length;rw[hg];unfold zw at h ⊢;omega
     ·refine⟨O.di,?_⟩;show zw c.p.fin c.p.af 0 c.at_ c.now c.bU c.seen.length c.cells.length c.s.length c.aR.length;rw[hg];unfold zw at h ⊢;omega
  split
  ·unfold gD
   split
   ·exact XM O.di hd od
   ·split
    ·refine⟨O.di,?_⟩;show zw c.p.fin c.p.af 3 c.at_ a.word c.bU c.seen.length c.cells.length c.s.length c.aR.length;rw[hg];unfold zw at h ⊢;omega
    ·split
     ·refine⟨O.di,?_⟩;show zw c.p.fin c.p.af 2 c.at_ c.now c.bU c.seen.length c.cells.length c.s.length c.aR.length;rw[hg];unfold zw at h ⊢;omega
     ·have h4:zw 1 c.p.af 4 c.at_ c.now c.bU c.seen.length c.cells.length c.s.length c.aR.length:=by unfold zw at h ⊢;omega
      split
      ·exact YJ O.di h4 (O.p hg omQ)
      ·exact Uj O.di h4 (O.p hg omQ)
  split
  ·rename_i h4;unfold wZ
   split
   ·exact VP O hg omQ
   ·split
    ·exact XM O.di hd od
    ·refine Uj (c:={ c with at_:=c.at_+1 }) O.di ?_ (O.p hg omQ);show zw 1 c.p.af 4 (c.at_+1) c.now c.bU c.seen.length c.cells.length c.s.length c.aR.length;unfold zw at h ⊢;omega
  split
  ·rename_i h5;have:=O.P1 hg h5;refine UB (c:={ c with at_:=c.at_+1 }) O.di ?_ h5 (O.p hg omQ) (by show c.at_+1≤(c.cells.length:Int);omega);show zw 1 c.p.af 5 (c.at_+1) c.now c.bU c.seen.length c.cells.length c.s.length c.aR.length;unfold zw at h ⊢;omega
  split
  ·rename_i h6;have:=O.Ar hg h6;refine ML (c:={ c with at_:=c.at_+1 }) O.di ?_ h6 (O.p hg omQ) (by show c.at_+1≤(c.s.length:Int);omega);show zw 1 c.p.af 6 (c.at_+1) c.now c.bU c.seen.length c.cells.length c.s.length c.aR.length;unfold zw at h ⊢;omega
  ·have cC:=O.st;have h7:c.state=7:=by omega
   have:=O.Ra hg h7;refine Uw (c:={ c with at_:=c.at_+1 }) O.di ?_ h7 (by show c.at_+1≤(c.aR.length:Int);omega);show zw 1 c.p.af 7 (c.at_+1) c.now c.bU c.seen.length c.cells.length c.s.length c.aR.length;unfold zw at h ⊢;omega
theorem qwC {me sp st a w:Int} {r:List xj} {cs:List Cl} (hr:r.length≤16) (h0:0<cs.length) (hl:cs.length≤1000) (hc:∀c∈cs,0≤c.1):zt (Js me sp st r cs a w):=by
 have h1:(xk cs a w).length≤16:=by unfold xk;exact Nat.le_trans (List.length_filter_le ..) aN
 have h2:0<(xk cs a w).length:=by obtain⟨c,BJ⟩:=List.exists_mem_of_length_pos h0;exact List.length_pos_of_mem ((XJ (n:=a) (w:=w) hc).2 (List.mem_map.2 ⟨c,BJ,rfl⟩))
 unfold Js Qk;rw[iQ (by show¬(0:Nat)=(xk cs a w).length;omega)];refine⟨Q8,?_⟩;show zw 0 (max 0 (min sp 4)) 0 0 0 0 r.length cs.length (xk cs a w).length 0;unfold zw;omega
end
end
section
theorem Rc {l:List qT} (F:Fit l) (Q:Quiet l):∀(n:Nat) {s:IM} {V:VM},GI l s V→bD V.lv+n<9000→(jM l (qP l) n s V).kind=1→bD (jM l (qP l) n s V).v.lv+(jM l (qP l) n s V).left≤bD V.lv+n:=by
 intro n
 induction n with
 |zero=>
  intro s V G hf;rw[gu]
  split<;>(intro h;cases h)
 |succ n ih=>
  intro s V G hf;rw[vR]
  split
  ·intro h;cases h
  ·rename_i h0;obtain⟨i,hi,pY⟩:=G.pc;have au:i<l.length:=by omega
   rw[hi];have S:=XP F G hi au omQ (Q.at au).2 (Q.at au).1;generalize bK (qP l) s V (qR l i)=D at*
   split
   ·rename_i h1
    split
    ·intro h;cases h
    ·rename_i h2;have pz:=S.fr;intro h;have:=ih (S.next h1 (by simpa using h2)) omQ h;omega
   ·split
    ·rename_i cD;obtain⟨n1,n2,_⟩:=S.aK cD;intro _;show bD D.v.lv+(n+1)≤_;rw[n2];omega
    ·intro h;cases h
theorem Re {l:List qT} {mt:List Int}:∀(n:Nat) {s:IM} {V:VM},(jM l mt n s V).kind=1→(jM l mt n s V).err=0:=by
 intro n
 induction n with
 |zero=>intro s V;rw[gu];split<;>(intro h;cases h)
 |succ n ih=>
  intro s V;rw[vR];generalize bK mt s V (qR l s.pc)=D
  split
  ·intro h;cases h
  ·split
   ·split
    ·intro h;cases h
    ·exact ih
   ·split
    ·intro _;rfl
    ·intro h;cases h
theorem qW1 {V:VM} {p x:Int} (h1:1≤p) (h2:p<V.sz) (h3:zW p V.K=none):zu V p x=(0,{ V with K:=V.K++[(p,x)] }):=by unfold zu;rw[iJ ⟨h1,h2⟩,h3]
theorem qxH {l:List qT} {s:IM} {V:VM} {p x:Int} (G:GI l s V) (hx:0≤x∧x<18446744073709551616):GI l s (zu V p x).2:=by
 have hl:(zu V p x).2.lv=V.lv:=by
  unfold zu
  repeat' split
  all_goals rfl
 refine⟨G.gb,G.pc,G.lA,G.told,G.Cn,by rw[hl];exact G.lv,⟨VZ G.aC.ok,?_⟩⟩;unfold zu
 split
 ·split
  ·exact G.aC.wd
  ·refine⟨λc hc=>?_,G.aC.wd.l⟩;rcases List.mem_append.1 hc with hc |hc
   ·exact G.aC.wd.k c hc
   ·rw[List.mem_singleton]at hc;subst hc;exact hx
 ·exact G.aC.wd
theorem qg5 {V:VM} (O:dp V):V.K.length≤V.sz-1:=by
 have dn:=O.lo;have hu:(V.K.map (·.1)).Nodup:=O.un
 have h:=YS (V.sz-1) ((V.K.map (·.1)).map λz:Int=>z-1) (by
  rw[List.Nodup,List.pairwise_map]
  exact hu.imp λ{a b} Fx=>by omega) (by
  intro a ha;obtain⟨z,hz,rfl⟩:=List.mem_map.1 ha;obtain⟨c,hc,rfl⟩:=List.mem_map.1 hz;have h1:=O.ins c hc
  omega)
 simpa using h
theorem Rf {l:List qT} {mt:List Int}:∀(n:Nat) {s:IM} {V:VM},(jM l mt n s V).left≤n:=by
 intro n
 induction n with
 |zero=>intro s V;rw[gu];split<;>exact Nat.le_refl _
 |succ n ih=>
  intro s V;rw[vR];generalize bK mt s V (qR l s.pc)=D
  split
  ·exact Nat.le_refl _
  ·split
   ·split
    ·exact Nat.le_succ n
    ·exact Nat.le_trans ih (Nat.le_succ n)
   ·split<;>exact Nat.le_refl _
end
section
structure yY (S:zR):Prop where
  words:32≤S.words∧S.words≤256
  al:1≤S.al∧S.al≤16
  wide:1≤S.wide∧S.wide≤16
  aa:1≤S.aa∧S.aa≤4
  start:0≤S.start∧S.start≤4611686018427387903
  af:0≤S.af∧S.af≤4
  writes:0≤S.writes∧S.writes≤96
  fuel:0≤S.fuel∧S.fuel≤400
theorem JJ {n lo hi:Int} (h:lo≤hi):lo≤JE n lo hi∧JE n lo hi≤hi:=by unfold JE;omega
theorem kN {n lo hi:Int} (h:lo≤n∧n≤hi):JE n lo hi=n:=by unfold JE;omega
theorem yq {s:zR} (h:0≤s.start):yY (jK s) :=
 ⟨JJ omQ,JJ omQ,JJ omQ,JJ omQ,by show 0≤min s.start 4611686018427387903∧min s.start 4611686018427387903≤4611686018427387903;omega,JJ omQ,JJ omQ,JJ omQ⟩
theorem kL {S:zR} (O:yY S):jK S=S:=by obtain⟨a,b,c,d,e,f,g,i⟩:=O;obtain⟨w,s,wi,t,st,sp,wr,fu⟩:=S;unfold jK;dsimp only at*;rw[kN a,kN b,kN c,kN d,kN f,kN g,kN i,show min st 4611686018427387903=st by omega]
theorem GL {M:VM} {b:Int} (h:(zY M b).1=11):JD M (zY M b).2:=by
 have ha:=qkt M b;unfold zY at h ⊢
 split
 ·rename_i h1;rw[iJ h1]at h;have e:=ha.2 h1
  split
  ·rename_i h2;rw[iJ h2]at h;cases h
  ·rename_i h2;rw[iQ h2]at h
   split
   ·rename_i h3;rw[iJ h3]at h;exact(Yt h).elim
   ·rename_i h3;rw[iQ h3]at h;rw[e]at h ⊢;exact kB h
 ·rename_i h1;rw[iQ h1]at h;exact Zb h
theorem GG {M:VM} {b:Int} (O:dp M):Jy M (zY M b).2:=by
 have ha:=Od M b;unfold zY
 repeat' split
 ·exact ha
 ·exact(ha.trans (xK _ _)).trans (vU (xN (XD O)))
 ·exact ha.trans (xK _ _)
 ·exact ha
theorem U7:∀(bs:List Int) (k:Nat) {V:VM},jg V→jg (jE V bs k).2∧Jy V (jE V bs k).2∧bD (jE V bs k).2.lv=bD V.lv∧(jE V bs k).1.1≤k+bs.length∧
  ((jE V bs k).1.2=11→1≤(jE V bs k).2.aK∧(jE V bs k).2.aK<V.sz∧zW (jE V bs k).2.aK V.K=none):=by
 intro bs
 induction bs with
 |nil=>intro k V G;exact⟨G,.refl V,rfl,Nat.le_refl _,λh=>by cases h⟩
 |cons b r ih=>
  intro k V G;have hg:=G.lg (b:=b);have hk:=GG (b:=b) G.ok;by_cases h0:(zY V b).1=0
  ·rw[show jE V (b::r) k=jE (zY V b).2 r (k+1)from iJ h0];obtain⟨a1,a2,a3,a4,a5⟩:=ih (k+1) hg.1;refine⟨a1,hk.trans a2,a3.trans hg.2,by rw[List.length_cons];omega,λh=>?_⟩;have:=a5 h;rw[hk.sz,hk.K]at this;exact this
  ·rw[show jE V (b::r) k=((k,(zY V b).1),(zY V b).2)from iQ h0];exact⟨hg.1,hk,hg.2,by dsimp only;omega,λh=>(GL h).2⟩
def bu (live:Prop) (V:VM):JX→Prop
 | .prog q=>Fit q.l∧Quiet q.l∧GB q.s∧(live→GI q.l q.s V∧q.fin=0∧q.err=0∧bD V.lv+q.left<9000)∧q.left≤400
 | .ao bs k=>k≤bs.length∧bs.length≤100000
theorem bu.dead {live l6:Prop} {V V':VM} {j:JX} (O:bu live V j) (h:¬l6):bu l6 V' j:=by
 cases j with
 |prog q=>exact⟨O.1,O.2.1,O.2.2.1,λh'=>absurd h' h,O.2.2.2.2⟩
 |ao bs k=>exact O
theorem bu.same {live l6:Prop} {V:VM} {j:JX} (O:bu live V j) (h:l6→live):bu l6 V j:=by
 cases j with
 |prog q=>exact⟨O.1,O.2.1,O.2.2.1,λh'=>O.2.2.2.1 (h h'),O.2.2.2.2⟩
 |ao bs k=>exact O
structure zE (x:q8):Prop where
  set:yY x.set
  aC:jg x.v
  sz:(x.v.sz:Int)=x.set.words
  fr:bD x.v.lv<9000
  r:x.r.length≤16
  ax:bu (x.state≤4) x.v x.ax
  st:0≤x.state∧x.state≤8
  f:x.state=3→KZ x.f.p∧0≤x.f.word∧x.f.word<18446744073709551616
  aK:3≤x.state→x.state≤4→1≤x.v.aK∧x.v.aK<x.v.sz∧zW x.v.aK x.v.K=none
  e:4≤x.state→x.state≤5→Ka x.e
  c:∀c,x.c=some c→zt c
  c0:x.state≤5→x.c=none
  c6:x.state=6→x.c≠none
structure Ct (x:q8) (k:Int) (y:q8):Prop where
  aC:jg y.v
  kept:y.v.sz=x.v.sz∧y.v.K=x.v.K∧y.v.most=x.v.most
  fr:bD y.v.lv<9000
  ax:bu (k=1) y.v y.ax
  aK:k=1→1≤y.v.aK∧y.v.aK<x.v.sz∧zW y.v.aK x.v.K=none
  same:y.me=x.me∧y.set=x.set∧y.r=x.r∧y.aj=x.aj∧y.c=x.c
theorem KO {x:q8} (hg:jg x.v) (hf:bD x.v.lv<9000) (hj:bu True x.v x.ax):Ct x (yB x).1.1 (yB x).2:=by
 unfold yB;cases hx:x.ax with
 |prog q=>
  rw[hx]at hj;obtain⟨F,Q,gb,h,hl⟩:=hj;obtain⟨G,h0,h1,h2⟩:=h trivial;obtain⟨RB,rfr,_,rn,_⟩:=Ho F Q q.left G h2;dsimp only;refine⟨RB.aC,⟨RB.sz,RB.K,RB.most⟩,by dsimp only;omega,⟨F,Q,RB.gb,λhk=>?_,?_⟩,λhk=>?_,⟨rfl,rfl,rfl,rfl,rfl⟩⟩
  ·have hr:=Rc F Q q.left G h2 hk;exact⟨(rn hk).1,iJ hk,Re _ hk,by dsimp only;omega⟩
  ·have hr:=Rf (l:=q.l) (mt:=qP q.l) q.left (s:=q.s) (V:=x.v);dsimp only;omega
  ·exact(rn hk).2
 |ao bs k=>
  rw[hx]at hj;obtain⟨a1,a2,a3,a4,a5⟩:=U7 (bs.drop k) k hg;dsimp only;refine⟨a1,⟨a2.sz,a2.K,a2.most⟩,by dsimp only;omega,⟨by rw[List.length_drop]at a4;have:=hj.1;omega,hj.2⟩,λh=>?_,⟨rfl,rfl,rfl,rfl,rfl⟩⟩
  ·refine a5 ?_
   split at h
   ·assumption
   ·split at h<;>cases h
structure w8 (x:q8):Prop where
  set:yY x.set
  aC:jg x.v
  sz:(x.v.sz:Int)=x.set.words
  fr:bD x.v.lv<9000
  r:x.r.length≤16
  ax:bu False x.v x.ax
  c:∀c,x.c=some c→zt c
theorem zE.b {x:q8} (O:zE x):w8 x:=⟨O.set,O.aC,O.sz,O.fr,O.r,O.ax.dead not_false,O.c⟩
theorem w8.out {x:q8} (B:w8 x) {f e y:Int}:zE (xy x f e y) :=
 ⟨B.set,B.aC,B.sz,B.fr,B.r,B.ax.dead (by show¬(7:Int)≤4;decide),by show(0:Int)≤7∧(7:Int)≤8;decide,λh=>(by cases h),λ_ h=>(by cases h),λ_ h=>(by cases h),B.c,λh=>(by cases h),λh=>by cases h⟩
theorem w8.gone {x:q8} (B:w8 x) {f e y:Int}:zE { xy x f e y with state:=8 } :=
 ⟨B.set,B.aC,B.sz,B.fr,B.r,B.ax.dead (by show¬(8:Int)≤4;decide),by show(0:Int)≤8∧(8:Int)≤8;decide,λh=>(by cases h),λ_ h=>(by cases h),λ_ h=>(by cases h),B.c,λh=>(by cases h),λh=>by cases h⟩
theorem w8.ask {x:q8} (B:w8 x) (hj:bu True x.v x.ax) (hn:1≤x.v.aK∧x.v.aK<x.v.sz∧zW x.v.aK x.v.K=none) (hc:x.c=none):zE (JQ x x.v.aK) :=
 ⟨B.set,B.aC,B.sz,B.fr,B.r,hj.same λ_=>trivial,by show(0:Int)≤3∧(3:Int)≤8;decide,λ_=>⟨Rb,by show(0:Int)≤0;decide,by show(0:Int)<_;decide⟩,λ_ _=>hn,λh=>absurd h (by show¬(4:Int)≤3;decide),B.c,λ_=>hc,λh=>by cases h⟩
theorem w8.later {x:q8} (B:w8 x) (hc:x.c=none) {s:Int} (hs:s=4∨s=5) (hj:s=4→bu True x.v x.ax∧1≤x.v.aK∧x.v.aK<x.v.sz∧zW x.v.aK x.v.K=none):zE (yA x s):=by
 refine⟨B.set,B.aC,B.sz,B.fr,B.r,?_,by show 0≤s∧s≤8;omega,λh=>?_,λ_ h=>(hj ?_).2,λ_ _=>qxC B.r,B.c,λ_=>hc,λh=>?_⟩
 ·show bu (s≤4) x.v x.ax;rcases hs with rfl |rfl
  ·exact(hj rfl).1.same λ_=>trivial
  ·exact B.ax.dead od
 ·have h:s=3:=h;omega
 ·have h:s≤4:=h;omega
 ·have h:s=6:=h;omega
theorem Ym {V:VM} (O:dp V):(jA V.lv).length≤96∧∀c∈jA V.lv,1≤c.1∧c.1<256:=by have h1:=UD V.lv [];have h2:=O.hP.held;have h3:=O.hP.le;refine⟨by simp at h1;unfold jA;omega,?_⟩;exact VC V.lv [] (λc hc=>by cases hc) O.hP.ins
theorem w8.Cu {x:q8} (B:w8 x) (hj:bu True x.v x.ax) (hc:x.c=none):zE (xT x):=by
 have D:=KO B.aC B.fr hj;unfold xT;generalize(yB x).1.1=k at*;generalize(yB x).1.2=e at*;generalize(yB x).2=y at*;obtain⟨e1,e2,e3,e4,e5⟩:=D.same;have uz:y.c=none:=by rw[e5,hc]
 have B':w8 y:=⟨by rw[e2];exact B.set,D.aC,by rw[D.kept.1,e2];exact B.sz,D.fr,by rw[e3];exact B.r,D.ax.same λh=>h.elim,λc h=>by rw[uz]at h;cases h⟩;unfold vD
 split
 ·rename_i h1;exact B'.ask (D.ax.same λ_=>h1) (by have:=D.aK h1;rw[D.kept.1,D.kept.2.1];exact this) uz
 ·split
  ·exact w8.later (x:={ y with cj:=true }) ⟨B'.set,B'.aC,B'.sz,B'.fr,B'.r,B'.ax,B'.c⟩ uz (.inr rfl) λh=>by cases h
  ·split
   ·exact B'.out
   ·split
    ·exact B'.out
    ·rename_i hm;have tP:=Ym D.aC.ok;refine⟨B'.set,B'.aC,B'.sz,B'.fr,B'.r,B'.ax.dead (by show¬(6:Int)≤4;decide),by show(0:Int)≤6∧(6:Int)≤8;decide,λh=>(by cases h),λ_ h=>(by cases h),λ_ h=>(by cases h),λc h=>?_,λh=>(by cases h),λ_ h=>by cases h⟩;cases h;exact qwC B'.r (List.length_pos_iff.2 hm) omQ λc hc=>by have:=tP.2 c hc;omega
theorem Y3 {r:List xj} {x:xj} (h:r.length≤16):(wU r x).2.length≤16:=by
 unfold wU
 split
 ·exact h
 ·split
  ·split<;>exact h
  ·split
   ·exact h
   ·rw[List.length_append,List.length_singleton];omega
theorem wB {V:VM} {p x:Int}:(zu V p x).2.lv=V.lv∧(zu V p x).2.sz=V.sz:=by
 unfold zu
 repeat' split
 all_goals exact⟨rfl,rfl⟩
theorem Xq {V:VM} {p x:Int} (G:jg V) (hx:0≤x∧x<18446744073709551616):jg (zu V p x).2:=by
 refine⟨VZ G.ok,?_⟩;unfold zu
 split
 ·split
  ·exact G.wd
  ·refine⟨λc hc=>?_,G.wd.l⟩;rcases List.mem_append.1 hc with hc |hc
   ·exact G.wd.k c hc
   ·rw[List.mem_singleton]at hc;subst hc;exact hx
 ·exact G.wd
theorem bu.mL {V:VM} {j:JX} {p x:Int} (O:bu True V j) (hx:0≤x∧x<18446744073709551616):bu True (zu V p x).2 j:=by
 cases j with
 |prog q=>exact⟨O.1,O.2.1,O.2.2.1,λ_=>⟨qxH (O.2.2.2.1 trivial).1 hx,(O.2.2.2.1 trivial).2.1,(O.2.2.2.1 trivial).2.2.1,by rw[wB.1];exact(O.2.2.2.1 trivial).2.2.2⟩,O.2.2.2.2⟩
 |ao bs k=>exact O
theorem GP {f:QT} (h:0≤f.word∧f.word<18446744073709551616):0≤x9 f∧x9 f<18446744073709551616:=by
 unfold x9
 split
 ·omega
 ·exact h
theorem Gi {f:QT} {a:cO} (h:0≤f.word∧f.word<18446744073709551616) (ha:J1 a):0≤(xC f a).word∧(xC f a).word<18446744073709551616:=by
 unfold xC Jt
 repeat' split
 all_goals first |exact h |exact ha
theorem w8.rY {x:q8} (B:w8 x) (hj:bu True x.v x.ax) (hn:1≤x.v.aK∧x.v.aK<x.v.sz∧zW x.v.aK x.v.K=none) (hc:x.c=none) (hw:0≤x.f.word∧x.f.word<18446744073709551616):zE (x6 x):=by
 unfold x6
 split
 ·exact B.later hc (.inl rfl) λ_=>⟨hj,hn⟩
 ·have hx:=GP hw
  split
  ·refine w8.Cu ?_ (hj.mL hx) hc;exact⟨B.set,Xq B.aC hx,by show((zu x.v x.v.aK (x9 x.f)).2.sz:Int)=_;rw[wB.2];exact B.sz,by show bD (zu x.v x.v.aK (x9 x.f)).2.lv<9000;rw[wB.1];exact B.fr,Y3 B.r,(hj.mL hx).same λh=>h.elim,B.c⟩
  ·split<;>exact B.out
theorem VY {x:q8} (O:zE x):zE (zo x):=by
 unfold zo
 split
 ·split
  ·exact⟨O.set,O.aC,O.sz,O.fr,O.r,O.ax,O.st,O.f,O.aK,O.e,O.c,O.c0,O.c6⟩
  ·exact O
 ·exact O
theorem OA {x:q8} (O:zE x) (h3:3≤x.state) (h6:x.state≤6):zE (xm x):=by
 unfold xm
 split
 ·rename_i hs;exact O.b.rY (O.ax.same λ_=>by omega) (O.aK omQ omQ) (O.c0 omQ) (O.f hs).2
 ·split
  ·rename_i hs;exact w8.ask (x:={ x with aj:=gF x.e }) ⟨O.set,O.aC,O.sz,O.fr,O.r,O.ax.dead not_false,O.c⟩ (O.ax.same λ_=>by omega) (O.aK omQ omQ) (O.c0 omQ)
  ·split
   ·exact w8.out (x:={ x with aj:=gF x.e }) ⟨O.set,O.aC,O.sz,O.fr,O.r,O.ax.dead not_false,O.c⟩
   ·split
    ·exact O.b.out
    ·rename_i hc;exact absurd hc (O.c6 omQ)
def ye (x:q8):q8:=if(xV x).1=0 then x else if(xV x).1=5 then xy x 5 0 (xV x).2 else xm x
theorem MT {x:q8} (O:zE x) (h3:3≤x.state) (h6:x.state≤6):zE (ye x):=by
 unfold ye
 split
 ·exact O
 ·split
  ·exact O.b.out
  ·exact OA O h3 h6
theorem YF {x:q8} (O:zE x) (h3:3≤x.state) (h6:x.state≤6):zE (xH x):=VY (MT O h3 h6)
theorem XO {x:q8} {a:cO} (O:zE x) (ha:J1 a):zE (jS x a):=by
 have cC:=O.st;unfold jS
 split
 ·exact O
 ·split
  ·exact O.b.gone
  ·split
   ·exact⟨O.set,O.aC,O.sz,O.fr,O.r,O.ax.same λ_=>by omega,by show(0:Int)≤1∧(1:Int)≤8;decide,λh=>(by cases h),λh=>absurd h (by show¬(3:Int)≤1;decide),λh=>absurd h (by show¬(4:Int)≤1;decide),O.c,λ_=>O.c0 omQ,λh=>by cases h⟩
   ·split
    ·exact⟨O.set,O.aC,O.sz,O.fr,O.r,O.ax.same λ_=>by omega,by show(0:Int)≤2∧(2:Int)≤8;decide,λh=>(by cases h),λh=>absurd h (by show¬(3:Int)≤2;decide),λh=>absurd h (by show¬(4:Int)≤2;decide),O.c,λ_=>O.c0 omQ,λh=>by cases h⟩
    ·split
     ·exact O.b.Cu (O.ax.same λ_=>by omega) (O.c0 omQ)
     ·split
      ·exact⟨O.set,O.aC,O.sz,O.fr,O.r,O.ax.dead (by show¬(8:Int)≤4;decide),by show(0:Int)≤8∧(8:Int)≤8;decide,λh=>(by cases h),λ_ h=>(by cases h),λ_ h=>(by cases h),O.c,λh=>(by cases h),λh=>by cases h⟩
      ·split
       ·rename_i hs;have hf:=O.f hs;refine YF (x:={ x with f:=xC x.f a }) ?_ (by show 3≤x.state;omega) (by show x.state≤6;omega);exact⟨O.set,O.aC,O.sz,O.fr,O.r,O.ax,O.st,λ_=>⟨YG hf.1,Gi hf.2 ha⟩,O.aK,O.e,O.c,O.c0,O.c6⟩
       ·split
        ·rename_i hs;refine YF (x:={ x with c:=x.c.map λc=>zj c a }) ?_ (by show 3≤x.state;omega) (by show x.state≤6;omega);refine⟨O.set,O.aC,O.sz,O.fr,O.r,O.ax,O.st,O.f,O.aK,O.e,λc h=>?_,λh=>absurd h (by show¬x.state≤5;omega),λh hn=>O.c6 h ?_⟩
         ·obtain⟨c',h1,rfl⟩:=Option.map_eq_some_iff.1 h;exact Gn (O.c c' h1) ha
         ·exact Option.map_eq_none_iff.1 hn
        ·refine YF (x:={ x with e:=xU x.e a }) ?_ (by show 3≤x.state;omega) (by show x.state≤6;omega);exact⟨O.set,O.aC,O.sz,O.fr,O.r,O.ax,O.st,O.f,O.aK,λh1 h2=>Yg (O.e h1 h2),O.c,O.c0,O.c6⟩
theorem Gb (w m:Int):jg (QN w m):=⟨qxL w m,λc hc=>(by cases hc),λx hx c hc=>by
 rcases List.mem_cons.1 hx with rfl |hx
 ·cases hc
 ·cases hx⟩
theorem Nd {me:Int} {S:zR} {j:JX} (O:yY S) (hj:bu True (QN S.words S.writes) j):zE (GN me S j):=by have:=O.words;refine⟨O,Gb _ _,?_,by show(0:Nat)<9000;decide,Nat.zero_le _,hj.same λ_=>trivial,by show(0:Int)≤0∧(0:Int)≤8;decide,λh=>(by cases h),λh=>absurd h (by show¬(3:Int)≤0;decide),λh=>absurd h (by show¬(4:Int)≤0;decide),λc h=>(by cases h),λ_=>rfl,λh=>by cases h⟩;show((dt S.words:Nat):Int)=S.words;unfold dt;omega
theorem UP {me:Int} {S:zR} {l:List qT} (hs:0≤S.start) (hc:(zf l).2=0) (Q:Quiet l):zE (y5 me S l):=by
 have O:=yq hs;refine Nd O ?_;have G:=Gb (jK S).words (jK S).writes;have hf:zc (jK S).fuel≤400:=by unfold zc;omega
 exact⟨Jn hc,Q,(Jv (l:=l) rfl G).gb,λ_=>⟨Jv rfl G,rfl,rfl,by show(0:Nat)+zc (jK S).fuel<9000;omega⟩,hf⟩
theorem Zv {me:Int} {S:zR} {bs:List Int} (hs:0≤S.start) (hl:bs.length≤100000):zE (gZ me S bs):=Nd (yq hs) ⟨Nat.zero_le _,hl⟩
end
section
structure kY where
  uA:Int
  ax:Int
  Ht:Int
  ao:Bool
  kind:Int
  err:Int
  bV:Int
  aj:Int
  born:Int
  ended:Int
  reads:List Cl
  cells:List Cl
  eO:List Int
  hX:List UInt8
structure GS where
  kind:Int
  err:Int
  hX:List UInt8
  aj:Int
abbrev YN:Type:=Int×Int
structure qr where
  me:Int
  set:zR
  jobs:List (List qT)
  ax:Int
  state:Int
  ao:Bool
  ag:List YN
  ah:Int
  aF:Int
  now:Option q8
  born:Int
  cP:Bool
  aw:List kY
  results:List GS
  ad:List YN
  ab:List Int
  dB:Int
  since:Int
  bj:Bool
  bA:Int
def xF (x:q8):Int:=if x.state≠8 then 0 else x.err
def ku (x:q8):Int:=if x.state≠8 then-1 else x.dB
def ym (x:q8):Bool:=decide (x.state≠8)&&x.cj
def zB (t:qr):qr :=
 if t.ax=(t.jobs.length:Int)then{ t with born:=0,cP:=false,state:=6,now:=none }
 else{ t with born:=0,cP:=false,state:=1,now:=some (if t.ao=true then gZ t.me t.set (t.ag.map (·.1))else y5 t.me t.set ((t.jobs[t.ax.toNat]?).getD [])) }
def jr (t:qr):qr:=zB { t with ax:=t.ax+1,ao:=false,ag:=[],ah:=0,aF:=0 }
def kF (me:Int) (s:zR) (jobs:List (List qT)):qr :=
 jr ⟨max 0 (min me ((jK s).aa-1)),jK s,jobs.take 6,-1,0,false,[],0,0,none,0,false,[],[],[],[],0,0,false,0⟩
def xD (t:qr):Option dz:=if t.state=1 then t.now.bind xZ else if t.state=2 then some (bg 8 t.dB 0)else if t.state=5 then some (bg 8 t.ab.length 0)else none
def jH (t:qr) (x:q8) (pick:Int):kY :=
 ⟨t.me,t.ax,t.ah,t.ao,if zC x=true then 2 else jT x,xF x,x.bV,x.aj,t.born,pick,x.v.K,Qb x,zZ x,zg x⟩
def vW (aF:Int):Int:=if aF≤0 then 1 else if aF=1 then 2 else if aF=2 then 4 else 8
def xl (t:qr) (draw:Int):qr :=
 if draw%(vW t.aF+1)=0 then zB { t with bA:=0,state:=3 }else{ t with bA:=draw%(vW t.aF+1),state:=3 }
def q9 (ab:List Int) (aj:Int):Bool:=ab.all λx=>decide (x=0∨aj<x)
def xz (t:qr):qr :=
 if(t.ab.length:Int)<t.set.aa then t
 else if(t.ad.filter λr=>q9 t.ab r.2)=[]then jr { t with ad:=t.ad.filter λr=>!q9 t.ab r.2 }
 else zB { t with ad:=t.ad.filter (λr=>!q9 t.ab r.2),ao:=true,ag:=t.ad.filter (λr=>q9 t.ab r.2),ah:=0,aF:=0 }
def xi (t:qr):qr:=xz (if(t.ab.length:Int)=t.me then{ t with ab:=t.ab++[0] }else t)
def vE (t:qr):qr:=if t.ad=[]then jr t else xi { t with state:=5,ab:=[] }
def gE (t:qr) (fin:Int):qr:=jr (if fin=4 then{ t with ad:=t.ad++t.ag }else t)
def xX (t:qr) (x:q8) (draw pick:Int):qr :=
 let u:={ t with aw:=t.aw++[jH t x pick],ah:=t.ah+1 }
 if jT x=5 then
  (if 0≤ku x∧ku x<t.set.aa then{ u with aF:=u.aF+1,state:=2,dB:=ku x,bj:=false }else xl { u with aF:=u.aF+1 } draw)
 else if jT x=3 then(if u.cP=true then zB u else{ u with state:=4 })
 else if u.ao=true then gE u (jT x)
 else vE { u with results:=u.results++[⟨jT x,xF x,zg x,x.aj⟩],ad:=u.ad++(zZ x).map λb=>(b,x.aj) }
def kZ (t:qr) (x y:q8) (draw pick:Int):qr :=
 let u:={ t with now:=some y,born:=if y.begun=true∧x.begun=false then pick else t.born }
 if jT y=0 then u else xX u y draw pick
def zO (t:qr) (a:cO) (draw pick:Int):qr :=
 if t.state=1 then(match t.now with
  |none=>t
  |some x=>kZ t x (jS x a) draw pick)
 else if t.state=2 then(if a.err=0∧a.word≠0∧(t.bj=false∨a.word=t.since)then{ t with bj:=true,since:=a.word }else xl t draw)
 else if t.state=5 then xi { t with ab:=t.ab++[if a.err≠0 then 0 else a.word] }
 else t
def yL (t:qr):qr:=if t.state=3 then(if t.bA-1=0 then zB { t with bA:=0 }else{ t with bA:=t.bA-1 })else t
def vo (r:List xj) (cF ic:Int):Bool:=r.any λx=>decide (x.1=cF∧x.2≠ic)
def yJ (t:qr) (cF ic:Int):qr:=match t.now with
 |none=>t
 |some x=>
  if vo x.r cF ic=true then(if t.state=4 then zB t else if t.state=1∧ym x=true then{ t with cP:=true }else t)
  else t
def G3 (t:qr):List kY:=t.aw++(match t.now with
 |some x=>if t.state=1∧x.begun=true then[jH t x 0]else[]
 |none=>[])
def wS (t:qr):List YN:=t.ad++t.ag
structure kK where
  s:zR
  m:jD
  t:List qr
  aM:Int
  last:dz
  did:Bool
def gU (S:zR):jD:=⟨List.replicate S.words.toNat 0,List.replicate S.al.toNat b8,S.start,List.replicate S.aa.toNat 0,0⟩
def QU (s:zR) (jobs:List (List (List qT))):kK :=
 let S:=jK { s with aa:=(jobs.take 4).length }
 ⟨S,(jC (gU S) (bg 2 5 14)).2,(List.range S.aa.toNat).map λi:Nat=>kF i S (((jobs.take 4)[i]?).getD []),0,bg 0 0 0,false⟩
def yT (ts:List qr) (i:Nat) (cF ic:Int):List qr:=ts.mapIdx λk t=>if k=i then t else yJ t cF ic
def vB (m:kK) (i:Nat) (draw:Int):kK:=match m.t[i]? with
 |none=>m
 |some t=>match xD t with
  |none=>{ m with aM:=m.aM+1,last:=bg 0 0 0,did:=false,t:=m.t.set i (yL t) }
  |some o=>
   let r:=jC m.m o
   let ts:=m.t.set i (zO t r.1 draw (m.aM+1))
   { m with aM:=m.aM+1,last:=o,did:=true,m:=r.2,t:=if o.kind=5 then yT ts i o.at_ o.lk.1 else ts }
def we (m:kK):Bool:=m.t.all λt=>decide (t.state=6∨t.state=4)
end
end Go.Proofs.YtefichdddddacaaGreatDoor
