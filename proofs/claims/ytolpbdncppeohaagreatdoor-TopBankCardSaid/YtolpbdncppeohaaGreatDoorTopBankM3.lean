/- Lemmas for 'quietus/quietustop.TopBank': Transactions step by step: plain, as the program has them;The memory: by the program;Patience, a fetch: by the program;The memorys operations: by the ... No condition. -/
import Derived.Test.YtolpbdncppeohaaGreatDoorTopBankM2
import Derived.Test.YtolpbdncppeohaaGreatDoorTopBankX
import Derived.Lib.SlicesCompact
namespace Go.Proofs.YtolpbdncppeohaaGreatDoor
open Go Go.Ae
set_option maxRecDepth 100000
section
abbrev di:Type:=Int×Bool×Int
structure dC where
  kind:Int
  at_:Int
  cI:Int
  word:Int
  ax:di
  lk:di
structure cx where
  word:Int
  lk:di
  done:Bool
  err:Int
structure zZ where
  w:List Int
  l:List di
  n:Int
  s:List Int
  bh:Int
def bT:di:=(0,false,0)
def bA (kind at_ word:Int):dC:=⟨kind,at_,0,word,bT,bT⟩
def dS:cx:=⟨0,bT,false,0⟩
def lT (e:Int):cx:=⟨0,bT,false,e⟩
def wB (l:di):Prop:=l.1<4611686018427387904∧(if l.2.1=true then 0≤l.2.2∧l.2.2<4 else l.2.2=0)
instance {l:di}:Decidable (wB l):=by unfold wB;infer_instance
def q8 (l:List di) (i:Int):di:=(l[i.toNat]?).getD bT
def Ku (m:zZ) (o:dC):cx×zZ :=
 if o.at_<1∨(m.w.length:Int)≤o.at_ then(lT 2,m)else if o.kind=1 then(⟨qC m.w o.at_,bT,false,0⟩,m)else(dS,{ m with w:=m.w.set o.at_.toNat o.word })
def GE (m:zZ) (o:dC):cx×zZ :=
 if o.at_<0∨(m.l.length:Int)≤o.at_ then(lT 2,m)
 else if o.kind=3 then(⟨0,q8 m.l o.at_,false,0⟩,m)
 else if¬wB o.lk then(lT 1,m)
 else if o.kind=5 then(dS,{ m with l:=m.l.set o.at_.toNat o.lk })
 else if q8 m.l o.at_≠o.ax then(dS,m)
 else(⟨0,bT,true,0⟩,{ m with l:=m.l.set o.at_.toNat o.lk })
def J9 (m:zZ) (o:dC):cx×zZ :=
 if o.kind=6 then(⟨m.n,bT,false,0⟩,m)
 else if o.word≤o.cI then(lT 1,m)
 else if 4611686018427387904≤o.word then(lT 7,m)
 else if m.n≠o.cI then(dS,m)
 else(⟨0,bT,true,0⟩,{ m with n:=o.word })
def uE (m:zZ) (o:dC):cx×zZ :=
 if o.at_<0∨(m.s.length:Int)≤o.at_ then(lT 2,m)else if o.kind=8 then(⟨qC m.s o.at_,bT,false,0⟩,m)else(dS,{ m with s:=m.s.set o.at_.toNat o.word })
def qL (m:zZ) (o:dC):cx×zZ :=
 let r:=if o.kind=1∨o.kind=2 then Ku m o else if o.kind=3∨o.kind=4∨o.kind=5 then GE m o else if o.kind=6∨o.kind=7 then J9 m o else if o.kind=8∨o.kind=9 then uE m o else(lT 1,m)
 if r.1.err=0 then(r.1,{ r.2 with bh:=r.2.bh+1 })else r
def ofM (at_ n wide:Int):Int:=if at_<0 then-1 else(at_/max 1 (min wide 16))%max 1 (min n 16)
def x9 (cs:List Cl) (n wide:Int):List Int:=((List.range 16).map λi:Nat=>(i:Int)).filter λs=>cs.any λc=>decide (ofM c.1 n wide=s)
structure Xa where
  me:Int
  ay:Int
  fin:Int
  dj:Int
  err:Int
def AS (me ay:Int):Xa:=⟨me,max 0 (min ay 4),0,-1,0⟩
def jA (p:Xa) (l:di):Bool×Xa:=if p.me<l.2.2 then(true,p)else(decide (0≤p.ay-1),{ p with ay:=p.ay-1 })
def zR (p:Xa) (fin err dj:Int):Xa:={ p with fin:=fin,err:=err,dj:=dj }
def jV (p:Xa) (a:cx):Bool×Xa:=if p.fin=0∧a.err≠0 then(true,zR p 4 a.err (-1))else(decide (p.fin≠0),p)
abbrev zm:Type:=Int×Int
structure Qg where
  p:Xa
  at_:Int
  aG:Int
  aa:Int
  state:Int
  lk:di
  word:Int
def B4 (me at_ aG ay aa:Int):Qg:=⟨AS me ay,at_,aG,aa,0,bT,0⟩
def Y7 (f:Qg):Option dC:=if f.p.fin≠0 then none else if f.state=1 then some (bA 1 f.at_ 0)else some (bA 3 f.aG 0)
def gA (f:Qg) (l:di):Qg :=
 if l.2.1=true then(if(jA f.p l).1=true then{ f with state:=0,p:=(jA f.p l).2 }else{ f with state:=0,p:=zR (jA f.p l).2 5 0 l.2.2 })
 else if f.aa<l.1 then{ f with state:=0,p:=zR f.p 6 0 (-1) }
 else{ f with lk:=l,state:=1 }
def jE (f:Qg) (a:cx):Qg :=
 if(jV f.p a).1=true then{ f with p:=(jV f.p a).2 }
 else if f.state=1 then{ f with word:=a.word,state:=2 }
 else if f.state=2∧a.lk=f.lk then{ f with p:=zR f.p 2 0 (-1) }
 else gA f a.lk
def xm (f:Qg):Int:=if f.p.fin≠2 then 0 else f.word
def xE (f:Qg):zm:=if f.p.fin≠2 then(0,0)else(f.aG,f.lk.1)
structure kc where
  p:Xa
  seen:List zm
  bD:Bool
  at_:Int
  aa:Int
def uF (me ay:Int) (seen:List zm):kc:=⟨AS me ay,seen,false,0,0⟩
def jf (l:List zm) (i:Int):zm:=(l[i.toNat]?).getD (0,0)
def GK (x:kc):Option dC:=if x.p.fin≠0 then none else if x.bD=false then some (bA 6 0 0)else some (bA 3 (jf x.seen x.at_).1 0)
def Qa (x:kc):kc:=if x.at_=(x.seen.length:Int)then{ x with p:=zR x.p 2 0 (-1) }else x
def je (x:kc) (a:cx):kc :=
 if(jV x.p a).1=true then{ x with p:=(jV x.p a).2 }
 else if x.bD=false then Qa { x with bD:=true,aa:=a.word }
 else if a.lk.2.1=true then(if(jA x.p a.lk).1=true then{ x with p:=(jA x.p a.lk).2 }else{ x with p:=zR (jA x.p a.lk).2 5 0 a.lk.2.2 })
 else if a.lk.1≠(jf x.seen x.at_).2 then{ x with p:=zR x.p 5 0 (-1) }
 else Qa { x with at_:=x.at_+1 }
def yC (x:kc):Int:=if x.p.fin≠2 then 0 else x.aa
structure jw where
  p:Xa
  me:Int
  aa:Int
  seen:List zm
  cells:List Cl
  s:List Int
  ax:List di
  state:Int
  at_:Int
  lk:di
  now:Int
  writing:Bool
  bx:Int
  rp:Int
  iF:Int
def zV (c:jw):jw:={ c with state:=if c.ax.length=c.s.length then 2 else 0 }
def Xu (me ay aa:Int) (seen:List zm) (cells:List Cl) (n wide:Int):jw :=
 zV ⟨AS me ay,me,aa,seen,cells,x9 cells n wide,[],0,0,bT,0,false,0,0,0⟩
def yf (l:List Cl) (i:Int):Cl:=(l[i.toNat]?).getD (0,0)
def yD (c:jw):Option dC :=
 if c.p.fin≠0 then none
 else if c.state=0 then some (bA 3 (qC c.s c.ax.length) 0)
 else if c.state=1 then some ⟨4,qC c.s c.ax.length,0,0,c.lk,(c.lk.1,true,c.me)⟩
 else if c.state=2 then some (bA 6 0 0)
 else if c.state=3 then some ⟨7,0,c.now,c.now+1,bT,bT⟩
 else if c.state=4 then some (bA 3 (jf c.seen c.at_).1 0)
 else if c.state=5 then some (bA 2 (yf c.cells c.at_).1 (yf c.cells c.at_).2)
 else if c.state=6 then some ⟨5,qC c.s c.at_,0,0,bT,(c.now+1,false,0)⟩
 else some ⟨5,qC c.s c.at_,0,0,bT,q8 c.ax c.at_⟩
def xw (c:jw):jw:=if c.at_=(c.ax.length:Int)then{ c with p:=zR c.p c.bx c.iF c.rp }else c
def zP (c:jw) (fin err dj:Int):jw:=xw { c with bx:=fin,iF:=err,rp:=dj,at_:=0,state:=7 }
def xn (c:jw) (l:di):jw:=if(jA c.p l).1=true then{ c with p:=(jA c.p l).2 }else zP { c with p:=(jA c.p l).2 } 5 0 l.2.2
def xX (c:jw):jw:=if c.at_=(c.s.length:Int)then{ c with p:=zR c.p 2 0 (-1) }else c
def zG (c:jw):jw:=if c.at_=(c.cells.length:Int)then xX { c with at_:=0,state:=6 }else c
def zp (c:jw):jw:=zG { c with writing:=true,at_:=0,state:=5 }
def Ul:List Int→List di→Int→Option Int
 |s::r,w::q,x=>if s=x then some w.1 else Ul r q x
 |_,_,_=>none
def zM (c:jw):Nat→jw
 | 0=>zp c
 |n+1=>
  if c.at_<(c.seen.length:Int)then
   (match Ul c.s c.ax (jf c.seen c.at_).1 with
   |none=>c
   |some v=>if v≠(jf c.seen c.at_).2 then zP c 5 0 (-1)else zM { c with at_:=c.at_+1 } n)
  else zp c
def xu (c:jw):jw:=zM { c with state:=4 } (c.seen.length+1)
def vV (c:jw) (a:cx):jw :=
 if c.state=0∧a.lk.2.1=true then xn c a.lk
 else if c.state=0 then{ c with lk:=a.lk,state:=1 }
 else if a.done=true then zV { c with ax:=c.ax++[c.lk] }
 else{ c with state:=0 }
def yB (c:jw) (a:cx):jw :=
 if c.state=2∧4611686018427387903≤a.word then zP c 4 7 (-1)
 else if c.state=2 then{ c with now:=a.word,state:=3 }
 else if a.done=false then{ c with state:=2 }
 else if c.now=c.aa then zp c
 else xu c
def yQ (c:jw) (l:di):jw :=
 if l.2.1=true then xn c l
 else if l.1≠(jf c.seen c.at_).2 then zP c 5 0 (-1)
 else xu { c with at_:=c.at_+1 }
def qp (c:jw) (a:cx):jw :=
 if(jV c.p a).1=true then{ c with p:=(jV c.p a).2 }
 else if c.state=0∨c.state=1 then vV c a
 else if c.state=2∨c.state=3 then yB c a
 else if c.state=4 then yQ c a.lk
 else if c.state=5 then zG { c with at_:=c.at_+1 }
 else if c.state=6 then xX { c with at_:=c.at_+1 }
 else xw { c with at_:=c.at_+1 }
def kE (c:jw):Int:=if c.writing=false then 0 else c.now+1
def QZ (c:jw):Bool:=c.writing&&decide (c.p.fin=0)
structure jD where
  words:Int
  ae:Int
  wide:Int
  ad:Int
  start:Int
  ay:Int
  writes:Int
  fuel:Int
def kz (n lo hi:Int):Int:=max lo (min n hi)
def jk (s:jD):jD:=⟨kz s.words 32 256,kz s.ae 1 16,kz s.wide 1 16,kz s.ad 1 4,min s.start 4611686018427387903,kz s.ay 0 4,kz s.writes 0 96,kz s.fuel 0 400⟩
structure B5 where
  l:List qa
  s:IM
  fin:Int
  err:Int
  left:Nat
inductive wc where
  |prog (r:B5)
  |au (blocks:List Int) (k:Nat)
structure qr where
  me:Int
  set:jD
  ap:wc
  v:VM
  r:List zm
  state:Int
  f:Qg
  e:kc
  c:Option jw
  begun:Bool
  aP:Int
  aa:Int
  fin:Int
  dj:Int
  err:Int
  cS:Bool
def K4 (me:Int) (S:jD) (ap:wc):qr:=⟨me,S,ap,Nl S.words S.writes,[],0,B4 0 0 0 0 0,uF 0 0 [],none,false,0,0,0,-1,0,false⟩
def gL (me:Int) (S:jD) (l:List qa):qr:=K4 me (jk S) (.prog ⟨l,Q4,0,0,kN (jk S).fuel⟩)
def w8 (me:Int) (S:jD) (bs:List Int):qr:=K4 me (jk S) (.au bs 0)
def zT (x:qr):Option dC :=
 if x.state=0 then some (bA 9 x.me 1)
 else if x.state=1 then some (bA 6 0 0)
 else if x.state=2 then some (bA 9 x.me (jR .u64 (x.aa+1)))
 else if x.state=7 then some (bA 9 x.me 0)
 else if x.state=8 then none
 else if x.state=3 then Y7 x.f
 else if x.state=6 then x.c.bind yD
 else GK x.e
def zh (x:qr) (fin err dj:Int):qr:={ x with fin:=fin,err:=err,dj:=dj,state:=7 }
def J3 (x:qr) (at_:Int):qr:={ x with state:=3,f:=B4 x.me at_ (ofM at_ x.set.ae x.set.wide) x.set.ay x.aa }
def gV (x:qr) (state:Int):qr:={ x with state:=state,e:=uF x.me x.set.ay x.r }
def zK:VM→List Int→Nat→(Nat×Int)×VM
 |V,[],k=>((k,0),V)
 |V,b::r,k=>if(xj V b).1=0 then zK (xj V b).2 r (k+1)else((k,(xj V b).1),(xj V b).2)
def z8 (x:qr):(Int×Int)×qr:=match x.ap with
 | .au bs k=>(if(zK x.v (bs.drop k) k).1.2=11 then(1,0)else if(zK x.v (bs.drop k) k).1.2=0 then(2,0)else(4,(zK x.v (bs.drop k) k).1.2),{ x with ap:=.au bs (zK x.v (bs.drop k) k).1.1,v:=(zK x.v (bs.drop k) k).2 })
 | .prog q=>(((jr q.l (qT q.l) q.left q.s x.v).kind,(jr q.l (qT q.l) q.left q.s x.v).err),{ x with
   ap:=.prog ⟨q.l,(jr q.l (qT q.l) q.left q.s x.v).s,if(jr q.l (qT q.l) q.left q.s x.v).kind=1 then 0 else(jr q.l (qT q.l) q.left q.s x.v).kind,(jr q.l (qT q.l) q.left q.s x.v).err,(jr q.l (qT q.l) q.left q.s x.v).left⟩,
   v:=(jr q.l (qT q.l) q.left q.s x.v).v })
def xd (x:qr) (k e:Int):qr :=
 if k=1 then J3 x x.v.aB
 else if k=3 then gV { x with cS:=true } 5
 else if k=4 then zh x 4 e (-1)
 else if jz x.v.lv=[]then zh x 2 0 (-1)
 else{ x with state:=6,c:=some (Xu x.me x.set.ay x.aa x.r (jz x.v.lv) x.set.ae x.set.wide) }
def xp (x:qr):qr:=xd (z8 x).2 (z8 x).1.1 (z8 x).1.2
def vw (r:List zm) (x:zm):Int×List zm :=
 if x.1<0∨16≤x.1∨4611686018427387904≤x.2 then(1,r)
 else match r.find? λy=>decide (y.1=x.1)with
  |some y=>if y.2≠x.2 then(14,r)else(0,r)
  |none=>if r.length=16 then(5,r)else(0,r++[x])
def jh (x:qr):qr :=
 if x.f.p.fin=6 then gV x 4
 else if(vw x.r (xE x.f)).1=0 then xp { x with r:=(vw x.r (xE x.f)).2,v:=(xc x.v x.v.aB (xm x.f)).2 }
 else if(vw x.r (xE x.f)).1=14 then zh x 5 0 (-1)
 else zh x 4 (vw x.r (xE x.f)).1 (-1)
def zA (x:qr):Int×Int:=if x.state=3 then(x.f.p.fin,x.f.p.dj)else if x.state=6 then(match x.c with |some c=>(c.p.fin,c.p.dj) |none=>(0,0))else(x.e.p.fin,x.e.p.dj)
def jF (x:qr):qr :=
 if x.state=3 then jh x
 else if x.state=4 then J3 { x with aa:=yC x.e } x.v.aB
 else if x.state=5 then zh { x with aa:=yC x.e } 3 0 (-1)
 else match x.c with |some c=>zh x c.p.fin c.p.err (-1) |none=>x
def qM (x:qr):Bool:=decide (x.state≠8)&&(match x.c with |some c=>QZ c||decide (c.p.fin=2) |none=>false)
def q9 (x:qr):qr:=if qM x=true then(match x.c with |some c=>{ x with aa:=kE c } |none=>x)else x
def jZ (x:qr):qr:=q9 (if(zA x).1=0 then x else if(zA x).1=5 then zh x 5 0 (zA x).2 else jF x)
def qS (x:qr) (a:cx):qr :=
 if x.state=8 then x
 else if a.err≠0 then{ zh x 4 a.err (-1)with state:=8 }
 else if x.state=0 then{ x with state:=1 }
 else if x.state=1 then{ x with begun:=true,aP:=a.word,aa:=a.word,state:=2 }
 else if x.state=2 then xp x
 else if x.state=7 then{ x with state:=8 }
 else if x.state=3 then jZ { x with f:=jE x.f a }
 else if x.state=6 then jZ { x with c:=x.c.map λc=>qp c a }
 else jZ { x with e:=je x.e a }
def jK (x:qr):Int:=if x.state≠8 then 0 else x.fin
def zd (x:qr):Bool:=decide (jK x=2)||qM x
def gZ (x:qr):List Cl:=if zd x=true then jz x.v.lv else[]
def zk (x:qr):List Int:=if zd x=true then(match x.ap with | .au bs _=>bs | .prog _=>vD x.v.lv)else[]
def zc (x:qr):List UInt8:=if zd x=true then(match x.ap with | .au _ _=>[] | .prog q=>Nm q.s.out)else[]
end
section
variable {g h:AH} {L R:List SP}
def zr (l:di):List AV:=[.int .u64 l.1,.bool l.2.1,.int .i64 l.2.2]
def vZ (o:dC):List AV:=[.int .i64 o.kind,.int .i64 o.at_,.int .u64 o.cI,.int .u64 o.word,.int .u64 o.ax.1,.bool o.ax.2.1,.int .i64 o.ax.2.2,.int .u64 o.lk.1,.bool o.lk.2.1,.int .i64 o.lk.2.2]
def xf (a:cx):List AV:=[.int .u64 a.word,.int .u64 a.lk.1,.bool a.lk.2.1,.int .i64 a.lk.2.2,.bool a.done,.int .i64 a.err]
theorem jJm {l:List di} {k:Nat} (hk:k<l.length):l[k]? =some (q8 l (k:Int)):=by simp_all[q8,Int.toNat_natCast]
theorem Zi {l:List di} {k:Nat} (hk:k<l.length):((l.flatMap zr).drop (k*3)).take 3=zr (q8 l (k:Int)):=gF (enc:=zr) (λ_=>rfl) (jJm hk)
section
variable {n b m:Nat} {v:AV} {a:Int} {e:TypeId} {xs:List AV} {R2:List SP}
theorem Ug {w o:Int}:wB (w,true,o)↔w<4611686018427387904∧0≤o∧o<4:=by rfl
theorem Ue {w o:Int}:wB (w,false,o)↔w<4611686018427387904∧o=0:=by rfl
theorem jJl {o:Int} (hn:1≤n):aE n 140 [.int .i64 o] h λr h'=>r=.bool (decide (0≤o∧o<4))∧h'=h:=by
 refine aF rfl omQ λk hk=>?_;unfold S140;try simp only[iZ]
 refine vK (λc2=>?_) (λc2=>?_)
 ·refine qY<|qd ?_;(try dsimp only)
  refine yG (λc3=>?_) (λc3=>?_)
  ·refine qE<|qW ⟨by grind,rfl⟩
  ·refine qE<|qW ⟨by grind,rfl⟩
 ·refine qY<|qb<|qI ?_
  exact qW ⟨by grind,rfl⟩
theorem jK4 (hn:2≤n) {l:di} (H:HS g h R):aE n 116 [.agg (zr l)] h λr h'=>r=.bool (decide (wB l))∧HS g h' R:=by
 refine aF rfl omQ λk hk=>?_;unfold S116;try simp only[iZ]
 obtain⟨w,d,o⟩:=l;refine qP H rfl λb h1 H1=>?_;have H1:HS g h1 (qw b [.int .u64 w,.bool d,.int .i64 o]::R):=H1;refine qQ (qZ ‹_› .here rfl ?_);cases d with
 |true=>
  refine qX (qQ (qZ ‹_› .here rfl ?_));refine yG (λc1=>?_) (λc1=>?_)
  ·refine qY<|qd<|qQ (qZ ‹_› .here rfl ?_)
   refine qG (jJl omQ) ?_;rintro _ _ ⟨rfl,rfl⟩;refine qE (qW ⟨?_,H1.drop⟩);simp_all[Ug]
  ·refine qY<|qb<|qI ?_
   exact qW ⟨by simp_all[iV,Ug],H1.drop⟩
 |false=>
  refine qJ (qQ (qZ ‹_› .here rfl ?_));refine yG (λc1=>?_) (λc1=>?_)
  ·refine qY<|qd<|qQ (qZ ‹_› .here rfl ?_)
   refine wG (λc2=>?_) (λc2=>?_)
   ·refine qE<|qW ⟨by rw[iG (Ue.2 omQ)],H1.drop⟩
   ·refine qE<|qW ⟨by simp_all[iV,Ue],H1.drop⟩
  ·refine qY<|qb<|qI ?_
   exact qW ⟨by simp_all[iV,Ue],H1.drop⟩
theorem qvF (hn:1≤n) (H:HS g h L) (s:bi L (qw b [v]) R) (s2:bi L (qB e 1 m v xs) R2) :
  aE n 92 [.ptr b 0,.int .i64 a] h λr h'=>r=.bool (decide (1≤a∧a<m))∧h'=h:=by
 refine bj rfl omQ λk hk=>?_;unfold S92;try simp only[iZ]
 refine vK (λh1=>?_) (λh1=>?_)
 ·refine qY<|qd<|qK (qQ ?_)
  refine qZ H s rfl<|jQ H s2<|yG (λh2=>?_) (λh2=>?_)
  ·refine qE<|qW ⟨by grind,rfl⟩
  ·refine qE<|qW ⟨by grind,rfl⟩
 ·refine qY<|qb<|qI ?_
  exact qW ⟨by grind,rfl⟩
theorem qgN (hn:1≤n) (H:HS g h L) (s:bi L (qw b [v]) R) (s2:bi L (qB e 1 m v xs) R2) :
  aE n 95 [.ptr b 0,.int .i64 a] h λr h'=>r=.bool (decide (0≤a∧a<m))∧h'=h:=by
 refine bj rfl omQ λk hk=>?_;unfold S95;try simp only[iZ]
 refine vK (λh1=>?_) (λh1=>?_)
 ·refine qY<|qd<|qK (qQ ?_)
  refine qZ H s rfl<|jQ H s2<|yG (λh2=>?_) (λh2=>?_)
  ·refine qE<|qW ⟨by grind,rfl⟩
  ·refine qE<|qW ⟨by grind,rfl⟩
 ·refine qY<|qb<|qI ?_
  exact qW ⟨by grind,rfl⟩
theorem qwS (hn:1≤n) {wd:AV} (H:HS g h L) (s:bi L (qw b [v,wd]) R) (s2:bi L (qB e 3 m v xs) R2) :
  aE n 93 [.ptr b 0,.int .i64 a] h λr h'=>r=.bool (decide (0≤a∧a<m))∧h'=h:=by
 refine bj rfl omQ λk hk=>?_;unfold S93;try simp only[iZ]
 refine vK (λh1=>?_) (λh1=>?_)
 ·refine qY<|qd<|qK (qQ ?_)
  refine qZ H s rfl<|jQ H s2<|yG (λh2=>?_) (λh2=>?_)
  ·refine qE<|qW ⟨by grind,rfl⟩
  ·refine qE<|qW ⟨by grind,rfl⟩
 ·refine qY<|qb<|qI ?_
  exact qW ⟨by grind,rfl⟩
theorem qgm {ws:List Int} (hn:2≤n) (H:HS g h L) (s:bi L (qw b [v]) R) (s2:bi L (qB e 1 ws.length v (ws.map (.int .u64))) R2) :
  aE n 60 [.ptr b 0,.int .i64 a] h λr h'=>r=.bV [.int .u64 (if 1≤a∧a<ws.length then qC ws a else 0),.int .i64 (if 1≤a∧a<ws.length then 0 else 2)]∧h'=h:=by
 refine bj rfl omQ λk hk=>?_;unfold S60;try simp only[iZ]
 refine qG (qvF omQ H s s2) ?_;rintro _ _ ⟨rfl,rfl⟩;by_cases hc:1≤a∧a<ws.length
 ·rw[iG hc,iJ hc,iJ hc];obtain⟨k,rfl⟩:∃k:Nat,a=k:=⟨a.toNat,by omega⟩;refine jd (qJ (qK (qQ (qZ H s rfl ?_))));refine zj (H.sl s2) (by rw[List.getElem?_map,Qv omQ];rfl)<|qW ⟨rfl,rfl⟩
 ·rw[iV hc,iQ hc,iQ hc];refine jo (qX ?_);exact qW ⟨rfl,rfl⟩
theorem qwl {ws:List Int} (hn:2≤n) (H:HS g h L) (s:bi L (qw b [v]) R) (s2:bi L (qB e 1 ws.length v (ws.map (.int .u64))) R2) :
  aE n 67 [.ptr b 0,.int .i64 a] h λr h'=>r=.bV [.int .u64 (if 0≤a∧a<ws.length then qC ws a else 0),.int .i64 (if 0≤a∧a<ws.length then 0 else 2)]∧h'=h:=by
 refine bj rfl omQ λk hk=>?_;unfold S67;try simp only[iZ]
 refine qG (qgN omQ H s s2) ?_;rintro _ _ ⟨rfl,rfl⟩;by_cases hc:0≤a∧a<ws.length
 ·rw[iG hc,iJ hc,iJ hc];obtain⟨k,rfl⟩:∃k:Nat,a=k:=⟨a.toNat,by omega⟩;refine jd (qJ (qK (qQ (qZ H s rfl ?_))));refine zj (H.sl s2) (by rw[List.getElem?_map,Qv omQ];rfl)<|qW ⟨rfl,rfl⟩
 ·rw[iV hc,iQ hc,iQ hc];refine jo (qX ?_);exact qW ⟨rfl,rfl⟩
theorem qqU {ws:List Int} {w:Int} (hn:2≤n) (H:HS g h (qw b [v]::qB e 1 ws.length v (ws.map (.int .u64))::R)) :
  aE n 61 [.ptr b 0,.int .i64 a,.int .u64 w] h λr h'=>r=.int .i64 (if 1≤a∧a<ws.length then 0 else 2)∧
   HS g h' (qw b [v]::qB e 1 (if 1≤a∧a<ws.length then ws.set a.toNat w else ws).length v ((if 1≤a∧a<ws.length then ws.set a.toNat w else ws).map (.int .u64))::R):=by
 refine cX rfl omQ λk hk=>?_;unfold S61;try simp only[iZ]
 refine qG (qvF omQ H .here e_1) ?_;rintro _ _ ⟨rfl,rfl⟩;by_cases hc:1≤a∧a<ws.length
 ·rw[iG hc];simp only[iJ hc];obtain⟨k,rfl⟩:∃k:Nat,a=k:=⟨a.toNat,by omega⟩;refine jd (qJ (qK (qQ (qZ ‹_› .here rfl ?_))));refine XL (H.aM e_1) omQ ⟨rfl,rfl⟩ λh2 H2=>?_;rw[← List.map_set]at H2;exact qW ⟨rfl,by rw[List.length_set];exact H2.pk [1,0] 0⟩
 ·rw[iV hc];simp only[iQ hc];refine jo (qX ?_);exact qW ⟨rfl,H⟩
theorem qYs {ws:List Int} {w:Int} (hn:2≤n) (H:HS g h (qw b [v]::qB e 1 ws.length v (ws.map (.int .u64))::R)) :
  aE n 68 [.ptr b 0,.int .i64 a,.int .u64 w] h λr h'=>r=.int .i64 (if 0≤a∧a<ws.length then 0 else 2)∧
   HS g h' (qw b [v]::qB e 1 (if 0≤a∧a<ws.length then ws.set a.toNat w else ws).length v ((if 0≤a∧a<ws.length then ws.set a.toNat w else ws).map (.int .u64))::R):=by
 refine cX rfl omQ λk hk=>?_;unfold S68;try simp only[iZ]
 refine qG (qgN omQ H .here e_1) ?_;rintro _ _ ⟨rfl,rfl⟩;by_cases hc:0≤a∧a<ws.length
 ·rw[iG hc];simp only[iJ hc];obtain⟨k,rfl⟩:∃k:Nat,a=k:=⟨a.toNat,by omega⟩;refine jd (qJ (qK (qQ (qZ ‹_› .here rfl ?_))));refine XL (H.aM e_1) omQ ⟨rfl,rfl⟩ λh2 H2=>?_;rw[← List.map_set]at H2;exact qW ⟨rfl,by rw[List.length_set];exact H2.pk [1,0] 0⟩
 ·rw[iV hc];simp only[iQ hc];refine jo (qX ?_);exact qW ⟨rfl,H⟩
variable {ls:List di} {wd:AV}
theorem qgr (hn:2≤n) (H:HS g h L) (s:bi L (qw b [v,wd]) R) (s2:bi L (qB e 3 ls.length v (ls.flatMap zr)) R2) :
  aE n 62 [.ptr b 0,.int .i64 a] h λr h'=>r=.bV [.agg (zr (if 0≤a∧a<ls.length then q8 ls a else bT)),.int .i64 (if 0≤a∧a<ls.length then 0 else 2)]∧HS g h' L:=by
 refine bj rfl omQ λk hk=>?_;unfold S62;try simp only[iZ]
 refine qP H rfl λb0 h1 H1=>?_;refine qG (qwS omQ H1 (.there s) (.there s2)) ?_;rintro _ _ ⟨rfl,rfl⟩;by_cases hc:0≤a∧a<ls.length
 ·rw[iG hc,iJ hc,iJ hc];obtain⟨k,rfl⟩:∃k:Nat,a=k:=⟨a.toNat,by omega⟩;refine jd (qJ (qK (qQ (qZ H1 (.there s) rfl ?_))));refine xV (H1.sl (.there s2)) omQ omQ (Zi omQ)<|qm H1 .here rfl (by simp) rfl λh2 H2=>?_;refine qF H2 .here rfl omQ rfl<|qW ⟨rfl,H2.drop⟩
 ·rw[iV hc,iQ hc,iQ hc];refine jo (qX (qR rfl ?_));refine qm H1 .here rfl (by simp) rfl λh2 H2=>?_;refine qF H2 .here rfl omQ rfl<|qW ⟨rfl,H2.drop⟩
def Q7 (n:Nat) (a:Int) (l:di):Int:=if 0≤a∧a<n then(if wB l then 0 else 1)else 2
theorem qGn {l:di} (hn:3≤n) (H:HS g h L) (s:bi L (qw b [v,wd]) R) (s2:bi L (qB e 3 m v xs) R2) :
  aE n 94 [.ptr b 0,.int .i64 a,.agg (zr l)] h λr h'=>r=.int .i64 (Q7 m a l)∧HS g h' L:=by
 refine cX rfl omQ λk hk=>?_;unfold S94;try simp only[iZ]
 unfold Q7;refine qP H rfl λb0 h1 H1=>?_;refine qG (qwS omQ H1 (.there s) (.there s2)) ?_;rintro _ _ ⟨rfl,rfl⟩;by_cases hc:0≤a∧a<m
 ·rw[iG hc,iJ hc];refine jd (qJ (qF H1 .here rfl omQ rfl ?_));refine qG (jK4 omQ H1) ?_;rintro _ h2 ⟨rfl,H2⟩;by_cases hl:wB l
  ·rw[iG hl,iJ hl];refine jd (qJ ?_);exact qW ⟨rfl,H2.drop⟩
  ·rw[iV hl,iQ hl];refine jo (qX ?_);exact qW ⟨rfl,H2.drop⟩
 ·rw[iV hc,iQ hc];refine jo (qX ?_);exact qW ⟨rfl,H1.drop⟩
theorem jXL (x y:di):yW [.mO .int 0,.mO .bool 1,.mO .int 2] (zr x) (zr y)=some (decide (x=y)):=by obtain⟨a,b,c⟩:=x;obtain⟨a',b',c'⟩:=y;show(bif mG a a' then(bif b==b' then(bif mG c c' then some true else some false)else some false)else some false)=_;rw[Gg,Gg];by_cases h1:a=a'<;>by_cases h3:c=c'<;>cases b<;>cases b'<;>simp[h1,h3]
theorem jZo {ax l:di} (hn:4≤n) (H:HS g h (qw b [v,wd]::qB e 3 ls.length v (ls.flatMap zr)::R)) :
  aE n 63 [.ptr b 0,.int .i64 a,.agg (zr ax),.agg (zr l)] h λr h'=>r=.bV [.bool (decide (Q7 ls.length a l=0∧q8 ls a=ax)),.int .i64 (Q7 ls.length a l)]∧
   HS g h' (qw b [v,wd]::qB e 3 (if Q7 ls.length a l=0∧q8 ls a=ax then ls.set a.toNat l else ls).length v ((if Q7 ls.length a l=0∧q8 ls a=ax then ls.set a.toNat l else ls).flatMap zr)::R):=by
 (refine qA rfl omQ λk hk=>?_;show wp (S63 (callT tab qz k) _ _ _ _ _) _;unfold S63;try simp only[iI,iZ])
 refine qP H rfl λb0 h1 H1=>?_;refine qP H1 rfl λb1 h2 H2=>?_;refine qF H2 .here rfl omQ rfl<|qG (qGn omQ H2 e_2 e_3) ?_;rintro _ h3 ⟨rfl,H3⟩;by_cases c0:Q7 ls.length a l=0
 rotate_left
 ·refine jH c0<|qX ?_;rw[iV (λh=>c0 h.1)];simp only[iQ (show¬(Q7 ls.length a l=0∧q8 ls a=ax)from λh=>c0 h.1)];exact qW ⟨rfl,H3.drop.drop⟩
 have hc:0≤a∧a<ls.length:=by
  grind[Q7]
 obtain⟨k,rfl⟩:∃k:Nat,a=k:=⟨a.toNat,by omega⟩;refine jI c0<|qJ (qK (qQ (qZ ‹_› e_2 rfl ?_)));refine xV (H3.sl e_3) omQ omQ (Zi omQ)<|qF H3 e_1 rfl omQ rfl<|qW2 (jXL _ _) (λc1=>?_) (λc1=>?_)
 ·rw[iG ⟨c0,c1⟩];simp only[iJ (show Q7 ls.length k l=0∧q8 ls k=ax from⟨c0,c1⟩)];rw[c0];refine qJ (qK (qQ (qZ ‹_› e_2 rfl ?_)));refine qF H3 (b:=b1) (off:=0) .here rfl omQ (l:=zr l) rfl<|PL (l:=zr l) (i:=k) (H3.aM e_3) omQ rfl rfl λh4 H4=>?_;rw[Zl (sz:=3) (enc:=zr) (l:=ls) (i:=k) (a:=l) (λ_=>rfl) omQ]at H4;exact qW ⟨rfl,by rw[List.length_set];exact H4.pk [3,0] 2⟩
 ·rw[iV (λh=>c1 h.2)];simp only[iQ (show¬(Q7 ls.length k l=0∧q8 ls k=ax)from λh=>c1 h.2)];rw[c0];refine qX<|qW ⟨rfl,H3.drop.drop⟩
theorem qzC {l:di} (hn:4≤n) (H:HS g h (qw b [v,wd]::qB e 3 ls.length v (ls.flatMap zr)::R)) :
  aE n 64 [.ptr b 0,.int .i64 a,.agg (zr l)] h λr h'=>r=.int .i64 (Q7 ls.length a l)∧
   HS g h' (qw b [v,wd]::qB e 3 (if Q7 ls.length a l=0 then ls.set a.toNat l else ls).length v ((if Q7 ls.length a l=0 then ls.set a.toNat l else ls).flatMap zr)::R):=by
 refine cX rfl omQ λk hk=>?_;unfold S64;try simp only[iZ]
 refine qP H rfl λb0 h1 H1=>?_;refine qF H1 .here rfl omQ rfl<|qG (qGn omQ H1 e_1 e_2) ?_;rintro _ h3 ⟨rfl,H3⟩;refine qY ?_
 try dsimp only
 by_cases c0:Q7 ls.length a l=0
 rotate_left
 ·refine qj c0<|qJ (qx ?_);simp only[iQ c0];exact qW ⟨rfl,H3.drop⟩
 have hc:0≤a∧a<ls.length:=by
  grind[Q7]
 obtain⟨k,rfl⟩:∃k:Nat,a=k:=⟨a.toNat,by omega⟩;refine qk c0 ?_;simp only[iJ c0];refine qX (qK (qQ (qZ ‹_› e_1 rfl ?_)));refine qF H3 .here rfl omQ (l:=zr l) rfl<|PL (l:=zr l) (i:=k) (H3.aM e_2) omQ rfl rfl λh4 H4=>?_;rw[Zl (sz:=3) (enc:=zr) (l:=ls) (i:=k) (a:=l) (λ_=>rfl) omQ]at H4;refine qx<|qW ⟨rfl,by rw[List.length_set];exact H4.pk [2,0] 1⟩
end
def B6 (p hb tb cb sb:Nat) (wv lv sv:AV) (S:jD) (M:zZ) (R:List SP):List SP :=
 qw p [.int .i64 S.words,.int .i64 S.ae,.int .i64 S.wide,.int .i64 S.ad,.int .u64 S.start,.ptr hb 0,.ptr tb 0,.ptr cb 0,.ptr sb 0,.int .i64 M.bh]::qw hb [wv]::qB 22 1 M.w.length wv (M.w.map (.int .u64))::
 qw tb [lv,.int .i64 S.wide]::qB 68 3 M.l.length lv (M.l.flatMap zr)::qw cb [.int .u64 M.n]::qw sb [sv]::qB 22 1 M.s.length sv (M.s.map (.int .u64))::R
def cn (p:Nat) (S:jD) (M:zZ):SP:=.ex λq:(Nat×Nat×Nat×Nat)×AV×AV×AV=>.all (B6 p q.1.1 q.1.2.1 q.1.2.2.1 q.1.2.2.2 q.2.1 q.2.2.1 q.2.2.2 S M [])
section
variable {p hb tb cb sb:Nat} {wv lv sv:AV} {S:jD} {M:zZ}
theorem cn.E (H:HS g h (cn p S M::R)):∃hb tb cb sb wv lv sv,HS g h (qw p [.int .i64 S.words,.int .i64 S.ae,.int .i64 S.wide,.int .i64 S.ad,.int .u64 S.start,.ptr hb 0,.ptr tb 0,.ptr cb 0,.ptr sb 0,.int .i64 M.bh]::qw hb [wv]::qB 22 1 M.w.length wv (M.w.map (.int .u64))::
  qw tb [lv,.int .i64 S.wide]::qB 68 3 M.l.length lv (M.l.flatMap zr)::qw cb [.int .u64 M.n]::qw sb [sv]::qB 22 1 M.s.length sv (M.s.map (.int .u64))::R):=by
 obtain⟨⟨⟨hb,tb,cb,sb⟩,wv,lv,sv⟩,H⟩:=H.eU;exact⟨hb,tb,cb,sb,wv,lv,sv,H.cG⟩
theorem cn.I (H:HS g h (B6 p hb tb cb sb wv lv sv S M R)):HS g h (cn p S M::R):=HS.fB ((hb,tb,cb,sb),wv,lv,sv) (HS.allI H)
end
end
section
variable {g h:AH} {L R:List SP}
def y7 (p:Xa) (xs:List AV):List AV:=.int .i64 p.me:: .int .i64 p.ay:: .int .i64 p.fin:: .int .i64 p.dj:: .int .i64 p.err::xs
def tK (o:Option dC):AV:=.bV [.agg (vZ (o.getD (bA 0 0 0))),.bool o.isSome]
def U9 (p:Xa):Prop:=p.fin=0→0≤p.ay∧p.ay≤4
section
variable {n b:Nat} {p:Xa} {xs:List AV}
theorem RP {me sp:Int} (hn:1≤n) (H:HS g h R):aE n 129 [.int .i64 me,.int .i64 sp] h λr h'=>r=.agg (y7 (AS me sp) [])∧HS g h' R:=by
 refine bj rfl omQ λk hk=>?_;unfold S129;try simp only[iZ]
 refine qP H rfl λb h1 H1=>?_;refine zt (xg (qR rfl ?_));refine qm H1 .here rfl (by simp) rfl λh2 H2=>?_;refine qF H2 .here rfl omQ rfl<|qW ⟨rfl,H2.drop⟩
theorem Yp (hn:1≤n) (H:HS g h L) (s:bi L (qw b (y7 p xs)) R):aE n 114 [.ptr b 0] h λr h'=>r=.int .i64 p.fin∧h'=h:=by
 refine aF rfl omQ λk hk=>?_;unfold S114;try simp only
 refine qK (qQ ?_);exact qZ H s rfl (qW ⟨rfl,rfl⟩)
theorem qyf (hn:1≤n) (H:HS g h L) (s:bi L (qw b (y7 p xs)) R):aE n 166 [.ptr b 0] h λr h'=>r=.int .i64 p.err∧h'=h:=by
 refine aF rfl omQ λk hk=>?_;unfold S166;try simp only
 refine qK (qQ ?_);exact qZ H s rfl (qW ⟨rfl,rfl⟩)
theorem RQ (hn:1≤n) (H:HS g h L) (s:bi L (qw b (y7 p xs)) R):aE n 355 [.ptr b 0] h λr h'=>r=.int .i64 p.dj∧h'=h:=by
 refine aF rfl omQ λk hk=>?_;unfold S355;try simp only
 refine qK (qQ ?_);exact qZ H s rfl (qW ⟨rfl,rfl⟩)
theorem w9 {f e y:Int} (hn:1≤n) (H:HS g h (qw b (y7 p xs)::R)):aE n 357 [.ptr b 0,.int .i64 f,.int .i64 e,.int .i64 y] h λ_ h'=>HS g h' (qw b (y7 (zR p f e y) xs)::R):=by
 refine sh rfl omQ λk hk=>?_;unfold S357;try simp only
 unfold y7 at H;refine qK (qQ (qy H .here ⟨rfl,rfl⟩ aS λh1 H1=>?_));refine qK (qQ (qy H1 .here ⟨rfl,rfl⟩ aS λh2 H2=>?_));refine qK (qQ (qy H2 .here ⟨rfl,rfl⟩ aS λh3 H3=>?_));exact qW H3
theorem UH {l:di} (hn:1≤n) (hp:0≤p.ay∧p.ay≤4) (H:HS g h (qw b (y7 p xs)::R)):aE n 359 [.ptr b 0,.agg (zr l)] h λr h'=>r=.bool (jA p l).1∧HS g h' (qw b (y7 (jA p l).2 xs)::R):=by
 refine bj rfl omQ λk hk=>?_;unfold S359;try simp only[iZ]
 refine qP H rfl λb0 h1 H1=>?_;have H1:HS g h1 (qw b0 (zr l)::qw b (.int .i64 p.me:: .int .i64 p.ay:: .int .i64 p.fin:: .int .i64 p.dj:: .int .i64 p.err::xs)::R):=H1;unfold zr at H1;refine qQ (qZ ‹_› .here rfl ?_);refine qK (qQ (qZ ‹_› e_1 rfl ?_));unfold jA;by_cases c:p.me<l.2.2
 ·refine vr c ?_;rw[iJ c];refine qX<|qW ⟨rfl,H1.drop⟩
 ·refine vE c ?_;rw[iQ c];refine qJ (qK (qQ (qZ ‹_› e_1 rfl ?_)));refine zu omQ<|qK (qQ (qy H1 e_1 ⟨rfl,rfl⟩ aS λh2 H2=>?_));refine qK (qQ (qZ ‹_› .here rfl ?_));refine vK (λc2=>?_) (λc2=>?_)
  ·exact qW ⟨by grind,H2.pk [0] 1⟩
  ·exact qW ⟨by grind,H2.pk [0] 1⟩
theorem YV {a:cx} (hn:2≤n) (H:HS g h (qw b (y7 p xs)::R)):aE n 356 [.ptr b 0,.agg (xf a)] h λr h'=>r=.bool (jV p a).1∧HS g h' (qw b (y7 (jV p a).2 xs)::R):=by
 refine bj rfl omQ λk hk=>?_;unfold S356;try simp only[iZ]
 refine qP H rfl λb0 h1 H1=>?_;unfold xf at H1;refine zb [] (λs h'=>s=(.ptr b 0,())∧HS g h' (qw b (y7 (if p.fin=0∧a.err≠0 then zR p 4 a.err (-1)else p) xs)::R)) ?_ ?_
 rotate_left
 ·rintro s h2 ⟨rfl,H2⟩;unfold y7 at H2;refine qK (qQ (qZ ‹_› .here rfl ?_));by_cases c:p.fin=0∧a.err≠0
  ·rw[iJ c]at H2;rw[show jV p a=(true,zR p 4 a.err (-1))from iJ c,iJ c];refine jH (by nofun)<|qx<|qW ⟨rfl,H2⟩
  ·rw[iQ c]at H2;rw[show jV p a=(decide (p.fin≠0),p)from iQ c,iQ c];refine gI (λc2=>?_) (λc2=>?_)
   ·refine qx<|qW ⟨congrArg AV.bool (iG c2).symm,H2⟩
   ·refine qx<|qW ⟨congrArg AV.bool (iV (λh=>h c2)).symm,H2⟩
 intro j hj;refine qK (qQ (qZ ‹_› e_1 rfl ?_));by_cases c:p.fin=0
 ·refine qk c<|qY<|qd<|qQ (qZ ‹_› .here rfl ?_)
  by_cases c2:a.err=0
  ·refine jI c2<|qE (qJ ?_);exact hj _ _ ⟨rfl,by rw[iQ (λh=>h.2 c2)];exact H1.drop⟩
  ·refine jH c2<|qE (qX (qQ (qZ ‹_› .here rfl ?_)));refine qG (w9 omQ (H1.aM e_1)) λ_ h2 H2=>?_;exact hj _ _ ⟨rfl,by rw[iJ ⟨c,c2⟩];exact H2.pk [0] 1⟩
 ·refine qj c<|qY<|qb<|qI (qJ ?_)
  exact hj _ _ ⟨rfl,by rw[iQ (λh=>c h.1)];exact H1.drop⟩
end
def kI (f:Qg):List AV:=y7 f.p [.int .i64 f.at_,.int .i64 f.aG,.int .u64 f.aa,.int .i64 f.state,.int .u64 f.lk.1,.bool f.lk.2.1,.int .i64 f.lk.2.2,.int .u64 f.word]
section
variable {n b:Nat} {f:Qg}
theorem jJE {me at_ st sp t:Int} (hn:2≤n) (H:HS g h R):aE n 125 [.int .i64 me,.int .i64 at_,.int .i64 st,.int .i64 sp,.int .u64 t] h λr h'=>∃b,r=.ptr b 0∧HS g h' (qw b (kI (B4 me at_ st sp t))::R):=by
 refine PO rfl omQ λk hk=>?_;unfold S125;try simp only[iZ]
 refine qG (RP omQ H) ?_;rintro _ h1 ⟨rfl,H1⟩;unfold y7;refine qR rfl<|qP H1 rfl λb h2 H2=>qW ⟨b,rfl,H2⟩
theorem qxI (hn:2≤n) (H:HS g h (qw b (kI f)::R)):aE n 353 [.ptr b 0] h λr h'=>r=tK (Y7 f)∧HS g h' (qw b (kI f)::R):=by
 refine aF rfl omQ λk hk=>?_;unfold S353;try simp only[iZ]
 refine qP H rfl λb0 h1 H1=>?_;refine qK (qQ (qG (Yp omQ H1 e_1) ?_));rintro _ _ ⟨rfl,rfl⟩;unfold Y7;have H2:=H1;unfold kI y7 at H2;by_cases c:f.p.fin=0
 ·refine jI c ?_;rw[iQ (λh=>h c)];refine qJ (qK (qQ (qZ ‹_› e_1 rfl ?_)));by_cases c2:f.state=1
  ·refine qk c2 ?_;rw[iJ c2];refine qX (qK (qQ (qZ ‹_› e_1 rfl ?_)));refine qR rfl<|qm H1 .here rfl (by simp) rfl λh3 H3=>?_;refine qF H3 .here rfl omQ rfl<|qW ⟨rfl,H3.drop⟩
  ·refine qj c2 ?_;rw[iQ c2];refine qJ (qK (qQ (qZ ‹_› e_1 rfl ?_)));refine qR rfl<|qm H1 .here rfl (by simp) rfl λh3 H3=>?_;refine qF H3 .here rfl omQ rfl<|qW ⟨rfl,H3.drop⟩
 ·refine jH c ?_;rw[iJ c];refine qX (qR rfl ?_);refine qm H1 .here rfl (by simp) rfl λh3 H3=>?_;refine qF H3 .here rfl omQ rfl<|qW ⟨rfl,H3.drop⟩
theorem Od {l:di} (hn:2≤n) (hp:0≤f.p.ay∧f.p.ay≤4) (H:HS g h (qw b (kI f)::R)):aE n 358 [.ptr b 0,.agg (zr l)] h λ_ h'=>HS g h' (qw b (kI (gA f l))::R):=by
 refine bj rfl omQ λk hk=>?_;unfold S358;try simp only[iZ]
 refine qP H rfl λb0 h1 H1=>?_;unfold kI y7 zr at H1;refine qK (qQ (qy H1 e_1 ⟨rfl,rfl⟩ aS λh2 H2=>?_));have H2:HS g h2 (qw b (kI { f with state:=0 })::qw b0 (zr l)::R):=H2;have H3:=H2;unfold kI y7 zr at H3;refine qY<|qQ (qZ ‹_› e_1 rfl ?_)
 unfold gA;obtain⟨w,d,o⟩:=l;cases d with
 |true=>
  rw[iJ rfl];refine qX (qK (qQ (qF H2 e_1 rfl omQ rfl ?_)));refine qG (UH omQ hp H2) ?_;rintro _ h4 ⟨rfl,H4⟩;cases hw:(jA f.p (w,true,o)).1 with
  |true=>rw[iJ rfl];refine jd (qJ (qx ?_));exact qW (H4.pk [0] 1)
  |false=>rw[iQ aS];have H5:=H4;unfold zr at H5;refine jo (qX (qK (qQ (qQ (qZ ‹_› e_1 rfl ?_)))));refine qG (w9 omQ H4) λ_ h5 H5=>?_;refine qx<|qW (H5.pk [0] 1)
 |false=>
  rw[iQ aS];refine qJ (qQ (qZ ‹_› e_1 rfl ?_));refine qK (qQ (qZ ‹_› .here rfl ?_));by_cases c:f.aa<w
  ·refine vr c ?_;rw[iJ c];refine qX (qK (qQ (qG (w9 omQ H2) λ_ h5 H5=>?_)));refine qx<|qW (H5.pk [0] 1)
  ·refine vE c ?_;rw[iQ c];refine qJ (qF H3 e_1 rfl omQ rfl ?_);refine qK (qQ (qm H3 .here rfl (by simp) rfl λh5 H5=>?_));refine qK (qQ (qy H5 .here ⟨rfl,rfl⟩ (by simp[JZ]) λh6 H6=>?_));refine qx<|qW (H6.pk [0] 1)
theorem qkL {a:cx} (hn:3≤n) (hp:U9 f.p) (H:HS g h (qw b (kI f)::R)):aE n 354 [.ptr b 0,.agg (xf a)] h λ_ h'=>HS g h' (qw b (kI (jE f a))::R):=by
 (refine qA rfl omQ λk hk=>?_;show wp (S354 (callT tab qz k) _ _ _) _;unfold S354;try simp only[iI,iZ])
 generalize hF:jE f a=F;refine qP H rfl λb0 h1 H1=>?_;refine zb [] (λ_ h'=>HS g h' (qw b (kI F)::R)) (λj hj=>?_) λ_ h' H'=>?_
 rotate_left
 ·refine qx<|qW H'
 refine qK (qQ (qF H1 .here rfl omQ rfl ?_));refine qG (YV omQ (H1.aM e_1)) ?_;rintro _ h2 ⟨rfl,H2⟩;unfold jE at hF;cases hs:(jV f.p a).1 with
 |true=>rw[iJ hs]at hF;refine qX<|hj _ _ (by rw[← hF];exact H2.pk [0] 1)
 |false=>
  rw[iQ (by grind)]at hF;have sF:(jV f.p a).2=f.p∧f.p.fin=0:=by
   unfold jV at hs ⊢
   grind
  rw[sF.1]at H2;have H3:HS g h2 (qw b (kI f)::qw b0 (xf a)::R):=H2;have H4:=H3;unfold kI y7 xf at H4;refine qJ (qK (qQ (qZ ‹_› .here rfl ?_)));by_cases c1:f.state=1
  ·refine qk c1 ?_;rw[iJ c1]at hF;refine qX (qQ (qZ ‹_› e_1 rfl ?_));refine qK (qQ (qy H4 .here ⟨rfl,rfl⟩ aS λh5 H5=>?_));refine qK (qQ (qy H5 .here ⟨rfl,rfl⟩ aS λh6 H6=>?_));exact hj _ _ (by rw[← hF];exact H6.pk [0] 1)
  refine qj c1 ?_;rw[iQ c1]at hF;refine qJ (qK (qQ (qZ ‹_› .here rfl ?_)));by_cases c2:f.state=2
  ·refine qk c2<|qY<|qd<|qQ ?_
   refine qF H4 e_1 rfl omQ rfl<|qK (qQ (qF H4 .here rfl omQ rfl ?_));refine qW2 (jXL _ _) (λc3=>?_) (λc3=>?_)
   ·rw[iJ ⟨c2,c3⟩]at hF;show wp (gt (.bool true) (.bool true) (.bool false) _) _;refine qE (qX (qK (qQ (qG (w9 omQ H3) λ_ h5 H5=>?_))));exact hj _ _ (by rw[← hF];exact H5.pk [0] 1)
   ·rw[iQ (λh=>c3 h.2)]at hF;refine qE (qJ (qQ (qF H4 e_1 rfl omQ rfl ?_)));refine qG (Od omQ (hp sF.2) H3) λ_ h5 H5=>?_;exact hj _ _ (by rw[← hF];exact H5.pk [0] 1)
  ·refine qj c2 ?_;rw[iQ (λh=>c2 h.1)]at hF;refine qY<|qb<|qI (qJ (qQ ?_))
   refine qF H4 e_1 rfl omQ rfl<|qG (Od omQ (hp sF.2) H3) λ_ h5 H5=>?_;exact hj _ _ (by rw[← hF];exact H5.pk [0] 1)
theorem Vv (hn:2≤n) (H:HS g h L) (s:bi L (qw b (kI f)) R):aE n 160 [.ptr b 0] h λr h'=>r=.int .i64 f.p.fin∧h'=h:=by
 refine aF rfl omQ λk hk=>?_;unfold S160;try simp only
 refine qK (qQ (qG (Yp omQ H s) ?_));rintro _ _ ⟨rfl,rfl⟩;exact qW ⟨rfl,rfl⟩
theorem jKN (hn:2≤n) (H:HS g h L) (s:bi L (qw b (kI f)) R):aE n 352 [.ptr b 0] h λr h'=>r=.int .i64 f.p.dj∧h'=h:=by
 refine aF rfl omQ λk hk=>?_;unfold S352;try simp only
 refine qK (qQ (qG (RQ omQ H s) ?_));rintro _ _ ⟨rfl,rfl⟩;exact qW ⟨rfl,rfl⟩
theorem qk3 (hn:3≤n) (H:HS g h L) (s:bi L (qw b (kI f)) R):aE n 164 [.ptr b 0] h λr h'=>r=.int .u64 (xm f)∧h'=h:=by
 refine aF rfl omQ λk hk=>?_;unfold S164;try simp only[iZ]
 refine qG (Vv omQ H s) ?_;rintro _ _ ⟨rfl,rfl⟩;unfold xm;by_cases c:f.p.fin=2
 ·refine jI c ?_;rw[iQ (λh=>h c)];refine qJ (qK (qQ ?_));exact qZ H s rfl (qW ⟨rfl,rfl⟩)
 ·refine jH c ?_;rw[iJ c];refine qX<|qW ⟨rfl,rfl⟩
def gX (x:zm):List AV:=[.int .i64 x.1,.int .u64 x.2]
theorem qx2 (hn:3≤n) (H:HS g h L) (s:bi L (qw b (kI f)) R):aE n 162 [.ptr b 0] h λr h'=>r=.agg (gX (xE f))∧HS g h' L:=by
 refine aF rfl omQ λk hk=>?_;unfold S162;try simp only[iZ]
 refine qP H rfl λb0 h1 H1=>?_;refine qG (Vv omQ H1 (.there s)) ?_;rintro _ _ ⟨rfl,rfl⟩;unfold xE;by_cases c:f.p.fin=2
 ·refine jI c ?_;rw[iQ (λh=>h c)];refine qJ (qK (qQ (qZ H1 (.there s) rfl ?_)));refine qK (qQ (qZ H1 (.there s) rfl ?_));refine qR rfl<|qm H1 .here rfl (by simp) rfl λh3 H3=>?_;refine qF H3 .here rfl omQ rfl<|qW ⟨rfl,H3.drop⟩
 ·refine jH c ?_;rw[iJ c];refine qX (qR rfl ?_);refine qm H1 .here rfl (by simp) rfl λh3 H3=>?_;refine qF H3 .here rfl omQ rfl<|qW ⟨rfl,H3.drop⟩
end
end
section
variable {g h:AH} {L R:List SP}
section
variable {n m:Nat} {v:AV} {xs:List AV}
theorem qzM (hn:1≤n) (H:HS g h L) (s:bi L (qB 22 1 m v xs) R) (ha:jY xs=true) (hm:m≤1000000) :
  aE n 85 [v] h λr h'=>HS g h' (qB 22 1 m r xs::L):=by
 refine aF rfl omQ λk hk=>?_;unfold S85;try simp only[iZ]
 refine XP H s (λh1 h2=>?_) (qJ ?_)
 ·subst h1 h2;obtain rfl:xs=[]:=iA (by simpa using H.dE s);exact qX (qW H.ak)
 ·refine qt (l:=[]) H rfl rfl rfl rfl λv2 h2 H2=>?_;refine zw H2 (H2.sl (.there s)) omQ omQ ha λv3 h3 H3=>?_;rw[Nat.zero_add,List.nil_append]at H3;exact qW H3
theorem Kq (hn:1≤n) (H:HS g h L) (s:bi L (qB 117 2 m v xs) R) (ha:jY xs=true) (hm:m≤1000000) :
  aE n 113 [v] h λr h'=>HS g h' (qB 117 2 m r xs::L):=by
 refine aF rfl omQ λk hk=>?_;unfold S113;try simp only[iZ]
 refine XP H s (λh1 h2=>?_) (qJ ?_)
 ·subst h1 h2;obtain rfl:xs=[]:=iA (by simpa using H.dE s);exact qX (qW H.ak)
 ·refine qt (l:=[]) H rfl rfl rfl rfl λv2 h2 H2=>?_;refine zw H2 (H2.sl (.there s)) omQ omQ ha λv3 h3 H3=>?_;rw[Nat.zero_add,List.nil_append]at H3;exact qW H3
end
theorem RS {f:Int→AV} (hf:∀x,(f x).one=true):∀l:List Int,jY (l.map f)=true:=by grind[jY,List.all_map,List.all_eq_true]
theorem YH {α:Type} {f:α→List AV} (hf:∀x,jY (f x)=true):∀l:List α,jY (l.flatMap f)=true:=by
 intro l
 induction l with
 |nil=>rfl
 |cons x l ih=>rw[List.flatMap_cons];unfold jY at*;grind
section
variable {n b m:Nat} {v wd:AV} {e:TypeId} {xs:List AV} {R2:List SP}
theorem jZ5 (hn:2≤n) (H:HS g h L) (s:bi L (qw b [v]) R) (s2:bi L (qB 22 1 m v xs) R2) (ha:jY xs=true) (hm:m≤1000000) :
  aE n 55 [.ptr b 0] h λr h'=>HS g h' (qB 22 1 m r xs::L):=by
 refine aF rfl omQ λk hk=>?_;unfold S55;try simp only
 refine qK (qQ (qZ H s rfl ?_));exact qG (qzM omQ H s2 ha hm) λ_ _ H1=>qW H1
end
section
variable {n p hb tb cb sb:Nat} {wv lv sv:AV} {S:jD} {M:zZ} {o:dC}
theorem cn.I1 {X:SP} (H:HS g h (X::B6 p hb tb cb sb wv lv sv S M R)):HS g h (X::cn p S M::R):=HS.cF e_1 (cn.I (HS.back (A:=B6 p hb tb cb sb wv lv sv S M []) H))
theorem qj3 (hn:3≤n) (hw:M.w.length≤1000000) (H:HS g h (cn p S M::R)) :
  aE n 31 [.ptr p 0] h λr h'=>HS g h' (qB 22 1 M.w.length r (M.w.map (.int .u64))::cn p S M::R):=by
 refine aF rfl omQ λk hk=>?_;unfold S31;try simp only
 obtain⟨hb,tb,cb,sb,wv,lv,sv,H⟩:=cn.E H;refine qK (qQ (qZ ‹_› .here rfl ?_));exact qG (jZ5 omQ H e_1 e_2 (RS (λ_=>rfl) _) hw) λ_ _ H1=>qW (cn.I1 H1)
theorem qw8 {b:Nat} {x:Int} (hn:1≤n) (H:HS g h L) (s:bi L (qw b [.int .u64 x]) R):aE n 65 [.ptr b 0] h λr h'=>r=.int .u64 x∧h'=h:=by
 refine aF rfl omQ λk hk=>?_;unfold S65;try simp only
 refine qK (qQ ?_);exact qZ H s rfl (qW ⟨rfl,rfl⟩)
theorem jJ4 {b:Nat} (hn:1≤n) (H:HS g h (qw b [.int .u64 M.n]::R)):aE n 66 [.ptr b 0,.int .u64 o.cI,.int .u64 o.word] h λr h'=>
  r=.bV [.bool (J9 M { o with kind:=7 }).1.done,.int .i64 (J9 M { o with kind:=7 }).1.err]∧HS g h' (qw b [.int .u64 (J9 M { o with kind:=7 }).2.n]::R):=by
 refine cX rfl omQ λk hk=>?_;unfold S66;try simp only[iZ]
 unfold J9;rw[iQ (show¬(7:Int)=6 by simp)];refine Qx (λc1=>?_) (λc1=>?_)
 ·rw[iJ c1];refine qX<|qW ⟨rfl,H⟩
 rw[iQ c1];refine qJ (vK (λc2=>?_) (λc2=>?_))
 ·rw[iJ (by grind)];refine qX<|qW ⟨rfl,H⟩
 rw[iQ (by grind)];refine qJ (qK (qQ (qZ ‹_› .here rfl ?_)));refine gI (λc3=>?_) (λc3=>?_)
 ·rw[iJ c3];refine qX<|qW ⟨rfl,H⟩
 ·rw[iQ (λh=>h c3)];refine qJ (qK (qQ (qy H .here ⟨rfl,rfl⟩ aS λh2 H2=>?_)));exact qW ⟨rfl,H2⟩
def yl (M:zZ) (o:dC):cx×zZ:=if o.kind=1∨o.kind=2 then Ku M o else if o.kind=3∨o.kind=4∨o.kind=5 then GE M o else if o.kind=6∨o.kind=7 then J9 M o else if o.kind=8∨o.kind=9 then uE M o else(lT 1,M)
theorem vM:qL M o=if(yl M o).1.err=0 then((yl M o).1,{ (yl M o).2 with bh:=(yl M o).2.bh+1 })else yl M o:=rfl
theorem qXb:(yl M o).2.bh=M.bh:=by
 grind[yl,Ku,GE,J9,uE]
theorem jK8 (hn:6≤n) (H:HS g h (cn p S M::R)) :
  aE n 40 [.ptr p 0,.agg (vZ o)] h λr h'=>r=.agg (xf (yl M o).1)∧HS g h' (cn p S (yl M o).2::R):=by
 refine bj rfl omQ λk hk=>?_;unfold S40;try simp only[iZ]
 generalize hr:yl M o=r;obtain⟨hb,tb,cb,sb,wv,lv,sv,H⟩:=cn.E H;refine qP H rfl λb0 h1 H1=>?_;refine qP H1 rfl λb1 h2 H2=>?_;refine qP H2 rfl λb2 h3 H3=>?_;unfold vZ at H3;refine qQ (qZ H3 e_2 rfl ?_);refine zb [] (λs h'=>s=(.ptr b2 0,.ptr b1 0,())∧HS g h' (qw b2 (xf r.1)::qw b1 (xf dS)::B6 p hb tb cb sb wv lv sv S r.2 R)) ?_ ?_
 rotate_left
 ·rintro s h4 ⟨rfl,H4⟩;refine qF H4 .here rfl omQ rfl<|qm H4 e_1 rfl (by trivial) rfl λh5 H5=>?_;refine qx (qF H5 .here rfl omQ rfl ?_);exact qW ⟨rfl,cn.I (H5.drop.drop)⟩
 intro j hj;by_cases k1:o.kind=1
 ·refine qk k1<|qX (qK (qQ (qZ ‹_› e_3 rfl ?_)));refine qQ (qZ ‹_› e_2 rfl ?_);have e:r=(⟨(if 1≤o.at_∧o.at_<M.w.length then qC M.w o.at_ else 0),bT,false,(if 1≤o.at_∧o.at_<M.w.length then 0 else 2)⟩,M):=by
   rw[← hr];unfold yl Ku lT;grind
  subst e;refine qG (qgm omQ H3 e_4 e_5) ?_;rintro _ _ ⟨rfl,rfl⟩;refine qD rfl<|qD rfl<|qQ (qy H3 .here ⟨rfl,rfl⟩ (by simp) λh4 H4=>?_);refine qQ (qy H4 .here ⟨rfl,rfl⟩ (by simp) λh5 H5=>?_);exact hj _ _ ⟨rfl,H5.pk [0,0] 1⟩
 refine qj k1<|qJ ?_;by_cases k2:o.kind=2
 ·refine qk k2<|qX (qK (qQ (qZ ‹_› e_3 rfl ?_)));refine qQ (qZ ‹_› e_2 rfl ?_);refine qQ (qZ ‹_› e_2 rfl ?_);have e:r=(⟨0,bT,false,(if 1≤o.at_∧o.at_<M.w.length then 0 else 2)⟩,{ M with w:=(if 1≤o.at_∧o.at_<M.w.length then M.w.set o.at_.toNat o.word else M.w) }):=by
   rw[← hr];unfold yl Ku lT;rw[iJ (.inr k2)];by_cases c:1≤o.at_∧o.at_<M.w.length
   ·rw[iQ omQ,iQ k1,iJ c,iJ c];rfl
   ·rw[iJ omQ,iQ c,iQ c]
  subst e;refine qG (qqU omQ (H3.pk [4,4] 0)) ?_;rintro _ h4 ⟨rfl,H4⟩;refine qQ (qy H4 e_2 ⟨rfl,rfl⟩ (by simp) λh5 H5=>?_);exact hj _ _ ⟨rfl,H5.pk [0,2,3,0,0] 1⟩
 refine qj k2<|qJ ?_;by_cases k3:o.kind=3
 ·refine qk k3<|qX (qK (qQ (qZ ‹_› e_3 rfl ?_)));refine qQ (qZ ‹_› e_2 rfl ?_);have e:r=(⟨0,(if 0≤o.at_∧o.at_<M.l.length then q8 M.l o.at_ else bT),false,(if 0≤o.at_∧o.at_<M.l.length then 0 else 2)⟩,M):=by
   rw[← hr];unfold yl GE lT;grind
  subst e;refine qG (qgr omQ H3 e_6 e_7) ?_;rintro _ h4 ⟨rfl,H4⟩;refine qD rfl<|qD rfl<|qQ (qm H4 .here rfl (by simp) rfl λh5 H5=>?_);refine qQ (qy H5 .here ⟨rfl,rfl⟩ (by show 5<6;omega) λh6 H6=>?_);exact hj _ _ ⟨rfl,H6.pk [0,0] 1⟩
 refine qj k3<|qJ ?_;by_cases k4:o.kind=4
 ·refine qk k4<|qX (qK (qQ (qZ ‹_› e_3 rfl ?_)));refine qQ (qZ ‹_› e_2 rfl ?_);refine qQ ?_;have e:r=(⟨0,bT,decide (Q7 M.l.length o.at_ o.lk=0∧q8 M.l o.at_=o.ax),Q7 M.l.length o.at_ o.lk⟩,{ M with l:=if Q7 M.l.length o.at_ o.lk=0∧q8 M.l o.at_=o.ax then M.l.set o.at_.toNat o.lk else M.l }):=by
   rw[← hr];unfold yl GE Q7 lT dS;rw[iQ omQ,iJ (.inr (.inl k4))];by_cases c:0≤o.at_∧o.at_<M.l.length
   ·rw[iQ omQ,iQ k3,iJ c];by_cases c2:wB o.lk
    ·rw[iQ (λh=>h c2),iQ omQ,iJ c2];split<;>simp_all
    simp_all
   ·rw[iJ omQ,iQ c,iV aS,iQ aS]
  subst e;refine qF H3 e_2 rfl omQ rfl<|qQ (qF H3 e_2 rfl omQ rfl ?_);refine qG (jZo omQ (H3.pk [6,6] 0)) ?_;rintro _ h4 ⟨rfl,H4⟩;refine qD rfl<|qD rfl<|qQ (qy H4 e_2 ⟨rfl,rfl⟩ (by simp) λh5 H5=>?_);refine qQ (qy H5 .here ⟨rfl,rfl⟩ (by simp) λh6 H6=>?_);exact hj _ _ ⟨rfl,H6.pk [0,2,3,3,3,0,0] 1⟩
 refine qj k4<|qJ ?_;by_cases k5:o.kind=5
 ·refine qk k5<|qX (qK (qQ (qZ ‹_› e_3 rfl ?_)));refine qQ (qZ ‹_› e_2 rfl ?_);refine qQ ?_;have e:r=(⟨0,bT,false,Q7 M.l.length o.at_ o.lk⟩,{ M with l:=if Q7 M.l.length o.at_ o.lk=0 then M.l.set o.at_.toNat o.lk else M.l }):=by
   rw[← hr];unfold yl GE Q7 lT dS;rw[iQ omQ,iJ (.inr (.inr k5))];by_cases c:0≤o.at_∧o.at_<M.l.length
   ·rw[iQ omQ,iQ k3,iJ c];split<;>simp_all
   ·rw[iJ omQ,iQ c,iQ od]
  subst e;refine qF H3 e_2 rfl omQ rfl<|qG (qzC omQ (H3.pk [6,6] 0)) ?_;rintro _ h4 ⟨rfl,H4⟩;refine qQ (qy H4 e_2 ⟨rfl,rfl⟩ (by simp) λh5 H5=>?_);exact hj _ _ ⟨rfl,H5.pk [0,2,3,3,3,0,0] 1⟩
 refine qj k5<|qJ ?_;by_cases k6:o.kind=6
 ·refine qk k6<|qX (qK (qQ (qZ ‹_› e_3 rfl ?_)));have e:r=(⟨M.n,bT,false,0⟩,M):=by
   rw[← hr];unfold yl J9;grind
  subst e;refine qG (qw8 omQ H3 e_8) ?_;rintro _ _ ⟨rfl,rfl⟩;refine qQ (qy H3 .here ⟨rfl,rfl⟩ (by simp) λh4 H4=>?_);exact hj _ _ ⟨rfl,H4.pk [0,0] 1⟩
 refine qj k6<|qJ ?_;by_cases k7:o.kind=7
 ·refine qk k7<|qX (qK (qQ (qZ ‹_› e_3 rfl ?_)));refine qQ (qZ ‹_› e_2 rfl ?_);refine qQ (qZ ‹_› e_2 rfl ?_);have e:r=(⟨0,bT,(J9 M { o with kind:=7 }).1.done,(J9 M { o with kind:=7 }).1.err⟩,{ M with n:=(J9 M { o with kind:=7 }).2.n }):=by
   rw[← hr];unfold yl J9 lT dS;rw[iQ omQ,iQ omQ,iJ (.inr k7),iQ k6,iQ (show¬(7:Int)=6 by simp)];dsimp only
   repeat' split
   all_goals rfl
  subst e;refine qG (jJ4 omQ (H3.pk [8] 0)) ?_;rintro _ h4 ⟨rfl,H4⟩;refine qD rfl<|qD rfl<|qQ (qy H4 e_1 ⟨rfl,rfl⟩ (by simp) λh5 H5=>?_);refine qQ (qy H5 .here ⟨rfl,rfl⟩ (by simp) λh6 H6=>?_);exact hj _ _ ⟨rfl,H6.pk [0,1,2,2,2,2,2,0] 1⟩
 refine qj k7<|qJ ?_;by_cases k8:o.kind=8
 ·refine qk k8<|qX (qK (qQ (qZ ‹_› e_3 rfl ?_)));refine qQ (qZ ‹_› e_2 rfl ?_);have e:r=(⟨(if 0≤o.at_∧o.at_<M.s.length then qC M.s o.at_ else 0),bT,false,(if 0≤o.at_∧o.at_<M.s.length then 0 else 2)⟩,M):=by
   rw[← hr];unfold yl uE lT;grind
  subst e;refine qG (qwl omQ H3 e_9 e_10) ?_;rintro _ _ ⟨rfl,rfl⟩;refine qD rfl<|qD rfl<|qQ (qy H3 .here ⟨rfl,rfl⟩ (by simp) λh4 H4=>?_);refine qQ (qy H4 .here ⟨rfl,rfl⟩ (by simp) λh5 H5=>?_);exact hj _ _ ⟨rfl,H5.pk [0,0] 1⟩
 refine qj k8<|qJ ?_;by_cases k9:o.kind=9
 ·refine qk k9<|qX (qK (qQ (qZ ‹_› e_3 rfl ?_)));refine qQ (qZ ‹_› e_2 rfl ?_);refine qQ (qZ ‹_› e_2 rfl ?_);have e:r=(⟨0,bT,false,(if 0≤o.at_∧o.at_<M.s.length then 0 else 2)⟩,{ M with s:=(if 0≤o.at_∧o.at_<M.s.length then M.s.set o.at_.toNat o.word else M.s) }):=by
   rw[← hr];unfold yl uE lT;rw[iQ omQ,iQ omQ,iQ omQ,iJ (.inr k9)];by_cases c:0≤o.at_∧o.at_<M.s.length
   ·rw[iQ omQ,iQ k8,iJ c,iJ c];rfl
   ·rw[iJ omQ,iQ c,iQ c]
  subst e;refine qG (qYs omQ (H3.pk [9,9] 0)) ?_;rintro _ h4 ⟨rfl,H4⟩;refine qQ (qy H4 e_2 ⟨rfl,rfl⟩ (by simp) λh5 H5=>?_);exact hj _ _ ⟨rfl,H5.pk [0,2,3,3,3,3,3,3,0,0] 1⟩
 refine qj k9<|qJ (qQ ?_);have e:r=(lT 1,M):=by rw[← hr];unfold yl;grind
 subst e;refine qy H3 .here ⟨rfl,rfl⟩ (by simp) λh4 H4=>?_;exact hj _ _ ⟨rfl,H4.pk [0,0] 1⟩
theorem qwR (hn:7≤n) (hc:0≤M.bh∧M.bh<1000000000) (H:HS g h (cn p S M::R)) :
  aE n 22 [.ptr p 0,.agg (vZ o)] h λr h'=>r=.agg (xf (qL M o).1)∧HS g h' (cn p S (qL M o).2::R):=by
 refine bj rfl omQ λk hk=>?_;unfold S22;try simp only[iZ]
 refine qP H rfl λb0 h1 H1=>?_;refine qP H1 rfl λb1 h2 H2=>?_;refine qF H2 e_1 rfl omQ rfl<|qG (jK8 omQ (H2.aM e_2)) ?_;rintro _ h3 ⟨rfl,H3⟩;have ec:(yl M o).2.bh=M.bh:=qXb;rw[vM];generalize yl M o=r at*;obtain⟨r,M'⟩:=r;dsimp only at ec H3 ⊢;refine qP H3 rfl λb2 h4 H4=>?_;refine qm H4 .here rfl (by simp) rfl λh5 H5=>?_;have H5:HS g h5 (qw b2 (xf r)::cn p S M'::qw b1 (xf dS)::qw b0 (vZ o)::R):=H5;clear H3 H4;have H6:=H5;unfold xf at H6;refine zb [] (λs h'=>s=(.ptr b2 0,.ptr b1 0,())∧HS g h' (qw b2 (xf r)::qw b1 (xf dS)::cn p S (if r.err=0 then(r,{ M' with bh:=M'.bh+1 })else(r,M')).2::R)) ?_ ?_
 rotate_left
 ·rintro s h4 ⟨rfl,H4⟩;refine qF H4 .here rfl omQ (l:=xf r) rfl<|qm H4 (b:=b1) e_1 rfl (by trivial) rfl λh5 H5=>?_;refine qx (qF H5 (b:=b1) (off:=0) .here rfl omQ (l:=xf r) rfl ?_);refine qW ⟨by grind,?_⟩;exact H5.drop.drop
 intro j hj;refine qQ (qZ ‹_› .here rfl ?_);by_cases c:r.err=0
 ·refine qk c ?_;rw[iJ c]at hj ⊢;refine qX (qK (qQ ?_));obtain⟨hb,tb,cb,sb,wv,lv,sv,H7⟩:=cn.E (H5.aM e_1);refine qZ ‹_› .here rfl<|qi omQ<|qK (qQ (qy H7 (b:=p) .here ⟨rfl,rfl⟩ (by simp) λh8 H8=>?_));have H9:HS g h8 (cn p S { M' with bh:=M'.bh+1 }::_):=cn.I (hb:=hb) (tb:=tb) (cb:=cb) (sb:=sb) (wv:=wv) (lv:=lv) (sv:=sv) H8;exact hj _ _ ⟨rfl,H9.pk [1,1,0] 1⟩
 ·refine qj c ?_;rw[iQ c]at hj ⊢;refine qJ<|hj _ _ ⟨rfl,H5.pk [0,1,0] 1⟩
end
end
section
variable {g h:AH} {L R:List SP}
theorem qvO:∀{a b:List Int},a.Pairwise (· < ·)→b.Pairwise (· < ·)→(∀x,x∈a↔x∈b)→a=b:=by
 intro a
 induction a with
 |nil=>
  intro b _ _ h;cases b with
  |nil=>rfl
  |cons y b=>have:=(h y).2 (iK ..);grind
 |cons x a ih=>
  intro b ha hb h;cases b with
  |nil=>grind
  |cons y b=>
   have uf:=List.pairwise_cons.1 ha;have bJ:=List.pairwise_cons.1 hb;have e:x=y:=by
    rcases List.mem_cons.1 ((h x).1 (iK ..))with e |e
    ·grind
    ·rcases List.mem_cons.1 ((h y).2 (iK ..))with e2 |e2
     all_goals grind
   grind
theorem qYM {d:Array Int} (hs:∀i j,i≤j→j<d.size→d[i]! ≤d[j]!):∀m,m≤d.size→(Lib.compactUpTo d m).Pairwise (· < ·)∧∀x,x∈Lib.compactUpTo d m↔∃j,j<m∧d[j]! =x:=by
 intro m
 induction m with
 |zero=>intro _;exact⟨List.Pairwise.nil,λx=>⟨(nofun),λ⟨j,h,_⟩=>by omega⟩⟩
 |succ m ih=>
  intro hm;obtain⟨p,q⟩:=ih omQ;rw[Lib.compactUpTo_succ];by_cases hk:Lib.keeps d m=true
  ·rw[iJ hk];refine⟨?_,λx=>?_⟩
   ·rw[List.pairwise_append];refine⟨p,List.pairwise_singleton ..,λa ha b hb=>?_⟩;rw[List.mem_singleton]at hb;subst hb;obtain⟨j,hj,rfl⟩:=(q a).1 ha;have h1:=hs j (m-1) omQ omQ;have h2:=hs (m-1) m omQ omQ;have h3:d[m]! ≠d[m-1]!:=by
     intro e;rw[Lib.keeps_neg omQ e]at hk;grind
    omega
   grind
  ·rw[iQ hk,List.append_nil];refine⟨p,λx=>?_⟩;rw[q x];refine⟨λ⟨j,hj,e⟩=>⟨j,by omega,e⟩,λ⟨j,hj,e⟩=>?_⟩;by_cases lh:j=m
   ·subst lh;have h0:0<j:=by
     rcases Nat.eq_zero_or_pos j with h |h
     ·simp_all[Lib.keeps_lt_one,omQ]
     grind
    refine⟨j-1,by omega,?_⟩;refine Decidable.byContradiction λcg=>hk (Lib.keeps_pos λh=>cg ?_);grind
   grind
theorem jZD {zs:List Int} (h:zs.Pairwise (· ≤ ·)):(Lib.compact zs).Pairwise (· < ·)∧∀x,x∈Lib.compact zs↔x∈zs:=by
 have hg:∀i:Nat,i<zs.length→zs.toArray[i]! =zs[i]!:=λi hi=>by simp
 obtain⟨p,q⟩:=qYM (d:=zs.toArray) (λi j p8 hj=>by
  have hj:j<zs.length:=by grind
  rw[hg i omQ,hg j hj,getElem!_pos zs i omQ,getElem!_pos zs j hj];by_cases e:i=j
  ·grind
  ·exact List.pairwise_iff_getElem.1 h i j omQ hj omQ) zs.length aS
 refine⟨p,λx=>?_⟩;refine(q x).trans ⟨λ⟨j,hj,e⟩=>?_,λhx=>?_⟩
 ·grind
 ·obtain⟨j,hj,e⟩:=List.mem_iff_getElem.1 hx;grind
theorem qXR {p n w:Int} (h:0≤p):0≤ofM p n w∧ofM p n w<16:=by unfold ofM;rw[iQ omQ];have h1:=Int.emod_nonneg (p/max 1 (min w 16)) (show max 1 (min n 16)≠0 by omega);have h2:=Int.emod_lt_of_pos (p/max 1 (min w 16)) (show 0<max 1 (min n 16) by omega);omega
theorem Kn {cs:List Cl} {n w:Int}:(x9 cs n w).Pairwise (· < ·):=by unfold x9;refine List.Pairwise.filter _ ?_;trivial
theorem Jn {cs:List Cl} {n w:Int} (h:∀c∈cs,0≤c.1) {x:Int}:x∈x9 cs n w↔x∈cs.map λc=>ofM c.1 n w:=by unfold x9;rw[List.mem_filter,List.any_eq_true,List.mem_map,List.mem_map];refine⟨λ⟨_,c,hc,e⟩=>⟨c,hc,by grind⟩,λ⟨c,hc,e⟩=>⟨?_,c,hc,by grind⟩⟩;have:=qXR (n:=n) (w:=w) (h c hc);exact⟨x.toNat,List.mem_range.2 omQ,by omega⟩
theorem qKm {cs:List Cl} {n w:Int} (h:∀c∈cs,0≤c.1):Lib.compact (JY (cs.map λc=>ofM c.1 n w))=x9 cs n w:=by obtain⟨p,q⟩:=jZD (GT (cs.map λc=>ofM c.1 n w));grind[qvO,Kn,Yk,Jn]
section
variable {n m:Nat} {v:AV} {zs:List Int}
theorem qwa {e:TypeId} (hn:1≤n) (H:HS g h (qB e 1 m v (zs.map (.int .i64))::R)) (h0:0<m) (hm:m≤1000000) :
  aE n 158 [v] h λ_ h'=>HS g h' (qB e 1 m v ((JY zs).map (.int .i64))::R):=by
 have hl:zs.length=m:=by have:=H.dE .here;grind
 obtain⟨b,cp,o,ys,rfl,HC,q1,q2,q3⟩:=H.E6 h0;rw[Nat.mul_one]at q1 q2;refine qA (g:=W158) rfl omQ λk hk=>?_;show wp (Fp _ [.slice b 0 m cp o] h) _;obtain⟨D,⟨hD,A⟩,eP,kk⟩:=HC.act;obtain⟨c,c1,c2,c3⟩:=A.bp;unfold Fp;simp only[c1,c2];rw[q2,Zr];simp only[];rw[show Nat.beq zs.length m=true from by simp_all,iY hm];simp;refine⟨_,_,rfl,?_⟩;have RU:=kk _ (Cell b ((JY zs).map (.int .i64)++ys.drop m) e o) D ⟨by simp,λa ha hn=>AH.bw h _ λe=>hn ((hD a).2 e.symm)⟩ ⟨hD,by simp_all,CT.ofList _,AH.aV ..,CT.aL _,CT.bC _⟩ λa ha=>⟨.inl ha,by simp_all⟩;have hlen:((JY zs).map (AV.int .i64)).length=m:=by rw[List.length_map,NO,hl]
 have:=HS.E7 (n:=m) (sz:=1) (cp:=cp) RU (by grind) (by
  grind)
 grind
theorem qv3 (hn:1≤n) (H:HS g h (qB 3 1 m v (zs.map (.int .i64))::R)) (h0:0<m) (hm:m≤1000000) :
  aE n 159 [v] h λr h'=>HS g h' (qB 3 1 (Lib.compact zs).length r ((Lib.compact zs).map (.int .i64))::R):=by
 have hl:zs.length=m:=by have:=H.dE .here;grind
 obtain⟨b,cp,o,ys,rfl,HC,q1,q2,q3⟩:=H.E6 h0;rw[Nat.mul_one]at q1 q2;refine qA rfl omQ λk hk=>?_;show wp (Fq 3 _ [.slice b 0 m cp o] h) _;obtain⟨D,⟨hD,A⟩,eP,kk⟩:=HC.act;obtain⟨c,c1,c2,c3⟩:=A.bp;have hle:=qGu zs;unfold Fq;simp only[c1,c2];rw[q2,Zr];simp only[];have hc:(Nat.beq zs.length m&&(Nat.ble m 1000000&&(bif o then Nat.beq cp 0&&(o&&Nat.beq 3 3)else Nat.ble m cp)))=true:=by
  rw[show Nat.beq zs.length m=true from by simp_all,iY hm];cases o with
  |true=>simp_all
  |false=>simp_all
 rw[hc];simp only[cond_true];refine⟨_,_,rfl,?_⟩;have RU:=kk _ (Cell b ((Lib.compact zs++List.replicate (zs.length-(Lib.compact zs).length) 0).map (.int .i64)++ys.drop m) 3 o) D ⟨by simp,λa ha hn=>AH.bw h _ λe=>hn ((hD a).2 e.symm)⟩ ⟨hD,by simp_all,CT.ofList _,AH.aV ..,CT.aL _,CT.bC _⟩ λa ha=>⟨.inl ha,by simp_all⟩;have hlen:((Lib.compact zs++List.replicate (zs.length-(Lib.compact zs).length) 0).map (AV.int .i64)).length=m:=by grind
 have:=HS.E7 (n:=(Lib.compact zs).length) (sz:=1) (cp:=cp) RU (by simp) (by
  grind)
 grind
theorem qwf:∀{l:List Int},l.Pairwise (· ≤ ·)→Mh l=true:=by
 intro l
 induction l with
 |nil=>trivial
 |cons x r ih=>
  intro h;cases r with
  |nil=>rfl
  |cons y r=>simp_all[List.pairwise_cons,Mh,iG]
theorem qyE {e:TypeId} {x:Int} (hn:1≤n) (H:HS g h L) (s:bi L (qB e 1 m v (zs.map (.int .i64))) R) (h0:0<m) (hm:m≤1000000) (hs:zs.Pairwise (· ≤ ·)) :
  aE n 376 [v,.int .i64 x] h λr h'=>r=.bV [.int .i64 (zs.countP (· <x):Nat),.bool (zs.contains x)]∧h'=h:=by
 have hl:zs.length=m:=by have:=H.dE s;grind
 obtain⟨b,cp,o,ys,rfl,HC,q1,q2,q3⟩:=(H.aM s).E6 h0;rw[Nat.mul_one]at q1 q2;refine qA rfl omQ λk hk=>?_;show wp (Fs _ [.slice b 0 m cp o,.int .i64 x] h) _;obtain⟨D,⟨hD,A⟩,eP,kk⟩:=HC.act;obtain⟨c,c1,c2,c3⟩:=A.bp;unfold Fs;simp only[c1,c2];rw[q2,Zr];simp only[];rw[show Nat.beq zs.length m=true from by simp_all,iY hm,qwf hs];exact⟨_,_,rfl,rfl,rfl⟩
end
theorem VS {n:Nat} {a b:Int} (hn:1≤n):aE n 59 [.int .i64 a,.int .i64 b] h λr h'=>r=.int .i64 (max 1 (min a b))∧h'=h:=by
 refine bj rfl omQ λk hk=>?_;unfold S59;try simp only[iZ]
 refine zt (xg ?_);exact qW ⟨rfl,rfl⟩
theorem qxL {n:Nat} {p a w:Int} (hn:2≤n) (hp:p<4611686018427387904):aE n 126 [.int .i64 p,.int .i64 a,.int .i64 w] h λr h'=>r=.int .i64 (ofM p a w)∧h'=h:=by
 refine cX rfl omQ λk hk=>?_;unfold S126;try simp only[iZ]
 unfold ofM;by_cases c:p<0
 ·refine jt c ?_;rw[iJ c];refine qX<|qW ⟨rfl,rfl⟩
 ·refine jP c ?_;rw[iQ c];refine qJ (qG (VS omQ) ?_);rintro _ _ ⟨rfl,rfl⟩;refine WR omQ ?_;have h1:p.tdiv (max 1 (min w ((16:Nat):Int)))=p/max 1 (min w 16):=Int.tdiv_eq_ediv_of_nonneg omQ;have h2:0≤p/max 1 (min w 16):=Int.ediv_nonneg omQ omQ;have h3:p/max 1 (min w 16)≤p:=Int.ediv_le_self _ omQ;rw[h1,EZ omQ];refine qG (VS omQ) ?_;rintro _ _ ⟨rfl,rfl⟩;refine ka omQ ?_;rw[Int.tmod_eq_emod_of_nonneg h2];exact qW ⟨rfl,rfl⟩
theorem qGR {n:Nat} {cv:AV} {cs:List Cl} {a w:Int} (hn:4≤n) (H:HS g h R) (S:Rd g R 2 cs.length cv (cs.flatMap zz)) (h0:0<cs.length) (hl:cs.length≤1000) (hc:∀c∈cs,0≤c.1∧c.1<100000) :
  aE n 130 [cv,.int .i64 a,.int .i64 w] h λr h'=>HS g h' (qB 3 1 (x9 cs a w).length r ((x9 cs a w).map (.int .i64))::R):=by
 refine cX (S:=S130) rfl omQ λk hk=>?_;unfold S130;try simp only[iZ]
 have IJ:=(S.sl H).ul;refine vX ‹_›<|zQ (λm s h'=>∃(i:Nat) (v:AV),s=(.int .i64 (i:Int),.int .i64 (cs.length:Int),cv,v,.int .i64 w,.int .i64 a,())∧i≤cs.length∧m=cs.length-i∧
  HS g h' (qB 3 1 i v (((cs.take i).map λc=>ofM c.1 a w).map (.int .i64))::R))
  ?_ (m:=cs.length) (by grind) ⟨0,.ak,rfl,by omega,by rfl,H.ak⟩
 clear H IJ;rintro m ih s h2 bQ ⟨i,v,rfl,hi,rfl,H⟩;by_cases aw:i<cs.length
 ·refine jt omQ (qX ?_);have tH:=hc _ (List.getElem_mem aw);have hr:=qXR (n:=a) (w:=w) tH.1;refine qY ?_
  try dsimp only
  refine xV (l:=zz cs[i]) (S.sl H.drop) aw omQ (gF (sz:=2) (enc:=zz) (λ_=>rfl) (iW aw))<|qP H rfl λb h3 H3=>?_;refine qm H3 (b:=b) .here rfl (by simp) rfl λh4 H4=>?_;have H4:HS g h4 (qw b [.int .i64 cs[i].1,.int .u64 cs[i].2]::qB 3 1 i v (((cs.take i).map λc=>ofM c.1 a w).map (.int .i64))::R):=H4;refine qQ (qZ ‹_› .here rfl ?_);refine qG (qxL omQ omQ) ?_;rintro _ _ ⟨rfl,rfl⟩;refine z7 omQ (qX ?_);refine qt (n:=1) (l:=[.int .i64 (ofM cs[i].1 a w)]) (sz:=1) H4 rfl rfl rfl rfl λv2 h5 H5=>?_;refine zw (H5.aM e_2) (H5.sl .here) omQ omQ rfl λv3 h6 H6=>?_;refine qi omQ<|bQ (cs.length-(i+1)) _ _ omQ ⟨i+1,v3,rfl,by omega,rfl,?_⟩;have e:(cs.take (i+1)).map (λc=>ofM c.1 a w)=(cs.take i).map (λc=>ofM c.1 a w)++[ofM cs[i].1 a w]:=by rw[List.take_add_one,iW aw,List.map_append];rfl
  rw[e,List.map_append];exact H6.sub (.cons .here (.drop (.drop .refl)))
 ·obtain rfl:i=cs.length:=by omega
  refine jP omQ (qJ ?_);rw[List.take_of_length_le (Nat.le_refl _)]at H;refine qG (qwa omQ H h0 omQ) λ_ h3 H3=>?_;refine qG (qv3 omQ H3 h0 omQ) λr h4 H4=>?_;rw[qKm λc bE=>(hc c bE).1]at H4;refine qx<|qW H4
end
section
variable {g h:AH} {L R:List SP}
theorem qJM {l:List zm} {k:Nat} (hk:k<l.length):((l.flatMap gX).drop (k*2)).take 2=gX (jf l (k:Int)):=gF (enc:=gX) (λ_=>rfl) (by simp_all[jf,Int.toNat_natCast])
theorem J8 {l:List zm} {k:Nat} (hk:k<l.length):(l.flatMap gX)[k*2+0]? =some (.int .i64 (jf l (k:Int)).1)∧(l.flatMap gX)[k*2+1]? =some (.int .u64 (jf l (k:Int)).2):=by
 have e:=qJM hk;have hl:(l.flatMap gX).length=l.length*2:=KM gX (λ_=>rfl) (l:=l);constructor
 ·have:=congrArg (·[0]?) e;simp only[List.getElem?_take_of_lt (show 0<2 by omega),List.getElem?_drop]at this;trivial
 ·have:=congrArg (·[1]?) e;simp only[List.getElem?_take_of_lt (show 1<2 by omega),List.getElem?_drop]at this;trivial
def cu (b:Nat) (r:List zm):SP:=.ex λsv=>.all [qw b [.int .i64 16,sv],qB 117 2 r.length sv (r.flatMap gX)]
section
variable {n b:Nat} {r:List zm} {x:zm}
theorem cu.E (H:HS g h (cu b r::R)):∃sv,HS g h (qw b [.int .i64 16,sv]::qB 117 2 r.length sv (r.flatMap gX)::R):=by obtain⟨sv,H⟩:=H.eU;exact⟨sv,H.cG⟩
theorem cu.I {sv:AV} (H:HS g h (qw b [.int .i64 16,sv]::qB 117 2 r.length sv (r.flatMap gX)::R)):HS g h (cu b r::R):=HS.fB sv H.allI
theorem jJa (hn:1≤n) (H:HS g h R):aE n 118 [.int .i64 ((16:Nat):Int)] h λv h'=>∃b,v=.ptr b 0∧HS g h' (cu b []::R):=by
 refine aF rfl omQ λk hk=>?_;unfold S118;try simp only[iZ]
 refine zt (xg (qR rfl ?_));refine qP H rfl λb h1 H1=>qW ⟨b,rfl,cu.I (sv:=.ak) ?_⟩;have:=(H1.ak (e:=117) (sz:=2));exact this.pk [1,0] 0
theorem jJ3 {r:List zm} {i:Nat} {st:Int} {y:zm} (hb:∀z∈r.take i,z.1≠st) (hi:r[i]? =some y) (hy:y.1=st):r.find? (λz=>decide (z.1=st))=some y:=by
 obtain⟨aw,e⟩:=List.getElem?_eq_some_iff.1 hi;have h1:(r.take i).find? (λz=>decide (z.1=st))=none:=List.find?_eq_none.2 λz hz=>by grind
 have h2:r=r.take i++y::r.drop (i+1):=by grind[List.drop_eq_getElem_cons,List.take_append_drop]
 grind
theorem jJM {st:Int} (hn:1≤n) (hr:r.length≤1000) (H:HS g h (cu b r::R)) :
  aE n 191 [.ptr b 0,.int .i64 st] h λv h'=>v=.bV [.int .u64 ((r.find? λz=>decide (z.1=st)).getD (0,0)).2,.bool (r.find? λz=>decide (z.1=st)).isSome]∧HS g h' (cu b r::R):=by
 refine bj (S:=S191) rfl omQ λk hk=>?_;unfold S191;try simp only[iZ]
 obtain⟨sv,H⟩:=cu.E H;refine qK (qQ (qZ ‹_› .here rfl ?_));refine jQ ‹_› e_1<|zQ (λm s h'=>∃i:Nat,s=(.int .i64 (i:Int),.int .i64 (r.length:Int),sv,.int .i64 st,())∧i≤r.length∧m=r.length-i∧(∀z∈r.take i,z.1≠st)∧HS g h' (qw b [.int .i64 16,sv]::qB 117 2 r.length sv (r.flatMap gX)::R))
  ?_ (m:=r.length) (by grind) ⟨0,rfl,by omega,by rfl,by simp,H⟩
 rintro m ih s h2 bQ ⟨i,rfl,hi,rfl,hb,H⟩;by_cases aw:i<r.length
 ·refine jt omQ (qX ?_);refine xV (H.sl e_1) aw omQ (qJM aw)<|qP H rfl λc h3 H3=>?_;refine qm H3 .here rfl (by simp) rfl λh4 H4=>?_;have hg:r[i]? =some (jf r i):=by unfold jf;grind
  refine qQ (qZ ‹_› .here rfl ?_);by_cases hy:(jf r i).1=st
  ·refine qk hy<|qX (qQ (qZ ‹_› .here rfl ?_));refine qx ?_;rw[jJ3 hb hg hy];exact qW ⟨rfl,cu.I H4.drop⟩
  ·refine qj hy<|qJ (qi omQ ?_);refine bQ (r.length-(i+1)) _ _ omQ ⟨i+1,rfl,by omega,rfl,?_,H4.drop⟩;intro z hz;rw[List.take_add_one,hg]at hz;grind
 ·obtain rfl:i=r.length:=by omega
  refine jP omQ (qJ ?_);rw[List.take_of_length_le (Nat.le_refl _)]at hb;rw[List.find?_eq_none.2 λz hz=>by grind];refine qx<|qW ⟨rfl,cu.I H⟩
theorem jJs (hn:2≤n) (hr:r.length≤16) (H:HS g h (cu b r::R)) :
  aE n 161 [.ptr b 0,.agg (gX x)] h λv h'=>v=.int .i64 (vw r x).1∧HS g h' (cu b (vw r x).2::R):=by
 refine bj rfl omQ λk hk=>?_;unfold S161;try simp only[iZ]
 generalize hA:vw r x=A;refine qP H rfl λb0 h1 H1=>?_;unfold vw at hA;refine qQ (qZ ‹_› .here rfl ?_);by_cases c1:x.1<0
 ·refine jt c1<|qY<|jC<|qE (qY ?_);refine jC<|qE (qX ?_)
  rw[iJ (.inl c1)]at hA;subst hA;exact qW ⟨rfl,H1.drop⟩
 refine jP c1<|qY<|qo<|qQ (qZ ‹_› .here rfl ?_)
 by_cases c2:16≤x.1
 ·refine z7 omQ<|qI (qY ?_);refine jC<|qE (qX ?_)
  rw[iJ (.inr (.inl c2))]at hA;subst hA;exact qW ⟨rfl,H1.drop⟩
 refine zn omQ<|qI (qY ?_);refine qo<|qQ (qZ ‹_› .here rfl ?_)
 by_cases c3:4611686018427387904≤x.2
 ·refine z7 omQ<|qI (qX ?_);rw[iJ (.inr (.inr c3))]at hA;subst hA;exact qW ⟨rfl,H1.drop⟩
 refine zn omQ<|qI (qJ (qQ (qZ ‹_› .here rfl ?_)));rw[iQ omQ]at hA;refine qG (jJM omQ omQ (H1.aM e_1)) ?_;rintro _ h2 ⟨rfl,H2⟩;have H3:=H2.aM e_1;refine qD rfl<|qD rfl ?_;cases hf:r.find? λz=>decide (z.1=x.1)with
 |some y=>
  rw[hf]at hA;dsimp only at hA;refine qX (qQ (qZ ‹_› .here rfl ?_));by_cases c4:y.2=x.2
  ·refine jI c4 ?_;rw[iQ (λh=>h c4)]at hA;subst hA;refine qJ<|qW ⟨rfl,H3.drop⟩
  ·refine jH c4 ?_;rw[iJ c4]at hA;subst hA;refine qX<|qW ⟨rfl,H3.drop⟩
 |none=>
  rw[hf]at hA;dsimp only at hA;refine qJ ?_;obtain⟨sv,H4⟩:=cu.E H2;refine qK (qQ (qZ ‹_› .here rfl ?_));refine jQ ‹_› e_1<|qK (qQ (qZ ‹_› .here rfl ?_));by_cases c4:r.length=16
  ·refine qk omQ ?_;rw[iJ c4]at hA;subst hA;refine qX<|qW ⟨rfl,H3.drop⟩
  ·refine qj omQ ?_;rw[iQ c4]at hA;subst hA;refine qJ (qK (qQ (qZ ‹_› .here rfl ?_)));refine qF H4 e_2 rfl omQ rfl<|qt H4 rfl rfl rfl rfl λv2 h5 H5=>?_;refine zw (H5.aM e_2) (H5.sl .here) omQ omQ rfl λv3 h6 H6=>?_;have o6:=H6.one .here;refine qK (qQ (qy H6 e_2 o6 aS λh7 H7=>?_));refine qW ⟨rfl,cu.I (sv:=v3) ?_⟩;rw[List.length_append,List.flatMap_append];exact H7.pk [0,0] 2
theorem RV (hn:2≤n) (hr:r.length≤1000) (H:HS g h (cu b r::R)):aE n 84 [.ptr b 0] h λv h'=>HS g h' (qB 117 2 r.length v (r.flatMap gX)::cu b r::R):=by
 refine aF rfl omQ λk hk=>?_;unfold S84;try simp only
 obtain⟨sv,H⟩:=cu.E H;refine qK (qQ (qZ ‹_› .here rfl ?_));refine qG (Kq omQ H e_1 (YH (λ_=>rfl) _) omQ) λv h1 H1=>qW<|HS.cF e_1 (cu.I (sv:=sv) (H1.pk [1,1,0] 0))
end
def MW (x:kc) (sv:AV):List AV:=y7 x.p [sv,.bool x.bD,.int .i64 x.at_,.int .u64 x.aa]
def cw (b:Nat) (x:kc):SP:=.ex λsv=>.all [qw b (MW x sv),qB 117 2 x.seen.length sv (x.seen.flatMap gX)]
structure Vd (x:kc):Prop where
  p:U9 x.p
  lo:0≤x.at_
  hi:x.at_≤1000
  len:x.seen.length≤16
  le:x.at_≤x.seen.length
  lU:x.p.fin=0→x.bD=true→x.at_<x.seen.length
section
variable {n b:Nat} {x:kc}
theorem cw.E (H:HS g h (cw b x::R)):∃sv,HS g h (qw b (MW x sv)::qB 117 2 x.seen.length sv (x.seen.flatMap gX)::R):=by obtain⟨sv,H⟩:=H.eU;exact⟨sv,H.cG⟩
theorem cw.I {sv:AV} (H:HS g h (qw b (MW x sv)::qB 117 2 x.seen.length sv (x.seen.flatMap gX)::R)):HS g h (cw b x::R):=HS.fB sv H.allI
theorem qyp {me sp:Int} {v:AV} {r:List zm} (hn:2≤n) (hr:r.length≤1000) (H:HS g h (qB 117 2 r.length v (r.flatMap gX)::R)) :
  aE n 127 [.int .i64 me,.int .i64 sp,v] h λv h'=>∃b,v=.ptr b 0∧HS g h' (cw b (uF me sp r)::R):=by
 refine cX rfl omQ λk hk=>?_;unfold S127;try simp only[iZ]
 refine qG (RP omQ H) ?_;rintro _ h1 ⟨rfl,H1⟩;refine qG (Kq omQ H1 .here (YH (λ_=>rfl) _) omQ) λv h2 H2=>?_;unfold y7;have o2:=H2.one .here;refine qR (by simp only[vj,o2.1];rfl)<|qP H2 (by show jY [_,_,_,_,_,v,_,_,_]=true;simp only[jY,List.all_cons,o2.2];rfl) λb h3 H3=>qW ⟨b,rfl,?_⟩;exact cw.I (sv:=v) (H3.pk [0,0] 1)
theorem qWI (hn:2≤n) {sv:AV} (H:HS g h L) (s:bi L (qw b (MW x sv)) R):aE n 165 [.ptr b 0] h λr h'=>r=.int .i64 x.p.fin∧h'=h:=by
 refine aF rfl omQ λk hk=>?_;unfold S165;try simp only
 refine qK (qQ (qG (Yp omQ H s) ?_));rintro _ _ ⟨rfl,rfl⟩;exact qW ⟨rfl,rfl⟩
theorem jKo (hn:2≤n) {sv:AV} (H:HS g h L) (s:bi L (qw b (MW x sv)) R):aE n 360 [.ptr b 0] h λr h'=>r=.int .i64 x.p.dj∧h'=h:=by
 refine aF rfl omQ λk hk=>?_;unfold S360;try simp only
 refine qK (qQ (qG (RQ omQ H s) ?_));rintro _ _ ⟨rfl,rfl⟩;exact qW ⟨rfl,rfl⟩
theorem OZ (hn:3≤n) {sv:AV} (H:HS g h L) (s:bi L (qw b (MW x sv)) R):aE n 133 [.ptr b 0] h λr h'=>r=.int .u64 (yC x)∧h'=h:=by
 refine aF rfl omQ λk hk=>?_;unfold S133;try simp only[iZ]
 refine qG (qWI omQ H s) ?_;rintro _ _ ⟨rfl,rfl⟩;unfold yC;by_cases c:x.p.fin=2
 ·refine jI c ?_;rw[iQ (λh=>h c)];refine qJ (qK (qQ ?_));exact qZ H s rfl (qW ⟨rfl,rfl⟩)
 ·refine jH c ?_;rw[iJ c];refine qX<|qW ⟨rfl,rfl⟩
theorem qxc (hn:2≤n) (O:Vd x) (H:HS g h (cw b x::R)):aE n 361 [.ptr b 0] h λr h'=>r=tK (GK x)∧HS g h' (cw b x::R):=by
 refine aF rfl omQ λk hk=>?_;unfold S361;try simp only[iZ]
 obtain⟨sv,H⟩:=cw.E H;refine qP H rfl λb0 h1 H1=>?_;refine qK (qQ (qG (Yp omQ H1 e_1) ?_));rintro _ _ ⟨rfl,rfl⟩;unfold GK;have H2:=H1;unfold MW y7 at H2;by_cases c:x.p.fin=0
 ·refine jI c ?_;rw[iQ (λh=>h c)];refine qJ (qK (qQ (qZ ‹_› e_1 rfl ?_)));cases hl:x.bD with
  |false=>rw[iJ rfl];refine jo (qX (qR rfl ?_));refine qm H1 .here rfl (by simp) rfl λh3 H3=>?_;refine qF H3 .here rfl omQ rfl<|qW ⟨rfl,cw.I H3.drop⟩
  |true=>rw[iQ aS];refine jd (qJ (qK (qQ (qZ ‹_› e_1 rfl ?_))));refine qK (qQ (qZ ‹_› e_1 rfl ?_));have eI:=O.lU c hl;have dB:=O.lo;obtain⟨k,hk⟩:∃k:Nat,x.at_=k:=⟨x.at_.toNat,by omega⟩;rw[hk]at eI ⊢;refine vF (H1.sl e_2) omQ omQ (J8 omQ).1<|qR rfl<|qm H1 .here rfl (by simp) rfl λh3 H3=>?_;refine qF H3 .here rfl omQ rfl<|qW ⟨rfl,cw.I H3.drop⟩
 ·refine jH c ?_;rw[iJ c];refine qX (qR rfl ?_);refine qm H1 .here rfl (by simp) rfl λh3 H3=>?_;refine qF H3 .here rfl omQ rfl<|qW ⟨rfl,cw.I H3.drop⟩
theorem YR {p:Xa} {a:cx} (hs:(jV p a).1=false):(jV p a).2=p∧p.fin=0:=by
 unfold jV at hs ⊢
 grind
theorem qkU {a:cx} (hn:3≤n) (O:Vd x) (H:HS g h (cw b x::R)):aE n 362 [.ptr b 0,.agg (xf a)] h λ_ h'=>HS g h' (cw b (je x a)::R):=by
 refine bj rfl omQ λk hk=>?_;unfold S362;try simp only[iZ]
 generalize hF:je x a=F;obtain⟨sv,H⟩:=cw.E H;refine qP H rfl λb0 h1 H1=>?_;refine zb [] (λs h'=>s=(.ptr b 0,())∧∃y,F=Qa y∧y.seen.length≤16∧HS g h' (cw b y::R)) (λj hj=>?_) ?_
 rotate_left
 ·rintro s h2 ⟨rfl,y,rfl,hy,H2⟩;obtain⟨sv,H2⟩:=cw.E H2;have H3:=H2;unfold MW y7 at H3;unfold Qa;refine qK (qQ (qZ ‹_› .here rfl ?_));refine qK (qQ (qZ ‹_› .here rfl ?_));refine jQ ‹_› e_1 ?_;by_cases c:y.at_=(y.seen.length:Int)
  ·refine qk c ?_;rw[iJ c];refine qX (qK (qQ (qG (w9 omQ H2) λ_ h4 H4=>?_)));refine qx<|qW (cw.I H4)
  ·refine qj c ?_;rw[iQ c];refine qJ (qx ?_);exact qW (cw.I H2)
 refine qK (qQ (qF H1 .here rfl omQ rfl ?_));refine qG (YV omQ (H1.aM e_1)) ?_;rintro _ h2 ⟨rfl,H2⟩;unfold je at hF;cases hs:(jV x.p a).1 with
 |true=>rw[iJ hs]at hF;subst hF;refine qX<|qW (cw.I (sv:=sv) (H2.pk [0,1] 1))
 |false=>
  rw[iQ (by grind)]at hF;have sF:=YR hs;rw[sF.1]at H2;have H3:HS g h2 (qw b (MW x sv)::qw b0 (xf a)::qB 117 2 x.seen.length sv (x.seen.flatMap gX)::R):=H2;have H4:=H3;unfold MW y7 xf at H4;have dB:=O.lo;have mi:=O.hi;have hlen:=O.len;refine qJ (qK (qQ (qZ ‹_› .here rfl ?_)));cases hl:x.bD with
  |false=>
   rw[iJ hl]at hF;refine jo (qX (qY ?_));refine qQ (qZ ‹_› e_1 rfl ?_);refine qK (qQ ?_)
   refine qy H4 .here ⟨rfl,rfl⟩ aS λh5 H5=>?_;refine qK (qQ (qy H5 .here ⟨rfl,rfl⟩ aS λh6 H6=>?_));refine qh ‹_› e_1 rfl ‹_› e_1 rfl (HS.lt ‹_› e_1)<|hj _ _ ⟨rfl,{ x with bD:=true,aa:=a.word },hF.symm,hlen,cw.I (sv:=sv) (H6.pk [0,1] 1)⟩
  |true=>
   rw[iQ (by grind)]at hF;refine jd (qJ (qQ (qu (qZ H4 e_1 rfl ?_))));cases hd:a.lk.2.1 with
   |true=>
    rw[iJ hd]at hF;refine qX (qY ?_);refine qK (qQ (qQ ?_))
    refine qF H4 e_1 rfl omQ rfl<|qG (UH omQ (O.p sF.2) H3) ?_;rintro _ h5 ⟨rfl,H5⟩;cases hw:(jA x.p a.lk).1 with
    |true=>rw[iJ hw]at hF;subst hF;refine jd (qJ (qx ?_));exact qW (cw.I (sv:=sv) (H5.pk [0,1] 1))
    |false=>rw[iQ (by grind)]at hF;subst hF;have H6:=H5;unfold xf at H6;refine jo (qX (qK (qQ (qQ (qu (qZ H6 e_1 rfl ?_))))));refine qG (w9 omQ H5) λ_ h7 H7=>?_;refine qx<|qW (cw.I (sv:=sv) (H7.pk [0,1] 1))
   |false=>
    rw[iQ (by grind)]at hF;refine qJ (qQ (qu (qZ H4 e_1 rfl ?_)));refine qK (qQ (qZ ‹_› .here rfl ?_));refine qK (qQ (qZ ‹_› .here rfl ?_));have eI:=O.lU sF.2 hl;obtain⟨k,hk⟩:∃k:Nat,x.at_=k:=⟨x.at_.toNat,by omega⟩;rw[hk]at eI ⊢;rw[hk]at hF;refine vF (H3.sl e_2) omQ omQ (J8 omQ).2 ?_;by_cases c:a.lk.1=(jf x.seen k).2
    ·refine jI c ?_;rw[iQ (λh=>h c)]at hF;refine qJ (qK (qQ (qZ ‹_› .here rfl ?_)));refine qi omQ<|qK (qQ ?_);rw[hk]
     skip
     refine qy H4 .here ⟨rfl,rfl⟩ aS λh5 H5=>?_;exact hj _ _ ⟨rfl,{ x with at_:=(k:Int)+1 },hF.symm,hlen,cw.I (sv:=sv) (H5.pk [0,1] 1)⟩
    ·refine jH c ?_;rw[iJ c,← hk]at hF;subst hF;refine qX (qK (qQ (qG (w9 omQ H3) λ_ h7 H7=>?_)));exact qW (cw.I (sv:=sv) (H7.pk [0,1] 1))
end
end
section
variable {g h:AH} {L R:List SP}
structure ComL (c:jw):Prop where
  seen:c.seen.length≤16
  cells:c.cells.length≤1000
  s:c.s.length≤16
  ax:c.ax.length≤c.s.length
  pos:0<c.s.length
  cY:c.s.Pairwise (· < ·)
  lo:0≤c.at_
  hi:c.at_≤1000
  now:0≤c.now∧c.now<9223372036854775807
def zf (fin ay state at_ now bx:Int) (sl cl tl wl:Nat):Prop :=
 (sl≤16∧cl≤1000∧tl≤16∧wl≤tl∧0<tl∧0≤at_∧at_≤1000∧0≤now∧now<9223372036854775807∧0≤state∧state≤7)∧(fin=0→state≤6→0≤ay∧ay≤4)∧(fin=0→state≤1→wl<tl)∧(state≤4→at_≤sl)∧
 (2≤state→state≤6→wl=tl)∧(fin=0→state=4→at_<sl)∧(fin=0→state=5→at_<cl)∧(fin=0→state=6→at_<tl)∧(fin=0→state=7→at_<wl)∧(state=7→bx≠0)
structure xA (c:jw):Prop where
  cY:c.s.Pairwise (· < ·)
  ar:zf c.p.fin c.p.ay c.state c.at_ c.now c.bx c.seen.length c.cells.length c.s.length c.ax.length
section
variable {c:jw} (O:xA c)
include O
theorem xA.toComL:ComL c:=by have h:=O.ar;unfold zf at h;exact⟨by omega,by omega,by omega,by omega,by omega,O.cY,by omega,by omega,by omega⟩
theorem xA.p (hg:c.p.fin=0) (hs:c.state≤6):0≤c.p.ay∧c.p.ay≤4:=by have h:=O.ar;grind[zf]
theorem xA.Dn (hg:c.p.fin=0) (hs:c.state≤1):c.ax.length<c.s.length:=by have h:=O.ar;grind[zf]
theorem xA.IR (h1:2≤c.state) (h2:c.state≤4):c.ax.length=c.s.length∧c.at_≤c.seen.length:=by have h:=O.ar;grind[zf]
theorem xA.B7 (hg:c.p.fin=0) (hs:c.state=4):c.at_<c.seen.length:=by have h:=O.ar;grind[zf]
theorem xA.IS (hg:c.p.fin=0) (hs:c.state=5):c.at_<c.cells.length:=by have h:=O.ar;grind[zf]
theorem xA.IT (hg:c.p.fin=0) (hs:c.state=6):c.at_<c.s.length:=by have h:=O.ar;grind[zf]
theorem xA.IU (hg:c.p.fin=0) (hs:c.state=7):c.at_<c.ax.length:=by have h:=O.ar;grind[zf]
theorem xA.st:0≤c.state∧c.state≤7:=by have h:=O.ar;grind[zf]
theorem xA.s:c.s.length≤16:=O.toComL.s
theorem xA.ax:c.ax.length≤c.s.length:=O.toComL.ax
theorem xA.seen:c.seen.length≤16:=O.toComL.seen
theorem xA.lo:0≤c.at_:=O.toComL.lo
theorem xA.hi:c.at_≤1000:=O.toComL.hi
theorem xA.now:0≤c.now∧c.now<9223372036854775807:=O.toComL.now
end
theorem qv0:∀{s:List Int} {ax:List di} {x:Int},s.Pairwise (· < ·)→ax.length=s.length→Ul s ax x=if x∈s then some (q8 ax (s.countP (· <x):Nat)).1 else none:=by
 intro s
 induction s with
 |nil=>intro ax x _ _;rfl
 |cons y s ih=>
  intro ax x hp hl;cases ax with
  |nil=>grind
  |cons w ax=>
   have h1:=List.pairwise_cons.1 hp;unfold Ul;by_cases e:y=x
   ·subst e;rw[iJ rfl,iJ (iK ..),List.countP_cons,List.countP_eq_zero.2 (λa ha=>by grind),iV omQ];rfl
   ·rw[iQ e,ih h1.2 (by grind)];by_cases hm:x∈s
    ·simp_all[iG,q8]
    grind
theorem jZF {s:List Int} {x:Int} (_:s.Pairwise (· < ·)) (h:x∈s):s.countP (· <x)<s.length:=by
 grind[Nat.lt_or_ge,List.countP_eq_length,Nat.le_antisymm,List.countP_le_length]
def JM (c:jw) (sv cv tv wv:AV):List AV:=y7 c.p [.int .i64 c.me,.int .u64 c.aa,sv,cv,tv,wv,.int .i64 c.state,.int .i64 c.at_,.int .u64 c.lk.1,.bool c.lk.2.1,.int .i64 c.lk.2.2,.int .u64 c.now,.bool c.writing,.int .i64 c.bx,.int .i64 c.rp,.int .i64 c.iF]
def aD (b:Nat) (c:jw):SP:=.ex λq:AV×AV×AV×AV=>.all [qw b (JM c q.1 q.2.1 q.2.2.1 q.2.2.2),qB 117 2 c.seen.length q.1 (c.seen.flatMap gX),qB 170 2 c.cells.length q.2.1 (c.cells.flatMap zz),
 qB 3 1 c.s.length q.2.2.1 (c.s.map (.int .i64)),qB 68 3 c.ax.length q.2.2.2 (c.ax.flatMap zr)]
section
variable {n b:Nat} {c:jw} {sv cv tv wv:AV}
theorem aD.E (H:HS g h (aD b c::R)):∃sv cv tv wv,HS g h (qw b (JM c sv cv tv wv)::qB 117 2 c.seen.length sv (c.seen.flatMap gX)::qB 170 2 c.cells.length cv (c.cells.flatMap zz)::
  qB 3 1 c.s.length tv (c.s.map (.int .i64))::qB 68 3 c.ax.length wv (c.ax.flatMap zr)::R):=by
 obtain⟨⟨sv,cv,tv,wv⟩,H⟩:=H.eU;exact⟨sv,cv,tv,wv,H.cG⟩
theorem aD.I (H:HS g h (qw b (JM c sv cv tv wv)::qB 117 2 c.seen.length sv (c.seen.flatMap gX)::qB 170 2 c.cells.length cv (c.cells.flatMap zz)::
  qB 3 1 c.s.length tv (c.s.map (.int .i64))::qB 68 3 c.ax.length wv (c.ax.flatMap zr)::R)):HS g h (aD b c::R):=HS.fB (sv,cv,tv,wv) H.allI
theorem qXF (hn:2≤n) (H:HS g h (aD b c::R)):aE n 371 [.ptr b 0] h λ_ h'=>HS g h' (aD b (xX c)::R):=by
 refine aF rfl omQ λk hk=>?_;unfold S371;try simp only[iZ]
 obtain⟨sv,cv,tv,wv,H⟩:=aD.E H;have H1:=H;unfold JM y7 at H1;unfold xX;refine qK (qQ (qZ ‹_› .here rfl ?_));refine qK (qQ (qZ ‹_› .here rfl ?_));refine jQ ‹_› e_3 ?_;by_cases c0:c.at_=(c.s.length:Int)
 ·refine qk c0 ?_;rw[iJ c0];refine qX (qK (qQ (qG (w9 omQ H) λ_ h2 H2=>?_)));exact qW (aD.I H2)
 ·refine qj c0 ?_;rw[iQ c0];refine qJ<|qW (aD.I H)
theorem O3 (hn:3≤n) (H:HS g h (aD b c::R)):aE n 370 [.ptr b 0] h λ_ h'=>HS g h' (aD b (zG c)::R):=by
 refine aF rfl omQ λk hk=>?_;unfold S370;try simp only[iZ]
 obtain⟨sv,cv,tv,wv,H⟩:=aD.E H;have H1:=H;unfold JM y7 at H1;unfold zG;refine qK (qQ (qZ ‹_› .here rfl ?_));refine qK (qQ (qZ ‹_› .here rfl ?_));refine jQ ‹_› e_2 ?_;by_cases c0:c.at_=(c.cells.length:Int)
 ·refine qk c0 ?_;rw[iJ c0];refine qX (qK (qQ (qy H1 .here ⟨rfl,rfl⟩ aS λh2 H2=>?_)));refine qK (qQ (qy H2 .here ⟨rfl,rfl⟩ aS λh3 H3=>?_));refine qG (qXF omQ (aD.I H3)) λ_ h4 H4=>qW H4
 ·refine qj c0 ?_;rw[iQ c0];refine qJ<|qW (aD.I H)
theorem Ov (hn:4≤n) (H:HS g h (aD b c::R)):aE n 366 [.ptr b 0] h λ_ h'=>HS g h' (aD b (zp c)::R):=by
 refine aF rfl omQ λk hk=>?_;unfold S366;try simp only[iZ]
 obtain⟨sv,cv,tv,wv,H⟩:=aD.E H;unfold JM y7 at H;refine qK (qQ (qy H .here ⟨rfl,rfl⟩ aS λh2 H2=>?_));refine qK (qQ (qy H2 .here ⟨rfl,rfl⟩ aS λh3 H3=>?_));refine qK (qQ (qy H3 .here ⟨rfl,rfl⟩ aS λh4 H4=>?_));refine qG (O3 omQ (aD.I H4)) λ_ h5 H5=>qW H5
theorem OV (hn:2≤n) (H:HS g h (aD b c::R)):aE n 372 [.ptr b 0] h λ_ h'=>HS g h' (aD b (xw c)::R):=by
 refine aF rfl omQ λk hk=>?_;unfold S372;try simp only
 obtain⟨sv,cv,tv,wv,H⟩:=aD.E H;have H1:=H;unfold JM y7 at H1;unfold xw;refine qK (qQ (qZ ‹_› .here rfl ?_));refine qK (qQ (qZ ‹_› .here rfl ?_));refine jQ ‹_› e_4 ?_;by_cases c0:c.at_=(c.ax.length:Int)
 ·refine qk c0 ?_;rw[iJ c0];refine qX (qK (qQ (qK (qQ (qZ ‹_› .here rfl ?_)))));refine qK (qQ (qZ ‹_› .here rfl ?_));refine qK (qQ (qZ ‹_› .here rfl ?_));refine qG (w9 omQ H) λ_ h2 H2=>?_;exact qW (aD.I H2)
 ·refine qj c0 ?_;rw[iQ c0];refine qJ<|qW (aD.I H)
theorem KH {f e y:Int} (hn:3≤n) (H:HS g h (aD b c::R)):aE n 374 [.ptr b 0,.int .i64 f,.int .i64 e,.int .i64 y] h λ_ h'=>HS g h' (aD b (zP c f e y)::R):=by
 refine sh rfl omQ λk hk=>?_;unfold S374;try simp only[iZ]
 obtain⟨sv,cv,tv,wv,H⟩:=aD.E H;unfold JM y7 at H;refine qK (qQ (qy H .here ⟨rfl,rfl⟩ aS λh2 H2=>?_));refine qK (qQ (qy H2 .here ⟨rfl,rfl⟩ aS λh3 H3=>?_));refine qK (qQ (qy H3 .here ⟨rfl,rfl⟩ aS λh4 H4=>?_));refine qK (qQ (qy H4 .here ⟨rfl,rfl⟩ aS λh5 H5=>?_));refine qK (qQ (qy H5 .here ⟨rfl,rfl⟩ aS λh6 H6=>?_));refine qG (OV omQ (aD.I H6)) λ_ h5 H5=>qW H5
theorem qX5 (hn:1≤n) (H:HS g h (aD b c::R)):aE n 131 [.ptr b 0] h λ_ h'=>HS g h' (aD b (zV c)::R):=by
 refine aF rfl omQ λk hk=>?_;unfold S131;try simp only[iZ]
 obtain⟨sv,cv,tv,wv,H⟩:=aD.E H;unfold JM y7 at H;unfold zV;refine qK (qQ (qy H .here ⟨rfl,rfl⟩ aS λh2 H2=>?_));refine qK (qQ (qZ ‹_› .here rfl ?_));refine jQ ‹_› e_4<|qK (qQ (qZ ‹_› .here rfl ?_));refine jQ ‹_› e_3 ?_;by_cases c0:c.ax.length=c.s.length
 ·refine qk omQ ?_;rw[iJ c0];refine qX (qK (qQ (qy H2 .here ⟨rfl,rfl⟩ aS λh3 H3=>?_)));exact qW (aD.I H3)
 ·refine qj omQ ?_;rw[iQ c0];refine qJ<|qW (aD.I H2)
theorem qJc {l:di} (hn:4≤n) (hp:0≤c.p.ay∧c.p.ay≤4) (H:HS g h (aD b c::R)):aE n 373 [.ptr b 0,.agg (zr l)] h λ_ h'=>HS g h' (aD b (xn c l)::R):=by
 refine bj rfl omQ λk hk=>?_;unfold S373;try simp only[iZ]
 obtain⟨sv,cv,tv,wv,H⟩:=aD.E H;refine qP H rfl λb0 h1 H1=>?_;unfold xn;refine qK (qQ (qF H1 .here rfl omQ rfl ?_));refine qG (UH omQ hp (H1.aM e_1)) ?_;rintro _ h2 ⟨rfl,H2⟩;have H3:HS g h2 (aD b { c with p:=(jA c.p l).2 }::qw b0 (zr l)::R):=aD.I (sv:=sv) (cv:=cv) (tv:=tv) (wv:=wv) (H2.pk [0,1,1,1,1] 0);cases hw:(jA c.p l).1 with
 |true=>rw[iJ rfl];refine jd (qJ ?_);exact qW (H3.pk [0] 1)
 |false=>rw[iQ aS];unfold zr at H3;refine jo (qX (qQ (qZ ‹_› e_1 rfl ?_)));refine qG (KH omQ H3) λ_ h4 H4=>?_;exact qW (H4.pk [0] 1)
theorem ZK (hn:5≤n) (O:ComL c) (hw:c.ax.length=c.s.length) (ha:c.at_≤c.seen.length) (H:HS g h (aD b c::R)):aE n 375 [.ptr b 0] h λ_ h'=>HS g h' (aD b (xu c)::R):=by
 refine aF rfl omQ λk hk=>?_;unfold S375;try simp only[iZ]
 generalize hF:xu c=F;unfold xu at hF;obtain⟨sv,cv,tv,wv,H⟩:=aD.E H;unfold JM y7 at H;have l1:=O.seen;have l2:=O.s;have l3:=O.pos;have l4:=O.lo;refine qK (qQ (qy H .here ⟨rfl,rfl⟩ aS λh2 H2=>?_));have H2:HS g h2 (aD b { c with state:=4 }::R):=aD.I H2;refine zQ (λm s h'=>s=(.ptr b 0,())∧∃a:Int,zM { c with state:=4,at_:=a } m=F∧0≤a∧a≤c.seen.length∧c.seen.length<a+m∧HS g h' (aD b { c with state:=4,at_:=a }::R))
  ?_ (by grind) ⟨rfl,c.at_,hF,l4,ha,by omega,H2⟩
 clear H H2 hF;rintro m ih s h3 bQ ⟨rfl,a,hF,RX,ha,hm,H⟩;obtain⟨m,rfl⟩:∃k,m=k+1:=⟨m-1,by omega⟩;unfold zM at hF;dsimp only at hF;obtain⟨sv,cv,tv,wv,H⟩:=aD.E H;have H1:=H;unfold JM y7 at H1;dsimp only at H1;refine qK (qQ (qZ ‹_› .here rfl ?_));refine qK (qQ (qZ ‹_› .here rfl ?_));refine jQ ‹_› e_1 ?_;by_cases aw:a<c.seen.length
 ·refine jt aw ?_;rw[iJ aw]at hF;obtain⟨k,rfl⟩:∃k:Nat,a=k:=⟨a.toNat,by omega⟩;refine qX (qK (qQ (qZ ‹_› .here rfl ?_)));refine qK (qQ (qZ ‹_› .here rfl ?_));refine qK (qQ (qZ ‹_› .here rfl ?_));refine vF (H.sl e_1) omQ (by grind) (J8 (by grind)).1<|qG (qyE omQ H1 e_3 l3 omQ (O.cY.imp λh=>by omega)) ?_;rintro _ _ ⟨rfl,rfl⟩;rw[qv0 O.cY hw]at hF;by_cases hc:(jf c.seen k).1∈c.s
  ·rw[iJ hc]at hF;dsimp only at hF;rw[show c.s.contains (jf c.seen k).1=true from List.contains_iff_mem.2 hc];have II:=jZF O.cY hc;refine qD rfl<|qD rfl<|jd (qJ (qK (qQ (qZ ‹_› .here rfl ?_))));refine vF (x:=.int .u64 (q8 c.ax (c.s.countP (· <(jf c.seen k).1):Nat)).1) (H.sl e_4) omQ (Nat.lt_of_lt_of_eq II hw.symm) ?_ ?_
   ·have:=congrArg (·[0]?) (Zi (l:=c.ax) (k:=c.s.countP (· <(jf c.seen k).1)) omQ);simp only[List.getElem?_take_of_lt (show 0<3 by omega),List.getElem?_drop]at this;trivial
   refine qK (qQ (qZ ‹_› .here rfl ?_));refine qK (qQ (qZ ‹_› .here rfl ?_));refine vF (H.sl e_1) omQ (by grind) (J8 (by grind)).2 ?_;by_cases hv:(q8 c.ax (c.s.countP (· <(jf c.seen k).1):Nat)).1=(jf c.seen k).2
   ·refine jI hv ?_;rw[iQ (λh=>h hv)]at hF;refine qJ (qK (qQ (qZ ‹_› .here rfl ?_)));refine qi omQ<|qK (qQ (qy H1 (b:=b) .here ⟨rfl,rfl⟩ aS λh4 H4=>?_));exact bQ m _ _ omQ ⟨rfl,(k:Int)+1,hF,by omega,by omega,by omega,aD.I (c:={ c with state:=4,at_:=(k:Int)+1 }) H4⟩
   ·refine jH hv ?_;rw[iJ hv]at hF;subst hF;refine qX (qG (KH omQ (aD.I H)) λ_ h4 H4=>?_);refine qx<|qW H4
  ·rw[iQ hc]at hF;dsimp only at hF;subst hF;rw[show c.s.contains (jf c.seen k).1=false from by grind];refine qD rfl<|qD rfl<|jo (qX (qx ?_));exact qW (aD.I H)
 ·refine jP aw ?_;rw[iQ aw]at hF;subst hF;refine qJ (qG (Ov omQ (aD.I H)) λ_ h4 H4=>?_);refine qx<|qW H4
end
end
section
variable {g h:AH} {L R:List SP}
section
variable {n b:Nat} {c:jw} {sv cv tv wv:AV} {a:cx}
theorem qVn {l:di} (hn:6≤n) (O:xA c) (hg:c.p.fin=0) (h4:c.state=4) (H:HS g h (aD b c::R)):aE n 369 [.ptr b 0,.agg (zr l)] h λ_ h'=>HS g h' (aD b (yQ c l)::R):=by
 refine bj rfl omQ λk hk=>?_;unfold S369;try simp only[iZ]
 generalize hF:yQ c l=F;refine qP H rfl λb0 h1 H1=>?_;refine zb [] (λ_ h'=>HS g h' (aD b F::R)) (λj hj=>?_) λ_ h' H'=>?_
 rotate_left
 ·refine qx<|qW H'
 unfold yQ at hF;have H2:=H1;unfold zr at H2;refine qQ (qZ ‹_› .here rfl ?_);cases hd:l.2.1 with
 |true=>rw[iJ hd]at hF;subst hF;refine qX (qF H1 .here rfl omQ (l:=zr l) rfl ?_);refine qG (qJc omQ (O.p hg omQ) (H1.aM e_1)) λ_ h3 H3=>?_;exact hj _ _ (H3.pk [0] 1)
 |false=>
  rw[iQ (by grind)]at hF;obtain⟨sv,cv,tv,wv,H3⟩:=aD.E (H2.aM e_1);have H4:=H3;unfold JM y7 at H4;have aw:=O.B7 hg h4;have dB:=O.lo;have l1:=O.seen;obtain⟨k,hk⟩:∃k:Nat,c.at_=k:=⟨c.at_.toNat,by omega⟩;refine qJ (qQ (qZ ‹_› e_5 rfl ?_));refine qK (qQ (qZ ‹_› .here rfl ?_));refine qK (qQ (qZ ‹_› .here rfl ?_));rw[hk]at hF aw ⊢;refine vF (H3.sl e_1) omQ omQ (J8 omQ).2 ?_;by_cases c0:l.1=(jf c.seen k).2
  ·refine jI c0 ?_;rw[iQ (λh=>h c0)]at hF;subst hF;refine qJ (qK (qQ (qZ ‹_› .here rfl ?_)));refine qi omQ<|qK (qQ ?_);rw[hk]
   skip
   refine qy H4 (b:=b) .here ⟨rfl,rfl⟩ aS λh5 H5=>?_;refine qG (ZK (c:={ c with at_:=(k:Int)+1 }) omQ { O.toComL with lo:=(by grind),hi:=(by grind) } (O.IR omQ omQ).1 (by grind) (aD.I H5)) λ_ h6 H6=>?_;exact hj _ _ (H6.pk [0] 1)
  ·refine jH c0 ?_;rw[iJ c0]at hF;subst hF;refine qX (qG (KH omQ (aD.I H3)) λ_ h6 H6=>?_);exact hj _ _ (H6.pk [0] 1)
theorem qJ5 (hn:5≤n) (O:xA c) (hg:c.p.fin=0) (H:HS g h (aD b c::R)):aE n 367 [.ptr b 0,.agg (xf a)] h λ_ h'=>HS g h' (aD b (vV c a)::R):=by
 refine bj rfl omQ λk hk=>?_;unfold S367;try simp only[iZ]
 generalize hF:vV c a=F;refine qP H rfl λb0 h1 H1=>?_;refine zb [] (λ_ h'=>HS g h' (aD b F::R)) (λj hj=>?_) λ_ h' H'=>?_
 rotate_left
 ·refine qx<|qW H'
 unfold vV at hF;obtain⟨sv,cv,tv,wv,H2⟩:=aD.E (H1.aM e_1);have H3:=H2;unfold JM y7 xf at H3;have l1:=O.s;have l2:=O.ax;refine qK (qQ (qZ ‹_› .here rfl ?_));by_cases c0:c.state=0
 ·refine qk c0<|qY<|qd<|qQ ?_
  refine qu (qZ H3 e_5 rfl ?_);cases hd:a.lk.2.1 with
  |true=>rw[iJ ⟨c0,hd⟩]at hF;subst hF;refine qE (qX (qQ (qF H1 .here rfl omQ rfl ?_)));refine qG (qJc omQ (O.p hg omQ) (H1.aM e_1)) λ_ h3 H3=>?_;exact hj _ _ (H3.pk [0] 1)
  |false=>rw[iQ (λh=>by grind),iJ c0]at hF;subst hF;refine qE (qJ (qK (qQ (qZ ‹_› .here rfl ?_))));refine qk omQ<|qX (qQ (qF H1 .here rfl omQ rfl ?_));refine qK (qQ (qm H3 .here rfl (by simp) rfl λh5 H5=>?_));refine qK (qQ (qy H5 .here ⟨rfl,rfl⟩ (by simp[JZ]) λh6 H6=>?_));have H7:HS g h6 (aD b { c with lk:=a.lk,state:=1 }::qw b0 (xf a)::R):=aD.I (sv:=sv) (cv:=cv) (tv:=tv) (wv:=wv) H6;exact hj _ _ (H7.pk [0] 1)
 ·refine qj c0 ?_;rw[iQ (λh=>c0 h.1),iQ c0]at hF;refine qY<|qb<|qI (qJ (qK (qQ (qZ ‹_› .here rfl ?_))));refine qj omQ<|qJ (qQ (qZ ‹_› e_5 rfl ?_))
  cases hd:a.done with
  |true=>
   rw[iJ hd]at hF;subst hF;refine qX (qK (qQ (qZ ‹_› .here rfl ?_)));refine qK (qQ (qF H3 .here rfl omQ rfl ?_));refine qt H3 rfl rfl rfl rfl λv2 h5 H5=>?_;refine zw (H5.aM e_5) (H5.sl .here) omQ omQ rfl λv3 h6 H6=>?_;have o6:=H6.one .here;refine qK (qQ (qy H6 e_2 o6 aS λh7 H7=>?_));have H8:HS g h7 (aD b { c with ax:=c.ax++[c.lk] }::qw b0 (xf a)::R):=by refine aD.I (sv:=sv) (cv:=cv) (tv:=tv) (wv:=v3) ?_;rw[List.length_append,List.flatMap_append];exact H7.pk [0,2,2,2,0] 1
   refine qG (qX5 omQ H8) λ_ h9 H9=>?_;exact hj _ _ (H9.pk [0] 1)
  |false=>rw[iQ (by grind)]at hF;subst hF;refine qJ (qK (qQ (qy H3 .here ⟨rfl,rfl⟩ aS λh6 H6=>?_)));have H7:HS g h6 (aD b { c with state:=0 }::qw b0 (xf a)::R):=aD.I (sv:=sv) (cv:=cv) (tv:=tv) (wv:=wv) H6;exact hj _ _ (H7.pk [0] 1)
theorem On (hn:6≤n) (O:xA c) (tE:c.state=2∨c.state=3) (H:HS g h (aD b c::R)):aE n 368 [.ptr b 0,.agg (xf a)] h λ_ h'=>HS g h' (aD b (yB c a)::R):=by
 refine bj rfl omQ λk hk=>?_;unfold S368;try simp only[iZ]
 generalize hF:yB c a=F;refine qP H rfl λb0 h1 H1=>?_;refine zb [] (λ_ h'=>HS g h' (aD b F::R)) (λj hj=>?_) λ_ h' H'=>?_
 rotate_left
 ·refine qx<|qW H'
 unfold yB at hF;obtain⟨sv,cv,tv,wv,H2⟩:=aD.E (H1.aM e_1);have H3:=H2;unfold JM y7 xf at H3;refine qK (qQ (qZ ‹_› .here rfl ?_));by_cases c0:c.state=2
 ·refine qk c0<|qY<|qd<|qQ (qZ ‹_› e_5 rfl ?_)
  by_cases c1:4611686018427387903≤a.word
  ·refine z7 omQ ?_;rw[iJ ⟨c0,c1⟩]at hF;subst hF;refine qE (qX (qG (KH omQ (aD.I H2)) λ_ h6 H6=>?_));exact hj _ _ (H6.pk [0] 1)
  ·refine zn omQ ?_;rw[iQ (λh=>c1 h.2),iJ c0]at hF;subst hF;refine qE (qJ (qK (qQ (qZ ‹_› .here rfl ?_))));refine qk omQ<|qX (qQ (qZ ‹_› e_5 rfl ?_));refine qK (qQ (qy H3 .here ⟨rfl,rfl⟩ aS λh6 H6=>?_));refine qK (qQ (qy H6 .here ⟨rfl,rfl⟩ aS λh7 H7=>?_));have H8:HS g h7 (aD b { c with now:=a.word,state:=3 }::qw b0 (xf a)::R):=aD.I (sv:=sv) (cv:=cv) (tv:=tv) (wv:=wv) H7;exact hj _ _ (H8.pk [0] 1)
 ·refine qj c0 ?_;rw[iQ (λh=>c0 h.1),iQ c0]at hF;have h3:=O.IR omQ omQ;refine qY<|qb<|qI (qJ (qK (qQ (qZ ‹_› .here rfl ?_))));refine qj omQ<|qJ (qQ (qZ ‹_› e_5 rfl ?_))
  cases hd:a.done with
  |false=>rw[iJ hd]at hF;subst hF;refine jo (qX (qK (qQ (qy H3 .here ⟨rfl,rfl⟩ aS λh6 H6=>?_))));have H7:HS g h6 (aD b { c with state:=2 }::qw b0 (xf a)::R):=aD.I (sv:=sv) (cv:=cv) (tv:=tv) (wv:=wv) H6;exact hj _ _ (H7.pk [0] 1)
  |true=>
   rw[iQ (by grind)]at hF;refine jd (qJ (qK (qQ (qZ ‹_› .here rfl ?_))));refine qK (qQ (qZ ‹_› .here rfl ?_));by_cases c1:c.now=c.aa
   ·refine qk c1 ?_;rw[iJ c1]at hF;subst hF;refine qX (qG (Ov omQ (aD.I H2)) λ_ h6 H6=>?_);exact hj _ _ (H6.pk [0] 1)
   ·refine qj c1 ?_;rw[iQ c1]at hF;subst hF;refine qJ (qG (ZK omQ O.toComL h3.1 h3.2 (aD.I H2)) λ_ h6 H6=>?_);exact hj _ _ (H6.pk [0] 1)
theorem qyF (hn:7≤n) (O:xA c) (H:HS g h (aD b c::R)):aE n 365 [.ptr b 0,.agg (xf a)] h λ_ h'=>HS g h' (aD b (qp c a)::R):=by
 refine bj rfl omQ λk hk=>?_;unfold S365;try simp only[iZ]
 generalize hF:qp c a=F;refine qP H rfl λb0 h1 H1=>?_;obtain⟨sv,cv,tv,wv,H2⟩:=aD.E (H1.aM e_1);have dB:=O.lo;have mi:=O.hi;have bZ:=O.st;unfold qp at hF;refine qK (qQ (qF H1 .here rfl omQ rfl ?_));refine qG (YV omQ H2) ?_;rintro _ h2 ⟨rfl,H3⟩;cases hs:(jV c.p a).1 with
 |true=>rw[iJ hs]at hF;subst hF;refine qX ?_;have H4:HS g h2 (aD b { c with p:=(jV c.p a).2 }::qw b0 (xf a)::R):=aD.I (sv:=sv) (cv:=cv) (tv:=tv) (wv:=wv) H3;exact qW (H4.pk [0] 1)
 |false=>
  rw[iQ (by grind)]at hF;have sF:=YR hs;rw[sF.1]at H3;have hg:=sF.2;clear H1 H2 H sF hs;have H2:HS g h2 (aD b c::qw b0 (xf a)::R):=aD.I (sv:=sv) (cv:=cv) (tv:=tv) (wv:=wv) H3
  have H4:HS g h2 (qw b (JM c sv cv tv wv)::qB 117 2 c.seen.length sv (c.seen.flatMap gX)::qB 170 2 c.cells.length cv (c.cells.flatMap zz)::
   qB 3 1 c.s.length tv (c.s.map (.int .i64))::qB 68 3 c.ax.length wv (c.ax.flatMap zr)::qw b0 (xf a)::R):=H3
  unfold JM y7 at H4;refine qJ (qK (qu (qZ H4 .here rfl ?_)));refine zb [] (λ_ h'=>HS g h' (aD b F::R)) (λj hj=>?_) λ_ h' H'=>?_
  rotate_left
  ·refine qx<|qW H'
  by_cases c0:c.state=0∨c.state=1
  ·rw[iJ c0]at hF;subst hF;rcases c0 with c0 |c0
   ·refine qY<|qk omQ<|qX (qX ?_)
    refine qF H3 e_5 rfl omQ rfl<|qG (qJ5 omQ O hg H2) λ_ h6 H6=>?_;exact hj _ _ (H6.pk [0] 1)
   ·refine qY<|qj omQ<|qJ (qk omQ ?_);refine qX ?_
    refine qF H3 e_5 rfl omQ rfl<|qG (qJ5 omQ O hg H2) λ_ h6 H6=>?_;exact hj _ _ (H6.pk [0] 1)
  rw[iQ c0]at hF;by_cases c1:c.state=2∨c.state=3
  ·rw[iJ c1]at hF;subst hF;have c2:=c1;rcases c1 with c1' |c1'
   ·refine qY<|qj omQ<|qJ (qj omQ ?_);refine qJ (qY ?_);refine qk omQ<|qX (qX ?_)
    refine qF H3 e_5 rfl omQ rfl<|qG (On omQ O c2 H2) λ_ h6 H6=>?_;exact hj _ _ (H6.pk [0] 1)
   ·refine qY<|qj omQ<|qJ (qj omQ ?_);refine qJ (qY ?_);refine qj omQ<|qJ (qk omQ ?_);refine qX ?_
    refine qF H3 e_5 rfl omQ rfl<|qG (On omQ O c2 H2) λ_ h6 H6=>?_;exact hj _ _ (H6.pk [0] 1)
  rw[iQ c1]at hF;by_cases c4:c.state=4
  ·rw[iJ c4]at hF;subst hF;refine qY<|qj omQ<|qJ (qj omQ ?_);refine qJ (qY ?_);refine qj omQ<|qJ (qj omQ ?_);refine qJ (qk omQ ?_);refine qX (qQ ?_)
   refine qF H3 e_5 rfl omQ rfl<|qG (qVn omQ O hg c4 H2) λ_ h6 H6=>?_;exact hj _ _ (H6.pk [0] 1)
  rw[iQ c4]at hF;by_cases c5:c.state=5
  ·rw[iJ c5]at hF;subst hF;refine qY<|qj omQ<|qJ (qj omQ ?_);refine qJ (qY ?_);refine qj omQ<|qJ (qj omQ ?_);refine qJ (qj omQ ?_);refine qJ (qk omQ ?_);refine qX (qK (qQ (qZ ‹_› .here rfl ?_)));refine qi omQ<|qK (qQ ?_)
   refine qy H4 .here ⟨rfl,rfl⟩ aS λh5 H5=>?_;have H6:HS g h5 (aD b { c with at_:=c.at_+1 }::qw b0 (xf a)::R):=aD.I (sv:=sv) (cv:=cv) (tv:=tv) (wv:=wv) H5;refine qG (O3 omQ H6) λ_ h6 H6=>?_;exact hj _ _ (H6.pk [0] 1)
  rw[iQ c5]at hF;by_cases c6:c.state=6
  ·rw[iJ c6]at hF;subst hF;refine qY<|qj omQ<|qJ (qj omQ ?_);refine qJ (qY ?_);refine qj omQ<|qJ (qj omQ ?_);refine qJ (qj omQ ?_);refine qJ (qj omQ ?_);refine qJ (qk omQ ?_);refine qX (qK (qQ (qZ ‹_› .here rfl ?_)));refine qi omQ<|qK (qQ ?_)
   refine qy H4 .here ⟨rfl,rfl⟩ aS λh5 H5=>?_;have H6:HS g h5 (aD b { c with at_:=c.at_+1 }::qw b0 (xf a)::R):=aD.I (sv:=sv) (cv:=cv) (tv:=tv) (wv:=wv) H5;refine qG (qXF omQ H6) λ_ h6 H6=>?_;exact hj _ _ (H6.pk [0] 1)
  rw[iQ c6]at hF;subst hF;refine qY<|qj omQ<|qJ (qj omQ ?_);refine qJ (qY ?_);refine qj omQ<|qJ (qj omQ ?_);refine qJ (qj omQ ?_);refine qJ (qj omQ ?_);refine qJ (qj omQ ?_);refine qJ (qk omQ ?_);refine qX (qK (qQ (qZ ‹_› .here rfl ?_)));refine qi omQ<|qK (qQ ?_)
  refine qy H4 .here ⟨rfl,rfl⟩ aS λh5 H5=>?_;have H6:HS g h5 (aD b { c with at_:=c.at_+1 }::qw b0 (xf a)::R):=aD.I (sv:=sv) (cv:=cv) (tv:=tv) (wv:=wv) H5;refine qG (OV omQ H6) λ_ h6 H6=>?_;exact hj _ _ (H6.pk [0] 1)
end
end
section
variable {g h:AH} {L R:List SP}
theorem qZ4 {l:List Cl} {k:Nat} (hk:k<l.length):(l.flatMap zz)[k*2+0]? =some (.int .i64 (yf l (k:Int)).1)∧(l.flatMap zz)[k*2+1]? =some (.int .u64 (yf l (k:Int)).2):=by
 have e:((l.flatMap zz).drop (k*2)).take 2=zz (yf l (k:Int)):=gF (enc:=zz) (λ_=>rfl) (by simp_all[yf,Int.toNat_natCast]);constructor
 ·have:=congrArg (·[0]?) e;simp only[List.getElem?_take_of_lt (show 0<2 by omega),List.getElem?_drop]at this;trivial
 ·have:=congrArg (·[1]?) e;simp only[List.getElem?_take_of_lt (show 1<2 by omega),List.getElem?_drop]at this;trivial
section
variable {n b:Nat} {c:jw} {sv cv tv wv:AV}
theorem VA (hn:2≤n) (H:HS g h (aD b c::R)):aE n 87 [.ptr b 0] h λr h'=>r=.int .i64 c.p.fin∧h'=h:=by
 refine aF rfl omQ λk hk=>?_;unfold S87;try simp only
 obtain⟨sv,cv,tv,wv,H⟩:=aD.E H;refine qK (qQ (qG (Yp omQ H .here) ?_));rintro _ _ ⟨rfl,rfl⟩;exact qW ⟨rfl,rfl⟩
theorem qyd (hn:2≤n) (H:HS g h (aD b c::R)):aE n 134 [.ptr b 0] h λr h'=>r=.int .i64 c.p.err∧h'=h:=by
 refine aF rfl omQ λk hk=>?_;unfold S134;try simp only
 obtain⟨sv,cv,tv,wv,H⟩:=aD.E H;refine qK (qQ (qG (qyf omQ H .here) ?_));rintro _ _ ⟨rfl,rfl⟩;exact qW ⟨rfl,rfl⟩
theorem jK5 (hn:2≤n) (H:HS g h (aD b c::R)):aE n 363 [.ptr b 0] h λr h'=>r=.int .i64 c.p.dj∧h'=h:=by
 refine aF rfl omQ λk hk=>?_;unfold S363;try simp only
 obtain⟨sv,cv,tv,wv,H⟩:=aD.E H;refine qK (qQ (qG (RQ omQ H .here) ?_));rintro _ _ ⟨rfl,rfl⟩;exact qW ⟨rfl,rfl⟩
theorem qqh (hn:1≤n) (hw:0≤c.now∧c.now<9223372036854775807) (H:HS g h (aD b c::R)):aE n 106 [.ptr b 0] h λr h'=>r=.int .u64 (kE c)∧h'=h:=by
 refine aF rfl omQ λk hk=>?_;unfold S106;try simp only[iZ]
 obtain⟨sv,cv,tv,wv,H⟩:=aD.E H;unfold JM y7 at H;unfold kE;refine qK (qQ (qZ ‹_› .here rfl ?_));cases hd:c.writing with
 |true=>rw[iQ aS];refine jd (qJ (qK (qQ (qZ ‹_› .here rfl ?_))));refine yT omQ<|qW ⟨rfl,rfl⟩
 |false=>rw[iJ rfl];refine jo (qX ?_);exact qW ⟨rfl,rfl⟩
theorem qZM (hn:3≤n) (H:HS g h (aD b c::R)):aE n 86 [.ptr b 0] h λr h'=>r=.bool (QZ c)∧h'=h:=by
 refine aF rfl omQ λk hk=>?_;unfold S86;try simp only[iZ]
 obtain⟨sv,cv,tv,wv,H1⟩:=aD.E H;unfold JM y7 at H1;unfold QZ;refine qK (qQ (qZ ‹_› .here rfl ?_));refine qY ?_;(try dsimp only)
 cases hd:c.writing with
 |true=>
  refine qd ?_;(try dsimp only)
  refine qG (VA omQ H) ?_;rintro _ _ ⟨rfl,rfl⟩;refine wG (λc1=>?_) (λc1=>?_)
  ·refine qE<|qW ⟨congrArg AV.bool (by grind),rfl⟩
  ·refine qE<|qW ⟨congrArg AV.bool (by grind),rfl⟩
 |false=>
  refine qb<|qI ?_
  exact qW ⟨rfl,rfl⟩
theorem qxt (hn:2≤n) (O:xA c) (H:HS g h (aD b c::R)):aE n 364 [.ptr b 0] h λr h'=>r=tK (yD c)∧HS g h' (aD b c::R):=by
 refine aF rfl omQ λk hk=>?_;unfold S364;try simp only[iZ]
 obtain⟨sv,cv,tv,wv,H⟩:=aD.E H;refine qP H rfl λb0 h1 H1=>?_;have dB:=O.lo;have bZ:=O.st;have mw:=O.now;have l1:=O.s;have l2:=O.ax;refine qK (qQ (qG (Yp omQ H1 e_1) ?_));rintro _ _ ⟨rfl,rfl⟩;unfold yD;have H2:=H1;unfold JM y7 at H2;by_cases hg:c.p.fin=0
 rotate_left
 ·refine jH hg ?_;rw[iJ hg];refine qX (qR rfl ?_);refine qm H1 .here rfl (by simp) rfl λh3 H3=>?_;refine qF H3 .here rfl omQ rfl<|qW ⟨rfl,aD.I H3.drop⟩
 refine jI hg ?_;rw[iQ (λh=>h hg)];refine qJ (qK (qQ (qZ ‹_› e_1 rfl ?_)));by_cases c0:c.state=0
 ·refine qk c0 ?_;rw[iJ c0];refine qX (qK (qQ (qZ ‹_› e_1 rfl ?_)));refine qK (qQ (qZ ‹_› e_1 rfl ?_));refine jQ ‹_› e_5 ?_;have hw:=O.Dn hg omQ;refine zj (H1.sl e_4) (by rw[List.getElem?_map,Qv hw];rfl)<|qR rfl<|qm H2 .here rfl (by simp) rfl λh3 H3=>?_;refine qF H3 .here rfl omQ rfl<|qW ⟨rfl,aD.I H3.drop⟩
 refine qj c0 ?_;rw[iQ c0];refine qJ ?_;by_cases c1:c.state=1
 ·refine qk c1 ?_;rw[iJ c1];refine qX (qK (qQ ?_));have hw:=O.Dn hg omQ;refine qu (qZ H2 e_1 rfl ?_);refine qK (qQ (qZ ‹_› e_1 rfl ?_));refine qR rfl<|qP H2 rfl λb1 h3 H3=>?_;refine qm H3 .here rfl (by simp) rfl λh4 H4=>?_;have H4:HS g h4 (qw b1 (zr (c.lk.1,true,c.me))::qw b0 _::qw b (JM c sv cv tv wv)::_):=H4;have H5:=H4;unfold JM y7 at H5;refine qK (qQ (qZ ‹_› e_2 rfl ?_));refine qK (qQ (qZ ‹_› e_2 rfl ?_));refine jQ ‹_› e_6<|zj (H4.sl e_5) (by rw[List.getElem?_map,Qv hw];rfl)<|qK (qQ (qF H5 e_2 rfl omQ rfl ?_));refine qF H5 .here rfl omQ rfl<|qR rfl<|qm H5 e_1 rfl (by simp) rfl λh6 H6=>?_;refine qF H6 .here rfl omQ rfl<|qW ⟨rfl,aD.I H6.drop.drop⟩
 refine qj c1 ?_;rw[iQ c1];refine qJ ?_;by_cases c2:c.state=2
 ·refine qk c2 ?_;rw[iJ c2];refine qX (qR rfl ?_);refine qm H2 .here rfl (by simp) rfl λh3 H3=>?_;refine qF H3 .here rfl omQ rfl<|qW ⟨rfl,aD.I H3.drop⟩
 refine qj c2 ?_;rw[iQ c2];refine qJ ?_;by_cases c3:c.state=3
 ·refine qk c3 ?_;rw[iJ c3];refine qX (qK (qQ (qZ ‹_› e_1 rfl ?_)));refine qK (qQ (qZ ‹_› e_1 rfl ?_));refine yT omQ<|qR rfl<|qm H2 .here rfl (by simp) rfl λh3 H3=>?_;refine qF H3 .here rfl omQ rfl<|qW ⟨rfl,aD.I H3.drop⟩
 refine qj c3 ?_;rw[iQ c3];refine qJ ?_;by_cases c4:c.state=4
 ·refine qk c4 ?_;rw[iJ c4];refine qX (qK (qQ (qZ ‹_› e_1 rfl ?_)));refine qK (qQ (qZ ‹_› e_1 rfl ?_));have aw:=O.B7 hg c4;obtain⟨k,hk⟩:∃k:Nat,c.at_=k:=⟨c.at_.toNat,by omega⟩;rw[hk]at aw ⊢;refine vF (H1.sl e_2) omQ omQ (J8 omQ).1<|qR rfl<|qm H2 .here rfl (by simp) rfl λh3 H3=>?_;refine qF H3 .here rfl omQ rfl<|qW ⟨rfl,aD.I H3.drop⟩
 refine qj c4 ?_;rw[iQ c4];refine qJ ?_;by_cases c5:c.state=5
 ·refine qk c5 ?_;rw[iJ c5];refine qX (qK (qQ (qZ ‹_› e_1 rfl ?_)));refine qK (qQ (qZ ‹_› e_1 rfl ?_));have aw:=O.IS hg c5;obtain⟨k,hk⟩:∃k:Nat,c.at_=k:=⟨c.at_.toNat,by omega⟩;rw[hk]at aw ⊢;refine vF (H1.sl e_3) omQ omQ (qZ4 omQ).1<|qK (qQ (qZ ‹_› e_1 rfl ?_));refine qK (qQ (qZ ‹_› e_1 rfl ?_));rw[hk];refine vF (H1.sl e_3) omQ omQ (qZ4 omQ).2<|qR rfl<|qm H2 .here rfl (by simp) rfl λh3 H3=>?_;refine qF H3 .here rfl omQ rfl<|qW ⟨rfl,aD.I H3.drop⟩
 refine qj c5 ?_;rw[iQ c5];refine qJ ?_;by_cases c6:c.state=6
 ·refine qk c6 ?_;rw[iJ c6];refine qX (qK (qQ (qZ ‹_› e_1 rfl ?_)));refine qK (qQ (qZ ‹_› e_1 rfl ?_));have aw:=O.IT hg c6;obtain⟨k,hk⟩:∃k:Nat,c.at_=k:=⟨c.at_.toNat,by omega⟩;rw[hk]at aw ⊢;refine zj (H1.sl e_4) (by rw[List.getElem?_map,Qv omQ];rfl)<|qK (qQ (qZ ‹_› e_1 rfl ?_));refine yT omQ<|qR rfl<|qR rfl<|qm H2 .here rfl (by simp) rfl λh3 H3=>?_;refine qF H3 .here rfl omQ rfl<|qW ⟨rfl,aD.I H3.drop⟩
 refine qj c6 ?_;rw[iQ c6];refine qJ (qK (qQ (qZ ‹_› e_1 rfl ?_)));refine qK (qQ (qZ ‹_› e_1 rfl ?_));have aw:=O.IU hg omQ;obtain⟨k,hk⟩:∃k:Nat,c.at_=k:=⟨c.at_.toNat,by omega⟩;rw[hk]at aw ⊢;refine zj (H1.sl e_4) (by rw[List.getElem?_map,Qv omQ];rfl)<|qK (qQ (qZ ‹_› e_1 rfl ?_));refine qK (qQ (qZ ‹_› e_1 rfl ?_));rw[hk];refine xV (H1.sl e_5) omQ omQ (Zi omQ)<|qR rfl<|qm H2 .here rfl (by simp) rfl λh3 H3=>?_;refine qF H3 .here rfl omQ rfl<|qW ⟨rfl,aD.I H3.drop⟩
theorem qy3 {me sp st a w:Int} {v1 v2:AV} {r:List zm} {cs:List Cl} (hn:5≤n) (hr:r.length≤1000) (h0:0<cs.length) (hl:cs.length≤1000) (hc:∀c∈cs,0≤c.1∧c.1<100000)
  (H:HS g h (qB 117 2 r.length v1 (r.flatMap gX)::qB 170 2 cs.length v2 (cs.flatMap zz)::R)) :
  aE n 103 [.int .i64 me,.int .i64 sp,.int .u64 st,v1,v2,.int .i64 a,.int .i64 w] h λv h'=>∃b,v=.ptr b 0∧HS g h' (aD b (Xu me sp st r cs a w)::R):=by
 refine PP rfl omQ λk hk=>?_;unfold S103;try simp only[iZ]
 refine qG (RP omQ H) ?_;rintro _ h1 ⟨rfl,H1⟩;refine qG (Kq omQ H1 .here (YH (λ_=>rfl) _) omQ) λu1 h2 H2=>?_;refine qG (qKF omQ H2 e_2 omQ) λu2 h3 H3=>?_;refine qG (qGR omQ H3 (H3.rd e_3) h0 hl hc) λu3 h4 H4=>?_;have o1:=H4.one e_2;have o2:=H4.one e_1;have o3:=H4.one .here;unfold y7;refine qR (by simp only[vj,o1.1,o2.1,o3.1];rfl)<|qP H4 (by show jY [_,_,_,_,_,_,_,u1,u2,u3,_,_,_,_,_,_,_,_,_,_,_]=true;simp only[jY,List.all_cons,o1.2,o2.2,o3.2];rfl) λb h5 H5=>?_;have H6:=H5.ak (e:=68) (sz:=3);have H7:HS g h5 (aD b ⟨AS me sp,me,st,r,cs,x9 cs a w,[],0,0,bT,0,false,0,0,0⟩::R) :=
  aD.I (sv:=u1) (cv:=u2) (tv:=u3) (wv:=.ak) (H6.pk [1,3,2,1,0] 2)
 refine qG (qX5 omQ H7) λ_ h6 H8=>qW ⟨b,rfl,H8⟩
end
end
section
def vz (a:cx):Prop:=0≤a.word∧a.word<18446744073709551616
theorem Jb {p:Xa} {a:cx} (h:(jV p a).1=true):(jV p a).2.fin≠0:=by
 unfold jV at h ⊢
 split
 ·nofun
 grind
theorem RY {p:Xa} {l:di} (hp:0≤p.ay∧p.ay≤4) (h:(jA p l).1=true):(jA p l).2.fin=p.fin∧0≤(jA p l).2.ay∧(jA p l).2.ay≤4:=by
 unfold jA at h ⊢
 grind
theorem qWE {me sp:Int}:U9 (AS me sp):=λ_=>by show 0≤max 0 (min sp 4)∧max 0 (min sp 4)≤4;omega
theorem Gw {p:Xa} {f e y:Int} (h:f≠0):U9 (zR p f e y):=λhf=>absurd hf h
theorem G5 {f:Qg} {a:cx} (hp:U9 f.p):U9 (jE f a).p:=by
 unfold jE;cases hs:(jV f.p a).1 with
 |true=>rw[iJ rfl];exact λh=>absurd h (Jb hs)
 |false=>
  rw[iQ aS];have hg:=(YR hs).2;unfold gA
  split
  ·grind
  ·split
   ·nofun
   ·split
    ·split
     ·rename_i hw;exact λ_=>(RY (hp hg) hw).2
     nofun
    ·split
     all_goals simp_all[Gw,od]
theorem qy5 {me sp:Int} {r:List zm} (hr:r.length≤16):Vd (uF me sp r):=⟨qWE,Int.le_refl _,by show(0:Int)≤1000;simp,hr,by show(0:Int)≤_;omega,λ_ h=>by cases h⟩
theorem qXo {x:kc} (hp:U9 x.p) (h0:0≤x.at_) (h1:x.at_≤x.seen.length) (hr:x.seen.length≤16):Vd (Qa x):=by
 unfold Qa
 split
 ·exact⟨Gw od,h0,by grind,hr,h1,nofun⟩
 ·exact⟨hp,h0,by omega,hr,h1,λ_ _=>by omega⟩
theorem KK {x:kc} {a:cx} (O:Vd x):Vd (je x a):=by
 unfold je;cases hs:(jV x.p a).1 with
 |true=>rw[iJ rfl];exact⟨λh=>absurd h (Jb hs),O.lo,O.hi,O.len,O.le,λh=>absurd h (Jb hs)⟩
 |false=>
  rw[iQ aS];have hg:=(YR hs).2;have dB:=O.lo;have mi:=O.hi;have hlen:=O.len
  split
  ·exact qXo O.p dB O.le hlen
  ·rename_i hl;have hl:x.bD=true:=by grind
   have eI:=O.lU hg hl
   split
   ·split
    ·rename_i hw;have:=RY (O.p hg) hw;exact⟨λ_=>this.2,dB,mi,hlen,O.le,λ_ _=>eI⟩
    ·exact⟨Gw od,dB,mi,hlen,O.le,λh=>by grind⟩
   ·split
    ·exact⟨Gw od,dB,mi,hlen,O.le,λh=>by grind⟩
    ·exact qXo O.p (by grind) (by grind) hlen
section
variable {c:jw}
theorem Zx (r:c.s.Pairwise (· < ·)) (h:zf 1 c.p.ay 6 c.at_ c.now c.bx c.seen.length c.cells.length c.s.length c.ax.length) (hs:c.state=6) (hp:0≤c.p.ay∧c.p.ay≤4) (ha:c.at_≤c.s.length):xA (xX c):=by
 unfold xX;unfold zf at h
 split
 ·refine⟨r,?_⟩;show zf 2 c.p.ay c.state c.at_ c.now c.bx c.seen.length c.cells.length c.s.length c.ax.length;grind[zf]
 ·refine⟨r,?_⟩;grind[zf]
theorem MM (r:c.s.Pairwise (· < ·)) (h:zf 1 c.p.ay 5 c.at_ c.now c.bx c.seen.length c.cells.length c.s.length c.ax.length) (hs:c.state=5) (hp:0≤c.p.ay∧c.p.ay≤4) (ha:c.at_≤c.cells.length):xA (zG c):=by
 unfold zG;unfold zf at h
 split
 ·refine Zx r ?_ rfl hp (by simp);grind[zf]
 ·refine⟨r,?_⟩;grind[zf]
theorem Gt (r:c.s.Pairwise (· < ·)) (h:zf 1 c.p.ay 4 c.at_ c.now c.bx c.seen.length c.cells.length c.s.length c.ax.length) (hp:0≤c.p.ay∧c.p.ay≤4):xA (zp c):=by unfold zp;unfold zf at h;refine MM r ?_ rfl hp (by simp);grind[zf]
theorem MF (r:c.s.Pairwise (· < ·)) (h:zf 1 c.p.ay 7 c.at_ c.now c.bx c.seen.length c.cells.length c.s.length c.ax.length) (hs:c.state=7) (ha:c.at_≤c.ax.length):xA (xw c):=by
 unfold xw;unfold zf at h
 split
 ·refine⟨r,?_⟩;show zf c.bx c.p.ay c.state c.at_ c.now c.bx c.seen.length c.cells.length c.s.length c.ax.length;grind[zf]
 ·refine⟨r,?_⟩;grind[zf]
theorem GY {f e y:Int} (r:c.s.Pairwise (· < ·)) (h:zf 1 c.p.ay c.state c.at_ c.now c.bx c.seen.length c.cells.length c.s.length c.ax.length) (hf:f≠0):xA (zP c f e y):=by unfold zP;unfold zf at h;refine MF r ?_ rfl (by simp);grind[zf]
theorem xA.dead (O:xA c):zf 1 c.p.ay c.state c.at_ c.now c.bx c.seen.length c.cells.length c.s.length c.ax.length:=by have h:=O.ar;grind[zf]
theorem OG {l:di} (O:xA c) (hg:c.p.fin=0) (hs:c.state≤6):xA (xn c l):=by
 unfold xn;have h:=O.ar
 split
 ·rename_i hw;have:=RY (O.p hg hs) hw;refine⟨O.cY,?_⟩;grind[zf]
 ·refine GY O.cY ?_ od;grind[zf,jA]
theorem qJs (r:c.s.Pairwise (· < ·)):∀(m:Nat) (a:Int),zf 1 c.p.ay 4 a c.now c.bx c.seen.length c.cells.length c.s.length c.ax.length→(0≤c.p.ay∧c.p.ay≤4)→xA (zM { c with state:=4,at_:=a } m):=by
 intro m
 induction m with
 |zero=>intro a h hp;exact Gt r h hp
 |succ m ih=>
  intro a h hp;unfold zM;dsimp only
  split
  ·rename_i aw
   split
   ·refine⟨r,?_⟩;grind[zf]
   ·split
    ·simp_all[GY,od]
    grind[zf]
  grind[Gt]
theorem My (r:c.s.Pairwise (· < ·)) (h:zf 1 c.p.ay 4 c.at_ c.now c.bx c.seen.length c.cells.length c.s.length c.ax.length) (hp:0≤c.p.ay∧c.p.ay≤4):xA (xu c):=qJs r _ c.at_ h hp
set_option maxHeartbeats 4000000 in
theorem yL {a:cx} (O:xA c) (ha:vz a):xA (qp c a):=by
 have h:=O.ar;have hd:=O.dead;unfold qp;cases hs:(jV c.p a).1 with
 |true=>rw[iJ rfl];have hf:=Jb hs;refine⟨O.cY,?_⟩;show zf (jV c.p a).2.fin (jV c.p a).2.ay c.state c.at_ c.now c.bx c.seen.length c.cells.length c.s.length c.ax.length;unfold zf at h ⊢;omega
 |false=>
  rw[iQ aS];have hg:=(YR hs).2;have ha:=ha.1;rw[hg]at h
  split
  ·rename_i bZ;unfold vV
   split
   ·exact OG O hg omQ
   ·split
    ·refine⟨O.cY,?_⟩;show zf c.p.fin c.p.ay 1 c.at_ c.now c.bx c.seen.length c.cells.length c.s.length c.ax.length;rw[hg];unfold zf at h ⊢;omega
    ·split
     ·unfold zV;dsimp only;have hl:(c.ax++[c.lk]).length=c.ax.length+1:=by simp
      split
      ·refine⟨O.cY,?_⟩;show zf c.p.fin c.p.ay 2 c.at_ c.now c.bx c.seen.length c.cells.length c.s.length (c.ax++[c.lk]).length;rw[hg];unfold zf at h ⊢;omega
      ·refine⟨O.cY,?_⟩;show zf c.p.fin c.p.ay 0 c.at_ c.now c.bx c.seen.length c.cells.length c.s.length (c.ax++[c.lk]).length;rw[hg];unfold zf at h ⊢;omega
     ·refine⟨O.cY,?_⟩;show zf c.p.fin c.p.ay 0 c.at_ c.now c.bx c.seen.length c.cells.length c.s.length c.ax.length;rw[hg];unfold zf at h ⊢;omega
  split
  ·unfold yB
   split
   ·exact GY O.cY hd od
   ·split
    ·refine⟨O.cY,?_⟩;show zf c.p.fin c.p.ay 3 c.at_ a.word c.bx c.seen.length c.cells.length c.s.length c.ax.length;rw[hg];unfold zf at h ⊢;omega
    ·split
     ·refine⟨O.cY,?_⟩;show zf c.p.fin c.p.ay 2 c.at_ c.now c.bx c.seen.length c.cells.length c.s.length c.ax.length;rw[hg];unfold zf at h ⊢;omega
     ·have h4:zf 1 c.p.ay 4 c.at_ c.now c.bx c.seen.length c.cells.length c.s.length c.ax.length:=by unfold zf at h ⊢;omega
      split
      ·exact Gt O.cY h4 (O.p hg omQ)
      ·exact My O.cY h4 (O.p hg omQ)
  split
  ·rename_i h4;unfold yQ
   split
   ·exact OG O hg omQ
   ·split
    ·exact GY O.cY hd od
    ·refine My O.cY ?_ (O.p hg omQ);show zf 1 c.p.ay 4 (c.at_+1) c.now c.bx c.seen.length c.cells.length c.s.length c.ax.length;unfold zf at h ⊢;omega
  split
  ·rename_i h5;have:=O.IS hg h5;refine MM O.cY ?_ h5 (O.p hg omQ) (by show c.at_+1≤(c.cells.length:Int);omega);show zf 1 c.p.ay 5 (c.at_+1) c.now c.bx c.seen.length c.cells.length c.s.length c.ax.length;unfold zf at h ⊢;omega
  split
  ·rename_i h6;have:=O.IT hg h6;refine Zx O.cY ?_ h6 (O.p hg omQ) (by show c.at_+1≤(c.s.length:Int);omega);show zf 1 c.p.ay 6 (c.at_+1) c.now c.bx c.seen.length c.cells.length c.s.length c.ax.length;unfold zf at h ⊢;omega
  ·have bZ:=O.st;have h7:c.state=7:=by omega
   have:=O.IU hg h7;refine MF O.cY ?_ h7 (by show c.at_+1≤(c.ax.length:Int);omega);show zf 1 c.p.ay 7 (c.at_+1) c.now c.bx c.seen.length c.cells.length c.s.length c.ax.length;unfold zf at h ⊢;omega
theorem qgH {me sp st a w:Int} {r:List zm} {cs:List Cl} (hr:r.length≤16) (h0:0<cs.length) (hl:cs.length≤1000) (hc:∀c∈cs,0≤c.1):xA (Xu me sp st r cs a w):=by
 have h1:(x9 cs a w).length≤16:=by unfold x9;grind
 have h2:0<(x9 cs a w).length:=by obtain⟨c,Px⟩:=List.exists_mem_of_length_pos h0;exact List.length_pos_of_mem ((Jn hc).2 (List.mem_map.2 ⟨c,Px,rfl⟩))
 unfold Xu zV;rw[iQ (by grind)];refine⟨Kn,?_⟩;show zf 0 (max 0 (min sp 4)) 0 0 0 0 r.length cs.length (x9 cs a w).length 0;grind[zf]
end
end
section
theorem qk6 {l:List qa} (F:Fit l) (Q:Quiet l):∀(n:Nat) {s:IM} {V:VM},GI l s V→bO V.lv+n<9000→(jr l (qT l) n s V).kind=1→bO (jr l (qT l) n s V).v.lv+(jr l (qT l) n s V).left≤bO V.lv+n:=by
 intro n
 induction n with
 |zero=>
  grind[Js]
 |succ n ih=>
  intro s V G hf;rw[JI]
  split
  ·simp
  ·rename_i h0;obtain⟨i,hi,oT⟩:=G.pc;have aw:i<l.length:=by omega
   rw[hi];have S:=UK F G hi aw omQ (Q.at aw).2 (Q.at aw).1;generalize bK (qT l) s V (qf l i)=D at*
   split
   ·rename_i h1
    split
    ·simp
    ·rename_i h2;have Dj:=S.fr;intro h;have:=ih (S.next h1 (by grind)) omQ h;omega
   ·split
    ·rename_i dy;obtain⟨n1,n2,_⟩:=S.aB dy;grind
    simp
theorem qvd {l:List qa} {mt:List Int}:∀(n:Nat) {s:IM} {V:VM},(jr l mt n s V).kind=1→(jr l mt n s V).err=0:=by
 intro n
 induction n with
 |zero=>grind[Js]
 |succ n ih=>
  grind[JI,bK,qf]
theorem qx5 {V:VM} {p x:Int} (h1:1≤p) (h2:p<V.sz) (h3:jO p V.K=none):xc V p x=(0,{ V with K:=V.K++[(p,x)] }):=by simp_all[xc]
theorem jQA {l:List qa} {s:IM} {V:VM} {p x:Int} (G:GI l s V) (hx:0≤x∧x<18446744073709551616):GI l s (xc V p x).2:=by
 have hl:(xc V p x).2.lv=V.lv:=by
  grind[xc]
 refine⟨G.gb,G.pc,G.mM,G.told,G.FD,by rw[hl];exact G.lv,⟨qKH G.aH.ok,?_⟩⟩;unfold xc
 split
 ·split
  ·exact G.aH.wd
  ·refine⟨λc hc=>?_,G.aH.wd.l⟩;rcases List.mem_append.1 hc with hc |hc
   ·exact G.aH.wd.k c hc
   grind
 ·exact G.aH.wd
theorem qgT {l:List qa} {mt:List Int}:∀(n:Nat) {s:IM} {V:VM},(jr l mt n s V).left≤n:=by
 intro n
 induction n with
 |zero=>intro s V;rw[Js];grind
 |succ n ih=>
  intro s V;rw[JI];grind
end
section
structure xM (S:jD):Prop where
  words:32≤S.words∧S.words≤256
  ae:1≤S.ae∧S.ae≤16
  wide:1≤S.wide∧S.wide≤16
  ad:1≤S.ad∧S.ad≤4
  start:0≤S.start∧S.start≤4611686018427387903
  ay:0≤S.ay∧S.ay≤4
  writes:0≤S.writes∧S.writes≤96
  fuel:0≤S.fuel∧S.fuel≤400
theorem XU {n lo hi:Int} (h:lo≤hi):lo≤kz n lo hi∧kz n lo hi≤hi:=by grind[kz]
theorem yw {n lo hi:Int} (h:lo≤n∧n≤hi):kz n lo hi=n:=by grind[kz]
theorem yr {s:jD} (h:0≤s.start):xM (jk s) :=
 ⟨XU omQ,XU omQ,XU omQ,XU omQ,by show 0≤min s.start 4611686018427387903∧min s.start 4611686018427387903≤4611686018427387903;omega,XU omQ,XU omQ,XU omQ⟩
theorem kT {S:jD} (O:xM S):jk S=S:=by obtain⟨a,b,c,d,e,f,g,i⟩:=O;simp_all[jk,yw,min]
theorem UR {M:VM} {b:Int} (h:(xj M b).1=11):Xs M (xj M b).2:=by
 have ha:=jJ5 M b;unfold xj at h ⊢
 split
 ·rename_i h1;rw[iJ h1]at h;have e:=ha.2 h1
  split
  ·grind
  ·rename_i h2;rw[iQ h2]at h
   split
   ·rename_i h3;rw[iJ h3]at h;grind[Kl]
   simp_all[Qs]
 simp_all[qXh]
theorem Uk {M:VM} {b:Int} (O:dP M):Xm M (xj M b).2:=by
 have ha:=qJ6 M b;unfold xj
 repeat' split
 ·grind
 ·exact(ha.trans (yX _ _)).trans (wL (yO (Y4 O)))
 ·exact ha.trans (yX _ _)
 grind
theorem qX3:∀(bs:List Int) (k:Nat) {V:VM},ji V→ji (zK V bs k).2∧Xm V (zK V bs k).2∧bO (zK V bs k).2.lv=bO V.lv∧(zK V bs k).1.1≤k+bs.length∧
  ((zK V bs k).1.2=11→1≤(zK V bs k).2.aB∧(zK V bs k).2.aB<V.sz∧jO (zK V bs k).2.aB V.K=none):=by
 intro bs
 induction bs with
 |nil=>intro k V G;exact⟨G,.refl V,rfl,Nat.le_refl _,nofun⟩
 |cons b r ih=>
  intro k V G;have hg:=G.iD (b:=b);have hk:=Uk (b:=b) G.ok;by_cases h0:(xj V b).1=0
  ·rw[show zK V (b::r) k=zK (xj V b).2 r (k+1)from iJ h0];obtain⟨a1,a2,a3,a4,a5⟩:=ih (k+1) hg.1;refine⟨a1,hk.trans a2,a3.trans hg.2,by simp;omega,λh=>?_⟩;have:=a5 h;rw[hk.sz,hk.K]at this;omega
  ·rw[show zK V (b::r) k=((k,(xj V b).1),(xj V b).2)from iQ h0];exact⟨hg.1,hk,hg.2,by simp,λh=>(UR h).2⟩
def aX (live:Prop) (V:VM):wc→Prop
 | .prog q=>Fit q.l∧Quiet q.l∧GB q.s∧(live→GI q.l q.s V∧q.fin=0∧q.err=0∧bO V.lv+q.left<9000)∧q.left≤400
 | .au bs k=>k≤bs.length∧bs.length≤100000
theorem aX.dead {live nD:Prop} {V V':VM} {j:wc} (O:aX live V j) (h:¬nD):aX nD V' j:=by
 cases j with
 |prog q=>exact⟨O.1,O.2.1,O.2.2.1,λh'=>absurd h' h,O.2.2.2.2⟩
 |au bs k=>exact O
theorem aX.same {live nD:Prop} {V:VM} {j:wc} (O:aX live V j) (h:nD→live):aX nD V j:=by
 cases j with
 |prog q=>exact⟨O.1,O.2.1,O.2.2.1,λh'=>O.2.2.2.1 (h h'),O.2.2.2.2⟩
 |au bs k=>exact O
structure zH (x:qr):Prop where
  set:xM x.set
  aH:ji x.v
  sz:(x.v.sz:Int)=x.set.words
  fr:bO x.v.lv<9000
  r:x.r.length≤16
  ap:aX (x.state≤4) x.v x.ap
  st:0≤x.state∧x.state≤8
  f:x.state=3→U9 x.f.p∧0≤x.f.word∧x.f.word<18446744073709551616
  aB:3≤x.state→x.state≤4→1≤x.v.aB∧x.v.aB<x.v.sz∧jO x.v.aB x.v.K=none
  e:4≤x.state→x.state≤5→Vd x.e
  c:∀c,x.c=some c→xA c
  c0:x.state≤5→x.c=none
  c6:x.state=6→x.c≠none
structure FM (x:qr) (k:Int) (y:qr):Prop where
  aH:ji y.v
  kept:y.v.sz=x.v.sz∧y.v.K=x.v.K∧y.v.most=x.v.most
  fr:bO y.v.lv<9000
  ap:aX (k=1) y.v y.ap
  aB:k=1→1≤y.v.aB∧y.v.aB<x.v.sz∧jO y.v.aB x.v.K=none
  same:y.me=x.me∧y.set=x.set∧y.r=x.r∧y.aa=x.aa∧y.c=x.c
theorem Gj {x:qr} (hg:ji x.v) (hf:bO x.v.lv<9000) (hj:aX True x.v x.ap):FM x (z8 x).1.1 (z8 x).2:=by
 unfold z8;cases hx:x.ap with
 |prog q=>
  rw[hx]at hj;obtain⟨F,Q,gb,h,hl⟩:=hj;obtain⟨G,h0,h1,h2⟩:=h trivial;obtain⟨RB,rfr,_,rn,_⟩:=qkF F Q q.left G h2;refine⟨RB.aH,⟨RB.sz,RB.K,RB.most⟩,by grind,⟨F,Q,RB.gb,λhk=>?_,?_⟩,λhk=>?_,⟨rfl,rfl,rfl,rfl,rfl⟩⟩
  ·have hr:=qk6 F Q q.left G h2 hk;exact⟨(rn hk).1,iJ hk,qvd _ hk,by grind⟩
  ·have hr:=qgT (l:=q.l) (mt:=qT q.l) q.left (s:=q.s) (V:=x.v);grind
  grind
 |au bs k=>
  rw[hx]at hj;obtain⟨a1,a2,a3,a4,a5⟩:=qX3 (bs.drop k) k hg;refine⟨a1,⟨a2.sz,a2.K,a2.most⟩,by grind,⟨by rw[List.length_drop]at a4;have:=hj.1;omega,hj.2⟩,λh=>?_,⟨rfl,rfl,rfl,rfl,rfl⟩⟩
  grind
structure QR (x:qr):Prop where
  set:xM x.set
  aH:ji x.v
  sz:(x.v.sz:Int)=x.set.words
  fr:bO x.v.lv<9000
  r:x.r.length≤16
  ap:aX False x.v x.ap
  c:∀c,x.c=some c→xA c
theorem zH.b {x:qr} (O:zH x):QR x:=⟨O.set,O.aH,O.sz,O.fr,O.r,O.ap.dead not_false,O.c⟩
theorem QR.out {x:qr} (B:QR x) {f e y:Int}:zH (zh x f e y) :=
 ⟨B.set,B.aH,B.sz,B.fr,B.r,B.ap.dead (by nofun),by show(0:Int)≤7∧(7:Int)≤8;simp,λh=>(by cases h),λ_ h=>(by cases h),λ_ h=>(by cases h),B.c,λh=>(by cases h),nofun⟩
theorem QR.gone {x:qr} (B:QR x) {f e y:Int}:zH { zh x f e y with state:=8 } :=
 ⟨B.set,B.aH,B.sz,B.fr,B.r,B.ap.dead (by simp),by simp,λh=>(by grind),λ_ h=>(by grind),λ_ h=>(by grind),B.c,λh=>(by grind),λh=>by grind⟩
theorem QR.ask {x:qr} (B:QR x) (hj:aX True x.v x.ap) (hn:1≤x.v.aB∧x.v.aB<x.v.sz∧jO x.v.aB x.v.K=none) (hc:x.c=none):zH (J3 x x.v.aB) :=
 ⟨B.set,B.aH,B.sz,B.fr,B.r,hj.same λ_=>trivial,by show(0:Int)≤3∧(3:Int)≤8;simp,λ_=>⟨qWE,by show(0:Int)≤0;simp,by show(0:Int)<_;simp⟩,λ_ _=>hn,λh=>absurd h (by nofun),B.c,λ_=>hc,nofun⟩
theorem QR.later {x:qr} (B:QR x) (hc:x.c=none) {s:Int} (hs:s=4∨s=5) (hj:s=4→aX True x.v x.ap∧1≤x.v.aB∧x.v.aB<x.v.sz∧jO x.v.aB x.v.K=none):zH (gV x s):=by
 refine⟨B.set,B.aH,B.sz,B.fr,B.r,?_,by show 0≤s∧s≤8;omega,λh=>?_,λ_ h=>(hj ?_).2,λ_ _=>qy5 B.r,B.c,λ_=>hc,λh=>?_⟩
 ·show aX (s≤4) x.v x.ap;rcases hs with rfl |rfl
  ·grind
  ·exact B.ap.dead od
 ·have h:s=3:=h;omega
 ·have h:s≤4:=h;omega
 ·have h:s=6:=h;omega
theorem V5 {V:VM} (O:dP V):(jz V.lv).length≤96∧∀c∈jz V.lv,1≤c.1∧c.1<256:=by have h1:=MP V.lv [];have h2:=O.iS.held;have h3:=O.iS.le;exact⟨by grind[jz],Nu V.lv [] (λc hc=>by grind) O.iS.ins⟩
theorem QR.iH {x:qr} (B:QR x) (hj:aX True x.v x.ap) (hc:x.c=none):zH (xp x):=by
 have D:=Gj B.aH B.fr hj;unfold xp;generalize(z8 x).1.1=k at*;generalize(z8 x).1.2=e at*;generalize(z8 x).2=y at*;obtain⟨e1,e2,e3,e4,e5⟩:=D.same;have rq:y.c=none:=by grind
 have B':QR y:=⟨by rw[e2];exact B.set,D.aH,by rw[D.kept.1,e2];exact B.sz,D.fr,by rw[e3];exact B.r,D.ap.same λh=>h.elim,λc h=>by grind⟩;unfold xd
 split
 ·rename_i h1;exact B'.ask (D.ap.same λ_=>h1) (by have:=D.aB h1;rw[D.kept.1,D.kept.2.1];grind) rq
 ·split
  ·exact QR.later (x:={ y with cS:=true }) ⟨B'.set,B'.aH,B'.sz,B'.fr,B'.r,B'.ap,B'.c⟩ rq (.inr rfl) λh=>by grind
  ·split
   ·exact B'.out
   ·split
    ·exact B'.out
    ·rename_i hm;have EQ:=V5 D.aH.ok;refine⟨B'.set,B'.aH,B'.sz,B'.fr,B'.r,B'.ap.dead (by simp),by simp,λh=>(by grind),λ_ h=>(by grind),λ_ h=>(by grind),λc h=>?_,λh=>(by grind),λ_ h=>by grind⟩;cases h;exact qgH B'.r (List.length_pos_iff.2 hm) omQ λc hc=>by grind
theorem XY {r:List zm} {x:zm} (h:r.length≤16):(vw r x).2.length≤16:=by
 grind[vw,List.length_append,List.length_singleton]
theorem wV {V:VM} {p x:Int}:(xc V p x).2.lv=V.lv∧(xc V p x).2.sz=V.sz:=by
 unfold xc
 grind
theorem Qo {V:VM} {p x:Int} (G:ji V) (hx:0≤x∧x<18446744073709551616):ji (xc V p x).2:=by
 refine⟨qKH G.ok,?_⟩;unfold xc
 split
 ·split
  ·exact G.wd
  ·refine⟨λc hc=>?_,G.wd.l⟩;rcases List.mem_append.1 hc with hc |hc
   ·exact G.wd.k c hc
   grind
 ·exact G.wd
theorem aX.hX {V:VM} {j:wc} {p x:Int} (O:aX True V j) (hx:0≤x∧x<18446744073709551616):aX True (xc V p x).2 j:=by
 cases j with
 |prog q=>exact⟨O.1,O.2.1,O.2.2.1,λ_=>⟨jQA (O.2.2.2.1 trivial).1 hx,(O.2.2.2.1 trivial).2.1,(O.2.2.2.1 trivial).2.2.1,by rw[wV.1];exact(O.2.2.2.1 trivial).2.2.2⟩,O.2.2.2.2⟩
 |au bs k=>exact O
theorem Xj {f:Qg} (h:0≤f.word∧f.word<18446744073709551616):0≤xm f∧xm f<18446744073709551616:=by
 grind[xm]
theorem Q3 {f:Qg} {a:cx} (h:0≤f.word∧f.word<18446744073709551616) (ha:vz a):0≤(jE f a).word∧(jE f a).word<18446744073709551616:=by
 unfold jE gA
 repeat' split
 all_goals first |exact h |exact ha
theorem QR.my {x:qr} (B:QR x) (hj:aX True x.v x.ap) (hn:1≤x.v.aB∧x.v.aB<x.v.sz∧jO x.v.aB x.v.K=none) (hc:x.c=none) (hw:0≤x.f.word∧x.f.word<18446744073709551616):zH (jh x):=by
 unfold jh
 split
 ·exact B.later hc (.inl rfl) λ_=>⟨hj,hn⟩
 ·have hx:=Xj hw
  split
  ·refine QR.iH ?_ (hj.hX hx) hc;exact⟨B.set,Qo B.aH hx,by grind[xc,xm,sz,wV],by rw[wV.1];exact B.fr,XY B.r,(hj.hX hx).same λh=>h.elim,B.c⟩
  ·split<;>exact B.out
theorem NT {x:qr} (O:zH x):zH (q9 x):=by
 unfold q9
 split
 ·split
  ·exact⟨O.set,O.aH,O.sz,O.fr,O.r,O.ap,O.st,O.f,O.aB,O.e,O.c,O.c0,O.c6⟩
  grind
 grind
theorem qJf {x:qr} (O:zH x) (h3:3≤x.state) (_:x.state≤6):zH (jF x):=by
 unfold jF
 split
 ·rename_i hs;exact O.b.my (O.ap.same λ_=>by omega) (O.aB omQ omQ) (O.c0 omQ) (O.f hs).2
 ·split
  ·rename_i hs;exact QR.ask ⟨O.set,O.aH,O.sz,O.fr,O.r,O.ap.dead not_false,O.c⟩ (O.ap.same λ_=>by omega) (O.aB omQ omQ) (O.c0 omQ)
  ·split
   ·exact QR.out (x:={ x with aa:=yC x.e }) ⟨O.set,O.aH,O.sz,O.fr,O.r,O.ap.dead not_false,O.c⟩
   ·split
    ·exact O.b.out
    grind
def vt (x:qr):qr:=if(zA x).1=0 then x else if(zA x).1=5 then zh x 5 0 (zA x).2 else jF x
theorem Zy {x:qr} (O:zH x) (h3:3≤x.state) (h6:x.state≤6):zH (vt x):=by
 unfold vt
 split
 ·grind
 ·split
  ·exact O.b.out
  grind[qJf]
theorem Kz {x:qr} (O:zH x) (h3:3≤x.state) (h6:x.state≤6):zH (jZ x):=NT (Zy O h3 h6)
theorem Xy {x:qr} {a:cx} (O:zH x) (ha:vz a):zH (qS x a):=by
 have bZ:=O.st;unfold qS
 split
 ·grind
 ·split
  ·exact O.b.gone
  ·split
   ·exact⟨O.set,O.aH,O.sz,O.fr,O.r,O.ap.same λ_=>by omega,by simp,λh=>(by grind),λh=>absurd h (by simp),λh=>absurd h (by simp),O.c,λ_=>O.c0 omQ,λh=>by grind⟩
   ·split
    ·exact⟨O.set,O.aH,O.sz,O.fr,O.r,O.ap.same λ_=>by omega,by simp,λh=>(by grind),λh=>absurd h (by simp),λh=>absurd h (by simp),O.c,λ_=>O.c0 omQ,λh=>by grind⟩
    ·split
     ·exact O.b.iH (O.ap.same λ_=>by omega) (O.c0 omQ)
     ·split
      ·exact⟨O.set,O.aH,O.sz,O.fr,O.r,O.ap.dead (by simp),by simp,λh=>(by grind),λ_ h=>(by grind),λ_ h=>(by grind),O.c,λh=>(by grind),λh=>by grind⟩
      ·split
       ·rename_i hs;have hf:=O.f hs;refine Kz ?_ (by grind) (by grind);exact⟨O.set,O.aH,O.sz,O.fr,O.r,O.ap,O.st,λ_=>⟨G5 hf.1,Q3 hf.2 ha⟩,O.aB,O.e,O.c,O.c0,O.c6⟩
       ·split
        ·rename_i hs;refine Kz ?_ (by grind) (by grind);refine⟨O.set,O.aH,O.sz,O.fr,O.r,O.ap,O.st,O.f,O.aB,O.e,λc h=>?_,λh=>absurd h (by grind),λh hn=>O.c6 h ?_⟩
         ·obtain⟨c',h1,rfl⟩:=Option.map_eq_some_iff.1 h;exact yL (O.c c' h1) ha
         simp_all
        ·refine Kz ?_ (by grind) (by grind);exact⟨O.set,O.aH,O.sz,O.fr,O.r,O.ap,O.st,O.f,O.aB,λh1 h2=>KK (O.e h1 h2),O.c,O.c0,O.c6⟩
theorem ZV (w m:Int):ji (Nl w m):=⟨jQD w m,λc hc=>(by cases hc),λx hx c hc=>by
 rcases List.mem_cons.1 hx with rfl |hx
 all_goals grind⟩
theorem qW0 {me:Int} {S:jD} {j:wc} (O:xM S) (hj:aX True (Nl S.words S.writes) j):zH (K4 me S j):=by have:=O.words;refine⟨O,ZV _ _,?_,by show(0:Nat)<9000;simp,Nat.zero_le _,hj.same λ_=>trivial,by show(0:Int)≤0∧(0:Int)≤8;simp,λh=>(by cases h),λh=>absurd h (by nofun),λh=>absurd h (by nofun),λc h=>(by cases h),λ_=>rfl,nofun⟩;show((eL S.words:Nat):Int)=S.words;grind[eL]
theorem qVP {me:Int} {S:jD} {l:List qa} (hs:0≤S.start) (hc:(zi l).2=0) (Q:Quiet l):zH (gL me S l):=by
 have O:=yr hs;refine qW0 O ?_;have G:=ZV (jk S).words (jk S).writes;have hf:kN (jk S).fuel≤400:=by grind[kN]
 exact⟨Mb hc,Q,(VP (l:=l) rfl G).gb,λ_=>⟨VP rfl G,rfl,rfl,by show(0:Nat)+kN (jk S).fuel<9000;omega⟩,hf⟩
theorem qZu {me:Int} {S:jD} {bs:List Int} (hs:0≤S.start) (hl:bs.length≤100000):zH (w8 me S bs):=qW0 (yr hs) ⟨Nat.zero_le _,hl⟩
end
section
structure xB where
  B8:Int
  ap:Int
  RZ:Int
  au:Bool
  kind:Int
  err:Int
  aP:Int
  aa:Int
  born:Int
  ended:Int
  reads:List Cl
  cells:List Cl
  ik:List Int
  dT:List UInt8
structure VV where
  kind:Int
  err:Int
  dT:List UInt8
  aa:Int
abbrev Va:Type:=Int×Int
structure qe where
  me:Int
  set:jD
  jobs:List (List qa)
  ap:Int
  state:Int
  au:Bool
  al:List Va
  ah:Int
  aI:Int
  now:Option qr
  born:Int
  dz:Bool
  af:List xB
  results:List VV
  ao:List Va
  aj:List Int
  dj:Int
  since:Int
  br:Bool
  bz:Int
def yJ (x:qr):Int:=if x.state≠8 then 0 else x.err
def JC (x:qr):Int:=if x.state≠8 then-1 else x.dj
def gG (x:qr):Bool:=decide (x.state≠8)&&x.cS
def zJ (t:qe):qe :=
 if t.ap=(t.jobs.length:Int)then{ t with born:=0,dz:=false,state:=6,now:=none }
 else{ t with born:=0,dz:=false,state:=1,now:=some (if t.au=true then w8 t.me t.set (t.al.map (·.1))else gL t.me t.set ((t.jobs[t.ap.toNat]?).getD [])) }
def xx (t:qe):qe:=zJ { t with ap:=t.ap+1,au:=false,al:=[],ah:=0,aI:=0 }
def gr (me:Int) (s:jD) (jobs:List (List qa)):qe :=
 xx ⟨max 0 (min me ((jk s).ad-1)),jk s,jobs.take 6,-1,0,false,[],0,0,none,0,false,[],[],[],[],0,0,false,0⟩
def zO (t:qe):Option dC:=if t.state=1 then t.now.bind zT else if t.state=2 then some (bA 8 t.dj 0)else if t.state=5 then some (bA 8 t.aj.length 0)else none
def jJ (t:qe) (x:qr) (pick:Int):xB :=
 ⟨t.me,t.ap,t.ah,t.au,if qM x=true then 2 else jK x,yJ x,x.aP,x.aa,t.born,pick,x.v.K,gZ x,zk x,zc x⟩
def gu (aI:Int):Int:=if aI≤0 then 1 else if aI=1 then 2 else if aI=2 then 4 else 8
def zo (t:qe) (draw:Int):qe :=
 if draw%(gu t.aI+1)=0 then zJ { t with bz:=0,state:=3 }else{ t with bz:=draw%(gu t.aI+1),state:=3 }
def jM (aj:List Int) (aa:Int):Bool:=aj.all λx=>decide (x=0∨aa<x)
def yy (t:qe):qe :=
 if(t.aj.length:Int)<t.set.ad then t
 else if(t.ao.filter λr=>jM t.aj r.2)=[]then xx { t with ao:=t.ao.filter λr=>!jM t.aj r.2 }
 else zJ { t with ao:=t.ao.filter (λr=>!jM t.aj r.2),au:=true,al:=t.ao.filter (λr=>jM t.aj r.2),ah:=0,aI:=0 }
def yE (t:qe):qe:=yy (if(t.aj.length:Int)=t.me then{ t with aj:=t.aj++[0] }else t)
def wq (t:qe):qe:=if t.ao=[]then xx t else yE { t with state:=5,aj:=[] }
def kX (t:qe) (fin:Int):qe:=xx (if fin=4 then{ t with ao:=t.ao++t.al }else t)
def zv (t:qe) (x:qr) (draw pick:Int):qe :=
 let u:={ t with af:=t.af++[jJ t x pick],ah:=t.ah+1 }
 if jK x=5 then
  (if 0≤JC x∧JC x<t.set.ad then{ u with aI:=u.aI+1,state:=2,dj:=JC x,br:=false }else zo { u with aI:=u.aI+1 } draw)
 else if jK x=3 then(if u.dz=true then zJ u else{ u with state:=4 })
 else if u.au=true then kX u (jK x)
 else wq { u with results:=u.results++[⟨jK x,yJ x,zc x,x.aa⟩],ao:=u.ao++(zk x).map λb=>(b,x.aa) }
def xz (t:qe) (x y:qr) (draw pick:Int):qe :=
 let u:={ t with now:=some y,born:=if y.begun=true∧x.begun=false then pick else t.born }
 if jK y=0 then u else zv u y draw pick
def ql (t:qe) (a:cx) (draw pick:Int):qe :=
 if t.state=1 then(match t.now with
  |none=>t
  |some x=>xz t x (qS x a) draw pick)
 else if t.state=2 then(if a.err=0∧a.word≠0∧(t.br=false∨a.word=t.since)then{ t with br:=true,since:=a.word }else zo t draw)
 else if t.state=5 then yE { t with aj:=t.aj++[if a.err≠0 then 0 else a.word] }
 else t
def qs (t:qe):qe:=if t.state=3 then(if t.bz-1=0 then zJ { t with bz:=0 }else{ t with bz:=t.bz-1 })else t
def gO (r:List zm) (aG dX:Int):Bool:=r.any λx=>decide (x.1=aG∧x.2≠dX)
def jN (t:qe) (aG dX:Int):qe:=match t.now with
 |none=>t
 |some x=>
  if gO x.r aG dX=true then(if t.state=4 then zJ t else if t.state=1∧gG x=true then{ t with dz:=true }else t)
  else t
def qH (t:qe):List xB:=t.af++(match t.now with
 |some x=>if t.state=1∧x.begun=true then[jJ t x 0]else[]
 |none=>[])
def vC (t:qe):Bool:=decide (t.state=1)&&(match t.now with |some x=>qM x |none=>false)
structure yj where
  s:jD
  m:zZ
  t:List qe
  aA:Int
  last:dC
  did:Bool
def yq (S:jD):zZ:=⟨List.replicate S.words.toNat 0,List.replicate S.ae.toNat bT,S.start,List.replicate S.ad.toNat 0,0⟩
def xP (s:jD) (jobs:List (List (List qa))):yj :=
 let S:=jk { s with ad:=(jobs.take 4).length }
 ⟨S,(qL (yq S) (bA 2 5 14)).2,(List.range S.ad.toNat).map λi:Nat=>gr i S (((jobs.take 4)[i]?).getD []),0,bA 0 0 0,false⟩
def xl (ts:List qe) (i:Nat) (aG dX:Int):List qe:=ts.mapIdx λk t=>if k=i then t else jN t aG dX
def jn (m:yj) (i:Nat) (draw:Int):yj:=match m.t[i]? with
 |none=>m
 |some t=>match zO t with
  |none=>{ m with aA:=m.aA+1,last:=bA 0 0 0,did:=false,t:=m.t.set i (qs t) }
  |some o=>
   let r:=qL m.m o
   let ts:=m.t.set i (ql t r.1 draw (m.aA+1))
   { m with aA:=m.aA+1,last:=o,did:=true,m:=r.2,t:=if o.kind=5 then xl ts i o.at_ o.lk.1 else ts }
def gj (m:yj):List xB:=m.t.flatMap qH
def wx (m:yj):Bool:=m.t.any vC
end
end Go.Proofs.YtolpbdncppeohaaGreatDoor
