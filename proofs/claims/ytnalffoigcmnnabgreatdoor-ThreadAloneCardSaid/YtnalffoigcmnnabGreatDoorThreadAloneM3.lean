/- Lemmas for 'quietus/quietuslaw27.ThreadAlone': Transactions step by step: plain, as the program has them;The memory: by the program;Patience, a fetch: by the program;The memorys operations: by the ... No condition. -/
import Derived.Test.YtnalffoigcmnnabGreatDoorThreadAloneM2
import Derived.Test.YtnalffoigcmnnabGreatDoorThreadAloneX
namespace Go.Proofs.YtnalffoigcmnnabGreatDoor
open Go Go.Ae
abbrev LkM:Type:=Int×Bool×Int
structure OpM where
  kind:Int
  at_:Int
  old:Int
  word:Int
  was:LkM
  lk:LkM
structure AnM where
  word:Int
  lk:LkM
  done:Bool
  err:Int
structure jL where
  w:List Int
  l:List LkM
  n:Int
  s:List Int
  cnt:Int
def lk0:LkM:=(0,false,0)
def op0 (kind at_ word:Int):OpM:=⟨kind,at_,0,word,lk0,lk0⟩
def an0:AnM:=⟨0,lk0,false,0⟩
def anE (e:Int):AnM:=⟨0,lk0,false,e⟩
def GA (l:LkM):Prop:=l.1<4611686018427387904∧(if l.2.1=true then 0≤l.2.2∧l.2.2<4 else l.2.2=0)
instance {l:LkM}:Decidable (GA l):=by unfold GA;infer_instance
def zq (l:List LkM) (i:Int):LkM:=(l[i.toNat]?).getD lk0
def J0 (m:jL) (o:OpM):AnM×jL :=
 if o.at_<1∨(m.w.length:Int)≤o.at_ then(anE 2,m)else if o.kind=1 then(⟨qM m.w o.at_,lk0,false,0⟩,m)else(an0,{ m with w:=m.w.set o.at_.toNat o.word })
def QV (m:jL) (o:OpM):AnM×jL :=
 if o.at_<0∨(m.l.length:Int)≤o.at_ then(anE 2,m)
 else if o.kind=3 then(⟨0,zq m.l o.at_,false,0⟩,m)
 else if¬GA o.lk then(anE 1,m)
 else if o.kind=5 then(an0,{ m with l:=m.l.set o.at_.toNat o.lk })
 else if zq m.l o.at_≠o.was then(an0,m)
 else(⟨0,lk0,true,0⟩,{ m with l:=m.l.set o.at_.toNat o.lk })
def Jb (m:jL) (o:OpM):AnM×jL :=
 if o.kind=6 then(⟨m.n,lk0,false,0⟩,m)
 else if o.word≤o.old then(anE 1,m)
 else if 4611686018427387904≤o.word then(anE 7,m)
 else if m.n≠o.old then(an0,m)
 else(⟨0,lk0,true,0⟩,{ m with n:=o.word })
def Gx (m:jL) (o:OpM):AnM×jL :=
 if o.at_<0∨(m.s.length:Int)≤o.at_ then(anE 2,m)else if o.kind=8 then(⟨qM m.s o.at_,lk0,false,0⟩,m)else(an0,{ m with s:=m.s.set o.at_.toNat o.word })
def jm (m:jL) (o:OpM):AnM×jL :=
 let r:=if o.kind=1∨o.kind=2 then J0 m o else if o.kind=3∨o.kind=4∨o.kind=5 then QV m o else if o.kind=6∨o.kind=7 then Jb m o else if o.kind=8∨o.kind=9 then Gx m o else(anE 1,m)
 if r.1.err=0 then(r.1,{ r.2 with cnt:=r.2.cnt+1 })else r
def ofM (at_ n wide:Int):Int:=if at_<0 then-1 else(at_/max 1 (min wide 16))%max 1 (min n 16)
def xE (cs:List Cl) (n wide:Int):List Int:=((List.range 16).map λi:Nat=>(i:Int)).filter λs=>cs.any λc=>decide (ofM c.1 n wide=s)
structure Jj where
  me:Int
  spins:Int
  fin:Int
  by_:Int
  err:Int
def QP (me spins:Int):Jj:=⟨me,max 0 (min spins 4),0,-1,0⟩
def zK (p:Jj) (l:LkM):Bool×Jj:=if p.me<l.2.2 then(true,p)else(decide (0≤p.spins-1),{ p with spins:=p.spins-1 })
def zx (p:Jj) (fin err by_:Int):Jj:={ p with fin:=fin,err:=err,by_:=by_ }
def qu (p:Jj) (a:AnM):Bool×Jj:=if p.fin=0∧a.err≠0 then(true,zx p 4 a.err (-1))else(decide (p.fin≠0),p)
abbrev xR:Type:=Int×Int
structure Qb where
  p:Jj
  at_:Int
  stripe:Int
  stamp:Int
  state:Int
  lk:LkM
  word:Int
def kT (me at_ stripe spins stamp:Int):Qb:=⟨QP me spins,at_,stripe,stamp,0,lk0,0⟩
def Ku (f:Qb):Option OpM:=if f.p.fin≠0 then none else if f.state=1 then some (op0 1 f.at_ 0)else some (op0 3 f.stripe 0)
def J3 (f:Qb) (l:LkM):Qb :=
 if l.2.1=true then(if(zK f.p l).1=true then{ f with state:=0,p:=(zK f.p l).2 }else{ f with state:=0,p:=zx (zK f.p l).2 5 0 l.2.2 })
 else if f.stamp<l.1 then{ f with state:=0,p:=zx f.p 6 0 (-1) }
 else{ f with lk:=l,state:=1 }
def xT (f:Qb) (a:AnM):Qb :=
 if(qu f.p a).1=true then{ f with p:=(qu f.p a).2 }
 else if f.state=1 then{ f with word:=a.word,state:=2 }
 else if f.state=2∧a.lk=f.lk then{ f with p:=zx f.p 2 0 (-1) }
 else J3 f a.lk
def yy (f:Qb):Int:=if f.p.fin≠2 then 0 else f.word
def yu (f:Qb):xR:=if f.p.fin≠2 then(0,0)else(f.stripe,f.lk.1)
structure QI where
  p:Jj
  seen:List xR
  loaded:Bool
  at_:Int
  stamp:Int
def VV (me spins:Int) (seen:List xR):QI:=⟨QP me spins,seen,false,0,0⟩
def zm (l:List xR) (i:Int):xR:=(l[i.toNat]?).getD (0,0)
def Jw (x:QI):Option OpM:=if x.p.fin≠0 then none else if x.loaded=false then some (op0 6 0 0)else some (op0 3 (zm x.seen x.at_).1 0)
def JM (x:QI):QI:=if x.at_=(x.seen.length:Int)then{ x with p:=zx x.p 2 0 (-1) }else x
def x7 (x:QI) (a:AnM):QI :=
 if(qu x.p a).1=true then{ x with p:=(qu x.p a).2 }
 else if x.loaded=false then JM { x with loaded:=true,stamp:=a.word }
 else if a.lk.2.1=true then(if(zK x.p a.lk).1=true then{ x with p:=(zK x.p a.lk).2 }else{ x with p:=zx (zK x.p a.lk).2 5 0 a.lk.2.2 })
 else if a.lk.1≠(zm x.seen x.at_).2 then{ x with p:=zx x.p 5 0 (-1) }
 else JM { x with at_:=x.at_+1 }
def gP (x:QI):Int:=if x.p.fin≠2 then 0 else x.stamp
structure zg where
  p:Jj
  me:Int
  stamp:Int
  seen:List xR
  cells:List Cl
  s:List Int
  was:List LkM
  state:Int
  at_:Int
  lk:LkM
  now:Int
  writing:Bool
  fin2:Int
  by2:Int
  err2:Int
def Qz (c:zg):zg:={ c with state:=if c.was.length=c.s.length then 2 else 0 }
def J2 (me spins stamp:Int) (seen:List xR) (cells:List Cl) (n wide:Int):zg :=
 Qz ⟨QP me spins,me,stamp,seen,cells,xE cells n wide,[],0,0,lk0,0,false,0,0,0⟩
def kJ (l:List Cl) (i:Int):Cl:=(l[i.toNat]?).getD (0,0)
def xo (c:zg):Option OpM :=
 if c.p.fin≠0 then none
 else if c.state=0 then some (op0 3 (qM c.s c.was.length) 0)
 else if c.state=1 then some ⟨4,qM c.s c.was.length,0,0,c.lk,(c.lk.1,true,c.me)⟩
 else if c.state=2 then some (op0 6 0 0)
 else if c.state=3 then some ⟨7,0,c.now,c.now+1,lk0,lk0⟩
 else if c.state=4 then some (op0 3 (zm c.seen c.at_).1 0)
 else if c.state=5 then some (op0 2 (kJ c.cells c.at_).1 (kJ c.cells c.at_).2)
 else if c.state=6 then some ⟨5,qM c.s c.at_,0,0,lk0,(c.now+1,false,0)⟩
 else some ⟨5,qM c.s c.at_,0,0,lk0,zq c.was c.at_⟩
def gk (c:zg):zg:=if c.at_=(c.was.length:Int)then{ c with p:=zx c.p c.fin2 c.err2 c.by2 }else c
def kA (c:zg) (fin err by_:Int):zg:=gk { c with fin2:=fin,err2:=err,by2:=by_,at_:=0,state:=7 }
def QY (c:zg) (l:LkM):zg:=if(zK c.p l).1=true then{ c with p:=(zK c.p l).2 }else kA { c with p:=(zK c.p l).2 } 5 0 l.2.2
def vq (c:zg):zg:=if c.at_=(c.s.length:Int)then{ c with p:=zx c.p 2 0 (-1) }else c
def vJ (c:zg):zg:=if c.at_=(c.cells.length:Int)then vq { c with at_:=0,state:=6 }else c
def wh (c:zg):zg:=vJ { c with writing:=true,at_:=0,state:=5 }
def ownM:List Int→List LkM→Int→Option Int
 |s::r,w::q,x=>if s=x then some w.1 else ownM r q x
 |_,_,_=>none
def vu (c:zg):Nat→zg
 | 0=>wh c
 |n+1=>
  if c.at_<(c.seen.length:Int)then
   (match ownM c.s c.was (zm c.seen c.at_).1 with
   |none=>c
   |some v=>if v≠(zm c.seen c.at_).2 then kA c 5 0 (-1)else vu { c with at_:=c.at_+1 } n)
  else wh c
def Qf (c:zg):zg:=vu { c with state:=4 } (c.seen.length+1)
def kC (c:zg) (a:AnM):zg :=
 if c.state=0∧a.lk.2.1=true then QY c a.lk
 else if c.state=0 then{ c with lk:=a.lk,state:=1 }
 else if a.done=true then Qz { c with was:=c.was++[c.lk] }
 else{ c with state:=0 }
def gM (c:zg) (a:AnM):zg :=
 if c.state=2∧4611686018427387903≤a.word then kA c 4 7 (-1)
 else if c.state=2 then{ c with now:=a.word,state:=3 }
 else if a.done=false then{ c with state:=2 }
 else if c.now=c.stamp then wh c
 else Qf c
def wx (c:zg) (l:LkM):zg :=
 if l.2.1=true then QY c l
 else if l.1≠(zm c.seen c.at_).2 then kA c 5 0 (-1)
 else Qf { c with at_:=c.at_+1 }
def zw (c:zg) (a:AnM):zg :=
 if(qu c.p a).1=true then{ c with p:=(qu c.p a).2 }
 else if c.state=0∨c.state=1 then kC c a
 else if c.state=2∨c.state=3 then gM c a
 else if c.state=4 then wx c a.lk
 else if c.state=5 then vJ { c with at_:=c.at_+1 }
 else if c.state=6 then vq { c with at_:=c.at_+1 }
 else gk { c with at_:=c.at_+1 }
def wQ (c:zg):Int:=if c.writing=false then 0 else c.now+1
def wB (c:zg):Bool:=c.writing&&decide (c.p.fin=0)
structure xw where
  words:Int
  stripes:Int
  wide:Int
  threads:Int
  start:Int
  spins:Int
  writes:Int
  fuel:Int
def Qu (n lo hi:Int):Int:=max lo (min n hi)
def jw (s:xw):xw:=⟨Qu s.words 32 256,Qu s.stripes 1 16,Qu s.wide 1 16,Qu s.threads 1 4,min s.start 4611686018427387903,Qu s.spins 0 4,Qu s.writes 0 96,Qu s.fuel 0 400⟩
structure RunS where
  l:List qR
  s:IM
  fin:Int
  err:Int
  left:Nat
inductive Jx where
  |prog (r:RunS)
  |sweep (blocks:List Int) (k:Nat)
structure jQ where
  me:Int
  set:xw
  job:Jx
  v:VM
  r:List xR
  state:Int
  f:Qb
  e:QI
  c:Option zg
  begun:Bool
  begin_:Int
  stamp:Int
  fin:Int
  by_:Int
  err:Int
  blocking:Bool
def G8 (me:Int) (S:xw) (job:Jx):jQ:=⟨me,S,job,QR S.words S.writes,[],0,kT 0 0 0 0 0,VV 0 0 [],none,false,0,0,0,-1,0,false⟩
def vh (me:Int) (S:xw) (l:List qR):jQ:=G8 me (jw S) (.prog ⟨l,YX,0,0,zv (jw S).fuel⟩)
def gB (me:Int) (S:xw) (bs:List Int):jQ:=G8 me (jw S) (.sweep bs 0)
def xq (x:jQ):Option OpM :=
 if x.state=0 then some (op0 9 x.me 1)
 else if x.state=1 then some (op0 6 0 0)
 else if x.state=2 then some (op0 9 x.me (zL .u64 (x.stamp+1)))
 else if x.state=7 then some (op0 9 x.me 0)
 else if x.state=8 then none
 else if x.state=3 then Ku x.f
 else if x.state=6 then x.c.bind xo
 else Jw x.e
def xI (x:jQ) (fin err by_:Int):jQ:={ x with fin:=fin,err:=err,by_:=by_,state:=7 }
def JW (x:jQ) (at_:Int):jQ:={ x with state:=3,f:=kT x.me at_ (ofM at_ x.set.stripes x.set.wide) x.set.spins x.stamp }
def yd (x:jQ) (state:Int):jQ:={ x with state:=state,e:=VV x.me x.set.spins x.r }
def jB:VM→List Int→Nat→(Nat×Int)×VM
 |V,[],k=>((k,0),V)
 |V,b::r,k=>if(zG V b).1=0 then jB (zG V b).2 r (k+1)else((k,(zG V b).1),(zG V b).2)
def ye (x:jQ):(Int×Int)×jQ:=match x.job with
 | .sweep bs k=>(if(jB x.v (bs.drop k) k).1.2=11 then(1,0)else if(jB x.v (bs.drop k) k).1.2=0 then(2,0)else(4,(jB x.v (bs.drop k) k).1.2),{ x with job:=.sweep bs (jB x.v (bs.drop k) k).1.1,v:=(jB x.v (bs.drop k) k).2 })
 | .prog q=>(((jg q.l (qL q.l) q.left q.s x.v).kind,(jg q.l (qL q.l) q.left q.s x.v).err),{ x with
   job:=.prog ⟨q.l,(jg q.l (qL q.l) q.left q.s x.v).s,if(jg q.l (qL q.l) q.left q.s x.v).kind=1 then 0 else(jg q.l (qL q.l) q.left q.s x.v).kind,(jg q.l (qL q.l) q.left q.s x.v).err,(jg q.l (qL q.l) q.left q.s x.v).left⟩,
   v:=(jg q.l (qL q.l) q.left q.s x.v).v })
def vi (x:jQ) (k e:Int):jQ :=
 if k=1 then JW x x.v.need
 else if k=3 then yd { x with blocking:=true } 5
 else if k=4 then xI x 4 e (-1)
 else if jJ x.v.lv=[]then xI x 2 0 (-1)
 else{ x with state:=6,c:=some (J2 x.me x.set.spins x.stamp x.r (jJ x.v.lv) x.set.stripes x.set.wide) }
def xu (x:jQ):jQ:=vi (ye x).2 (ye x).1.1 (ye x).1.2
def wo (r:List xR) (x:xR):Int×List xR :=
 if x.1<0∨16≤x.1∨4611686018427387904≤x.2 then(1,r)
 else match r.find? λy=>decide (y.1=x.1)with
  |some y=>if y.2≠x.2 then(14,r)else(0,r)
  |none=>if r.length=16 then(5,r)else(0,r++[x])
def yg (x:jQ):jQ :=
 if x.f.p.fin=6 then yd x 4
 else if(wo x.r (yu x.f)).1=0 then xu { x with r:=(wo x.r (yu x.f)).2,v:=(z6 x.v x.v.need (yy x.f)).2 }
 else if(wo x.r (yu x.f)).1=14 then xI x 5 0 (-1)
 else xI x 4 (wo x.r (yu x.f)).1 (-1)
def xg (x:jQ):Int×Int:=if x.state=3 then(x.f.p.fin,x.f.p.by_)else if x.state=6 then(match x.c with |some c=>(c.p.fin,c.p.by_) |none=>(0,0))else(x.e.p.fin,x.e.p.by_)
def yG (x:jQ):jQ :=
 if x.state=3 then yg x
 else if x.state=4 then JW { x with stamp:=gP x.e } x.v.need
 else if x.state=5 then xI { x with stamp:=gP x.e } 3 0 (-1)
 else match x.c with |some c=>xI x c.p.fin c.p.err (-1) |none=>x
def zP (x:jQ):Bool:=decide (x.state≠8)&&(match x.c with |some c=>wB c||decide (c.p.fin=2) |none=>false)
def z8 (x:jQ):jQ:=if zP x=true then(match x.c with |some c=>{ x with stamp:=wQ c } |none=>x)else x
def xe (x:jQ):jQ:=z8 (if(xg x).1=0 then x else if(xg x).1=5 then xI x 5 0 (xg x).2 else yG x)
def jb (x:jQ) (a:AnM):jQ :=
 if x.state=8 then x
 else if a.err≠0 then{ xI x 4 a.err (-1)with state:=8 }
 else if x.state=0 then{ x with state:=1 }
 else if x.state=1 then{ x with begun:=true,begin_:=a.word,stamp:=a.word,state:=2 }
 else if x.state=2 then xu x
 else if x.state=7 then{ x with state:=8 }
 else if x.state=3 then xe { x with f:=xT x.f a }
 else if x.state=6 then xe { x with c:=x.c.map λc=>zw c a }
 else xe { x with e:=x7 x.e a }
def jc (x:jQ):Int:=if x.state≠8 then 0 else x.fin
def xy (x:jQ):Bool:=decide (jc x=2)||zP x
def Y8 (x:jQ):List Cl:=if xy x=true then jJ x.v.lv else[]
def zD (x:jQ):List Int:=if xy x=true then(match x.job with | .sweep bs _=>bs | .prog _=>vo x.v.lv)else[]
def zE (x:jQ):List UInt8:=if xy x=true then(match x.job with | .sweep _ _=>[] | .prog q=>qQl q.s.out)else[]
end Go.Proofs.YtnalffoigcmnnabGreatDoor
namespace Go.Proofs.YtnalffoigcmnnabGreatDoor
open Go Go.Ae
set_option maxRecDepth 100000
variable {g h:AH} {L R:List SP}
def zk (l:LkM):List AV:=[.int .u64 l.1,.bool l.2.1,.int .i64 l.2.2]
def yL (o:OpM):List AV:=[.int .i64 o.kind,.int .i64 o.at_,.int .u64 o.old,.int .u64 o.word,.int .u64 o.was.1,.bool o.was.2.1,.int .i64 o.was.2.2,.int .u64 o.lk.1,.bool o.lk.2.1,.int .i64 o.lk.2.2]
def xK (a:AnM):List AV:=[.int .u64 a.word,.int .u64 a.lk.1,.bool a.lk.2.1,.int .i64 a.lk.2.2,.bool a.done,.int .i64 a.err]
theorem qk4 {l:List LkM} {k:Nat} (hk:k<l.length):l[k]? =some (zq l (k:Int)):=by unfold zq;rw[Int.toNat_natCast,iW hk];rfl
theorem NP {l:List LkM} {k:Nat} (hk:k<l.length):((l.flatMap zk).drop (k*3)).take 3=zk (zq l (k:Int)):=gF (sz:=3) (enc:=zk) (λ_=>rfl) (qk4 hk)
section
variable {n b m:Nat} {v:AV} {a:Int} {e:TypeId} {xs:List AV} {R2:List SP}
theorem NE {w o:Int}:GA (w,true,o)↔w<4611686018427387904∧0≤o∧o<4:=by unfold GA;simp
theorem Ox {w o:Int}:GA (w,false,o)↔w<4611686018427387904∧o=0:=by unfold GA;simp
theorem qk3 {o:Int} (hn:1≤n):t_w n 204 [.int .i64 o] h λr h'=>r=.bool (decide (0≤o∧o<4))∧h'=h:=by
 refine t_e1 (S:=S204) rfl omQ λk hk=>?_;unfold S204;try simp only[iZ]
 refine yY (λc2=>?_) (λc2=>?_)
 ·refine qV ?_;(try dsimp only);refine qa ?_;(try dsimp only)
  refine zy (λc3=>?_) (λc3=>?_)
  ·refine qF ?_;exact qj ⟨by rw[iG omQ],rfl⟩
  ·refine qF ?_;exact qj ⟨by rw[iV omQ],rfl⟩
 ·refine qV ?_;(try dsimp only);refine qS ?_;(try dsimp only);refine qI ?_
  exact qj ⟨by rw[iV omQ],rfl⟩
theorem qw1 (hn:2≤n) {l:LkM} (H:HS g h R):t_w n 153 [.agg (zk l)] h λr h'=>r=.bool (decide (GA l))∧HS g h' R:=by
 refine t_e1 (S:=S153) rfl omQ λk hk=>?_;unfold S153;try simp only[iZ]
 obtain⟨w,d,o⟩:=l;refine qO H rfl λb h1 H1=>?_;have H1:HS g h1 (qg b [.int .u64 w,.bool d,.int .i64 o]::R):=H1;refine qQ (qK ‹_› .here rfl ?_);cases d with
 |true=>
  refine qZ (qQ (qK ‹_› .here rfl ?_));refine zy (λc1=>?_) (λc1=>?_)
  ·refine qV ?_;(try dsimp only);refine qa ?_;(try dsimp only);refine qQ (qK ‹_› .here rfl ?_)
   refine qG (qk3 omQ) ?_;rintro _ _ ⟨rfl,rfl⟩;refine qF (qj ⟨?_,H1.drop⟩);by_cases hc:0≤o∧o<4
   ·rw[iG hc,iG (NE.2 ⟨by omega,hc⟩)]
   ·rw[iV hc,iV (λh=>hc (NE.1 h).2)]
  ·refine qV ?_;(try dsimp only);refine qS ?_;(try dsimp only);refine qI ?_
   exact qj ⟨by rw[iV (λh=>by have:=(NE.1 h).1;omega)],H1.drop⟩
 |false=>
  refine qJ (qQ (qK ‹_› .here rfl ?_));refine zy (λc1=>?_) (λc1=>?_)
  ·refine qV ?_;(try dsimp only);refine qa ?_;(try dsimp only);refine qQ (qK ‹_› .here rfl ?_)
   refine vU (λc2=>?_) (λc2=>?_)
   ·refine qF ?_;exact qj ⟨by rw[iG (Ox.2 omQ)],H1.drop⟩
   ·refine qF ?_;exact qj ⟨by rw[iV (λh=>by have:=(Ox.1 h).2;omega)],H1.drop⟩
  ·refine qV ?_;(try dsimp only);refine qS ?_;(try dsimp only);refine qI ?_
   exact qj ⟨by rw[iV (λh=>by have:=(Ox.1 h).1;omega)],H1.drop⟩
theorem qqS (hn:1≤n) (H:HS g h L) (s:Sel L (qg b [v]) R) (s2:Sel L (qy e 1 m v xs) R2) :
  t_w n 109 [.ptr b 0,.int .i64 a] h λr h'=>r=.bool (decide (1≤a∧a<m))∧h'=h:=by
 refine t_e2 (S:=S109) rfl omQ λk hk=>?_;unfold S109;try simp only[iZ]
 refine yY (λh1=>?_) (λh1=>?_)
 ·refine qV ?_;(try dsimp only);refine qa ?_;(try dsimp only);refine qW (qQ ?_)
  refine qK H s rfl ?_;refine qi H s2 ?_;refine zy (λh2=>?_) (λh2=>?_)
  ·refine qF ?_;exact qj ⟨by rw[iG omQ],rfl⟩
  ·refine qF ?_;exact qj ⟨by rw[iV omQ],rfl⟩
 ·refine qV ?_;(try dsimp only);refine qS ?_;(try dsimp only);refine qI ?_
  exact qj ⟨by rw[iV omQ],rfl⟩
theorem qjM (hn:1≤n) (H:HS g h L) (s:Sel L (qg b [v]) R) (s2:Sel L (qy e 1 m v xs) R2) :
  t_w n 112 [.ptr b 0,.int .i64 a] h λr h'=>r=.bool (decide (0≤a∧a<m))∧h'=h:=by
 refine t_e2 (S:=S112) rfl omQ λk hk=>?_;unfold S112;try simp only[iZ]
 refine yY (λh1=>?_) (λh1=>?_)
 ·refine qV ?_;(try dsimp only);refine qa ?_;(try dsimp only);refine qW (qQ ?_)
  refine qK H s rfl ?_;refine qi H s2 ?_;refine zy (λh2=>?_) (λh2=>?_)
  ·refine qF ?_;exact qj ⟨by rw[iG omQ],rfl⟩
  ·refine qF ?_;exact qj ⟨by rw[iV omQ],rfl⟩
 ·refine qV ?_;(try dsimp only);refine qS ?_;(try dsimp only);refine qI ?_
  exact qj ⟨by rw[iV omQ],rfl⟩
theorem qzH (hn:1≤n) {wd:AV} (H:HS g h L) (s:Sel L (qg b [v,wd]) R) (s2:Sel L (qy e 3 m v xs) R2) :
  t_w n 110 [.ptr b 0,.int .i64 a] h λr h'=>r=.bool (decide (0≤a∧a<m))∧h'=h:=by
 refine t_e2 (S:=S110) rfl omQ λk hk=>?_;unfold S110;try simp only[iZ]
 refine yY (λh1=>?_) (λh1=>?_)
 ·refine qV ?_;(try dsimp only);refine qa ?_;(try dsimp only);refine qW (qQ ?_)
  refine qK H s rfl ?_;refine qi H s2 ?_;refine zy (λh2=>?_) (λh2=>?_)
  ·refine qF ?_;exact qj ⟨by rw[iG omQ],rfl⟩
  ·refine qF ?_;exact qj ⟨by rw[iV omQ],rfl⟩
 ·refine qV ?_;(try dsimp only);refine qS ?_;(try dsimp only);refine qI ?_
  exact qj ⟨by rw[iV omQ],rfl⟩
theorem qji {ws:List Int} (hn:2≤n) (H:HS g h L) (s:Sel L (qg b [v]) R) (s2:Sel L (qy e 1 ws.length v (ws.map (.int .u64))) R2) :
  t_w n 60 [.ptr b 0,.int .i64 a] h λr h'=>r=.tup [.int .u64 (if 1≤a∧a<ws.length then qM ws a else 0),.int .i64 (if 1≤a∧a<ws.length then 0 else 2)]∧h'=h:=by
 refine t_e2 (S:=S60) rfl omQ λk hk=>?_;unfold S60;try simp only[iZ]
 refine qG (qqS omQ H s s2) ?_;rintro _ _ ⟨rfl,rfl⟩;by_cases hc:1≤a∧a<ws.length
 ·rw[iG hc,iJ hc,iJ hc];obtain⟨k,rfl⟩:∃k:Nat,a=k:=⟨a.toNat,by omega⟩;refine jX (qJ (qW (qQ (qK H s rfl ?_))));refine zJ (H.sl s2) (x:=.int .u64 (qM ws k)) (by rw[List.getElem?_map,gC omQ];rfl) ?_;exact qj ⟨rfl,rfl⟩
 ·rw[iV hc,iQ hc,iQ hc];refine jV (qZ ?_);exact qj ⟨rfl,rfl⟩
theorem qzO {ws:List Int} (hn:2≤n) (H:HS g h L) (s:Sel L (qg b [v]) R) (s2:Sel L (qy e 1 ws.length v (ws.map (.int .u64))) R2) :
  t_w n 67 [.ptr b 0,.int .i64 a] h λr h'=>r=.tup [.int .u64 (if 0≤a∧a<ws.length then qM ws a else 0),.int .i64 (if 0≤a∧a<ws.length then 0 else 2)]∧h'=h:=by
 refine t_e2 (S:=S67) rfl omQ λk hk=>?_;unfold S67;try simp only[iZ]
 refine qG (qjM omQ H s s2) ?_;rintro _ _ ⟨rfl,rfl⟩;by_cases hc:0≤a∧a<ws.length
 ·rw[iG hc,iJ hc,iJ hc];obtain⟨k,rfl⟩:∃k:Nat,a=k:=⟨a.toNat,by omega⟩;refine jX (qJ (qW (qQ (qK H s rfl ?_))));refine zJ (H.sl s2) (x:=.int .u64 (qM ws k)) (by rw[List.getElem?_map,gC omQ];rfl) ?_;exact qj ⟨rfl,rfl⟩
 ·rw[iV hc,iQ hc,iQ hc];refine jV (qZ ?_);exact qj ⟨rfl,rfl⟩
theorem qVC {ws:List Int} {w:Int} (hn:2≤n) (H:HS g h (qg b [v]::qy e 1 ws.length v (ws.map (.int .u64))::R)) :
  t_w n 61 [.ptr b 0,.int .i64 a,.int .u64 w] h λr h'=>r=.int .i64 (if 1≤a∧a<ws.length then 0 else 2)∧
   HS g h' (qg b [v]::qy e 1 (if 1≤a∧a<ws.length then ws.set a.toNat w else ws).length v ((if 1≤a∧a<ws.length then ws.set a.toNat w else ws).map (.int .u64))::R):=by
 refine t_e3 (S:=S61) rfl omQ λk hk=>?_;unfold S61;try simp only[iZ]
 refine qG (qqS omQ H .here e_1) ?_;rintro _ _ ⟨rfl,rfl⟩;by_cases hc:1≤a∧a<ws.length
 ·rw[iG hc];simp only[iJ hc];obtain⟨k,rfl⟩:∃k:Nat,a=k:=⟨a.toNat,by omega⟩;refine jX (qJ (qW (qQ (qK ‹_› .here rfl ?_))));refine Gc (H.sel e_1) omQ ⟨rfl,rfl⟩ λh2 H2=>?_;rw[← List.map_set]at H2;exact qj ⟨rfl,by rw[List.length_set];exact H2.sub (.cons e_1 (.cons .here .refl))⟩
 ·rw[iV hc];simp only[iQ hc];refine jV (qZ ?_);exact qj ⟨rfl,H⟩
theorem qKm {ws:List Int} {w:Int} (hn:2≤n) (H:HS g h (qg b [v]::qy e 1 ws.length v (ws.map (.int .u64))::R)) :
  t_w n 68 [.ptr b 0,.int .i64 a,.int .u64 w] h λr h'=>r=.int .i64 (if 0≤a∧a<ws.length then 0 else 2)∧
   HS g h' (qg b [v]::qy e 1 (if 0≤a∧a<ws.length then ws.set a.toNat w else ws).length v ((if 0≤a∧a<ws.length then ws.set a.toNat w else ws).map (.int .u64))::R):=by
 refine t_e3 (S:=S68) rfl omQ λk hk=>?_;unfold S68;try simp only[iZ]
 refine qG (qjM omQ H .here e_1) ?_;rintro _ _ ⟨rfl,rfl⟩;by_cases hc:0≤a∧a<ws.length
 ·rw[iG hc];simp only[iJ hc];obtain⟨k,rfl⟩:∃k:Nat,a=k:=⟨a.toNat,by omega⟩;refine jX (qJ (qW (qQ (qK ‹_› .here rfl ?_))));refine Gc (H.sel e_1) omQ ⟨rfl,rfl⟩ λh2 H2=>?_;rw[← List.map_set]at H2;exact qj ⟨rfl,by rw[List.length_set];exact H2.sub (.cons e_1 (.cons .here .refl))⟩
 ·rw[iV hc];simp only[iQ hc];refine jV (qZ ?_);exact qj ⟨rfl,H⟩
variable {ls:List LkM} {wd:AV}
theorem qjn (hn:2≤n) (H:HS g h L) (s:Sel L (qg b [v,wd]) R) (s2:Sel L (qy e 3 ls.length v (ls.flatMap zk)) R2) :
  t_w n 62 [.ptr b 0,.int .i64 a] h λr h'=>r=.tup [.agg (zk (if 0≤a∧a<ls.length then zq ls a else lk0)),.int .i64 (if 0≤a∧a<ls.length then 0 else 2)]∧HS g h' L:=by
 refine t_e2 (S:=S62) rfl omQ λk hk=>?_;unfold S62;try simp only[iZ]
 refine qO H rfl λb0 h1 H1=>?_;refine qG (qzH omQ H1 (.there s) (.there s2)) ?_;rintro _ _ ⟨rfl,rfl⟩;by_cases hc:0≤a∧a<ls.length
 ·rw[iG hc,iJ hc,iJ hc];obtain⟨k,rfl⟩:∃k:Nat,a=k:=⟨a.toNat,by omega⟩;refine jX (qJ (qW (qQ (qK H1 (.there s) rfl ?_))));refine zU (l:=zk (zq ls k)) (H1.sl (.there s2)) omQ omQ (NP omQ) ?_;refine qe H1 (b:=b0) .here rfl (by show 0+3≤3;omega) rfl λh2 H2=>?_;refine qD H2 (b:=b0) (off:=0) .here rfl omQ (l:=zk (zq ls k)) rfl ?_;exact qj ⟨rfl,H2.drop⟩
 ·rw[iV hc,iQ hc,iQ hc];refine jV (qZ (qH rfl ?_));refine qe H1 (b:=b0) .here rfl (by show 0+3≤3;omega) rfl λh2 H2=>?_;refine qD H2 (b:=b0) (off:=0) .here rfl omQ (l:=zk lk0) rfl ?_;exact qj ⟨rfl,H2.drop⟩
def kP (n:Nat) (a:Int) (l:LkM):Int:=if 0≤a∧a<n then(if GA l then 0 else 1)else 2
theorem qZ8 {l:LkM} (hn:3≤n) (H:HS g h L) (s:Sel L (qg b [v,wd]) R) (s2:Sel L (qy e 3 m v xs) R2) :
  t_w n 111 [.ptr b 0,.int .i64 a,.agg (zk l)] h λr h'=>r=.int .i64 (kP m a l)∧HS g h' L:=by
 refine t_e3 (S:=S111) rfl omQ λk hk=>?_;unfold S111;try simp only[iZ]
 unfold kP;refine qO H rfl λb0 h1 H1=>?_;refine qG (qzH omQ H1 (.there s) (.there s2)) ?_;rintro _ _ ⟨rfl,rfl⟩;by_cases hc:0≤a∧a<m
 ·rw[iG hc,iJ hc];refine jX (qJ (qD H1 (b:=b0) (off:=0) .here rfl omQ (l:=zk l) rfl ?_));refine qG (qw1 omQ H1) ?_;rintro _ h2 ⟨rfl,H2⟩;by_cases hl:GA l
  ·rw[iG hl,iJ hl];refine jX (qJ ?_);exact qj ⟨rfl,H2.drop⟩
  ·rw[iV hl,iQ hl];refine jV (qZ ?_);exact qj ⟨rfl,H2.drop⟩
 ·rw[iV hc,iQ hc];refine jV (qZ ?_);exact qj ⟨rfl,H1.drop⟩
theorem qgf (x y:LkM):xA [.bas .int 0,.bas .bool 1,.bas .int 2] (zk x) (zk y)=some (decide (x=y)):=by obtain⟨a,b,c⟩:=x;obtain⟨a',b',c'⟩:=y;show(bif ieq a a' then(bif b==b' then(bif ieq c c' then some true else some false)else some false)else some false)=_;rw[Xi,Xi];by_cases h1:a=a'<;>by_cases h3:c=c'<;>cases b<;>cases b'<;>simp[h1,h3]
theorem qv7 {was l:LkM} (hn:4≤n) (H:HS g h (qg b [v,wd]::qy e 3 ls.length v (ls.flatMap zk)::R)) :
  t_w n 63 [.ptr b 0,.int .i64 a,.agg (zk was),.agg (zk l)] h λr h'=>r=.tup [.bool (decide (kP ls.length a l=0∧zq ls a=was)),.int .i64 (kP ls.length a l)]∧
   HS g h' (qg b [v,wd]::qy e 3 (if kP ls.length a l=0∧zq ls a=was then ls.set a.toNat l else ls).length v ((if kP ls.length a l=0∧zq ls a=was then ls.set a.toNat l else ls).flatMap zk)::R):=by
 (refine qB (g:=W63) rfl omQ λk hk=>?_;show wp (S63 (callT tab qz k) _ _ _ _ _) _;unfold S63;try simp only[iI,uU,iZ])
 refine qO H rfl λb0 h1 H1=>?_;refine qO H1 rfl λb1 h2 H2=>?_;refine qD H2 (b:=b1) (off:=0) .here rfl omQ (l:=zk l) rfl ?_;refine qG (qZ8 (l:=l) omQ H2 e_2 e_3) ?_;rintro _ h3 ⟨rfl,H3⟩;by_cases c0:kP ls.length a l=0
 rotate_left
 ·refine jj c0 ?_;refine qZ ?_;rw[iV (λh=>c0 h.1)];simp only[iQ (show¬(kP ls.length a l=0∧zq ls a=was)from λh=>c0 h.1)];exact qj ⟨rfl,H3.drop.drop⟩
 have hc:0≤a∧a<ls.length:=by
  unfold kP at c0
  split at c0
  ·assumption
  ·cases c0
 obtain⟨k,rfl⟩:∃k:Nat,a=k:=⟨a.toNat,by omega⟩;refine jY c0 ?_;refine qJ (qW (qQ (qK ‹_› e_2 rfl ?_)));refine zU (l:=zk (zq ls k)) (H3.sl e_3) omQ omQ (NP omQ) ?_;refine qD H3 (b:=b0) (off:=0) e_1 rfl omQ (l:=zk was) rfl ?_;refine qX4 (p:=zq ls k=was) (qgf _ _) (λc1=>?_) (λc1=>?_)
 ·rw[iG ⟨c0,c1⟩];simp only[iJ (show kP ls.length k l=0∧zq ls k=was from⟨c0,c1⟩)];rw[c0];refine qJ (qW (qQ (qK ‹_› e_2 rfl ?_)));refine qD H3 (b:=b1) (off:=0) .here rfl omQ (l:=zk l) rfl ?_;refine qJ9 (l:=zk l) (i:=k) (H3.sel e_3) omQ rfl rfl λh4 H4=>?_;rw[NR (sz:=3) (enc:=zk) (l:=ls) (i:=k) (a:=l) (λ_=>rfl) omQ]at H4;exact qj ⟨rfl,by rw[List.length_set];exact H4.sub (.cons e_3 (.cons .here (.drop (.drop .refl))))⟩
 ·rw[iV (λh=>c1 h.2)];simp only[iQ (show¬(kP ls.length k l=0∧zq ls k=was)from λh=>c1 h.2)];rw[c0];refine qZ ?_;exact qj ⟨rfl,H3.drop.drop⟩
theorem qGp {l:LkM} (hn:4≤n) (H:HS g h (qg b [v,wd]::qy e 3 ls.length v (ls.flatMap zk)::R)) :
  t_w n 64 [.ptr b 0,.int .i64 a,.agg (zk l)] h λr h'=>r=.int .i64 (kP ls.length a l)∧
   HS g h' (qg b [v,wd]::qy e 3 (if kP ls.length a l=0 then ls.set a.toNat l else ls).length v ((if kP ls.length a l=0 then ls.set a.toNat l else ls).flatMap zk)::R):=by
 refine t_e3 (S:=S64) rfl omQ λk hk=>?_;unfold S64;try simp only[iZ]
 refine qO H rfl λb0 h1 H1=>?_;refine qD H1 (b:=b0) (off:=0) .here rfl omQ (l:=zk l) rfl ?_;refine qG (qZ8 (l:=l) omQ H1 e_1 e_2) ?_;rintro _ h3 ⟨rfl,H3⟩;refine qV ?_
 try dsimp only
 by_cases c0:kP ls.length a l=0
 rotate_left
 ·refine qX c0 ?_;refine qJ (qk ?_);simp only[iQ c0];exact qj ⟨rfl,H3.drop⟩
 have hc:0≤a∧a<ls.length:=by
  unfold kP at c0
  split at c0
  ·assumption
  ·cases c0
 obtain⟨k,rfl⟩:∃k:Nat,a=k:=⟨a.toNat,by omega⟩;refine qx c0 ?_;simp only[iJ c0];refine qZ (qW (qQ (qK ‹_› e_1 rfl ?_)));refine qD H3 (b:=b0) (off:=0) .here rfl omQ (l:=zk l) rfl ?_;refine qJ9 (l:=zk l) (i:=k) (H3.sel e_2) omQ rfl rfl λh4 H4=>?_;rw[NR (sz:=3) (enc:=zk) (l:=ls) (i:=k) (a:=l) (λ_=>rfl) omQ]at H4;refine qk ?_;exact qj ⟨rfl,by rw[List.length_set];exact H4.sub (.cons e_2 (.cons .here (.drop .refl)))⟩
end
def qZA (p hb tb cb sb:Nat) (wv lv sv:AV) (S:xw) (M:jL) (R:List SP):List SP :=
 qg p [.int .i64 S.words,.int .i64 S.stripes,.int .i64 S.wide,.int .i64 S.threads,.int .u64 S.start,.ptr hb 0,.ptr tb 0,.ptr cb 0,.ptr sb 0,.int .i64 M.cnt]::qg hb [wv]::qy 23 1 M.w.length wv (M.w.map (.int .u64))::
 qg tb [lv,.int .i64 S.wide]::qy 44 3 M.l.length lv (M.l.flatMap zk)::qg cb [.int .u64 M.n]::qg sb [sv]::qy 23 1 M.s.length sv (M.s.map (.int .u64))::R
def MemC (p:Nat) (S:xw) (M:jL):SP:=.ex λq:(Nat×Nat×Nat×Nat)×AV×AV×AV=>.all (qZA p q.1.1 q.1.2.1 q.1.2.2.1 q.1.2.2.2 q.2.1 q.2.2.1 q.2.2.2 S M [])
section
variable {p hb tb cb sb:Nat} {wv lv sv:AV} {S:xw} {M:jL}
theorem MemC.E (H:HS g h (MemC p S M::R)):∃hb tb cb sb wv lv sv,HS g h (qg p [.int .i64 S.words,.int .i64 S.stripes,.int .i64 S.wide,.int .i64 S.threads,.int .u64 S.start,.ptr hb 0,.ptr tb 0,.ptr cb 0,.ptr sb 0,.int .i64 M.cnt]::qg hb [wv]::qy 23 1 M.w.length wv (M.w.map (.int .u64))::
  qg tb [lv,.int .i64 S.wide]::qy 44 3 M.l.length lv (M.l.flatMap zk)::qg cb [.int .u64 M.n]::qg sb [sv]::qy 23 1 M.s.length sv (M.s.map (.int .u64))::R):=by
 obtain⟨⟨⟨hb,tb,cb,sb⟩,wv,lv,sv⟩,H⟩:=H.exE;exact⟨hb,tb,cb,sb,wv,lv,sv,H.allE⟩
theorem MemC.I (H:HS g h (qZA p hb tb cb sb wv lv sv S M R)):HS g h (MemC p S M::R):=HS.exI ((hb,tb,cb,sb),wv,lv,sv) (HS.allI (A:=qZA p hb tb cb sb wv lv sv S M []) H)
end
end Go.Proofs.YtnalffoigcmnnabGreatDoor
namespace Go.Proofs.YtnalffoigcmnnabGreatDoor
open Go Go.Ae
set_option maxRecDepth 100000
variable {g h:AH} {L R:List SP}
def yx (p:Jj) (xs:List AV):List AV:=.int .i64 p.me:: .int .i64 p.spins:: .int .i64 p.fin:: .int .i64 p.by_:: .int .i64 p.err::xs
def opV (o:Option OpM):AV:=.tup [.agg (yL (o.getD (op0 0 0 0))),.bool o.isSome]
def KL (p:Jj):Prop:=p.fin=0→0≤p.spins∧p.spins≤4
section
variable {n b:Nat} {p:Jj} {xs:List AV}
theorem OX {me sp:Int} (hn:1≤n) (H:HS g h R):t_w n 157 [.int .i64 me,.int .i64 sp] h λr h'=>r=.agg (yx (QP me sp) [])∧HS g h' R:=by
 refine t_e2 (S:=S157) rfl omQ λk hk=>?_;unfold S157;try simp only[iZ]
 refine qO H rfl λb h1 H1=>?_;refine zX (zC (qH rfl ?_));refine qe H1 (b:=b) .here rfl (by show 0+5≤5;omega) rfl λh2 H2=>?_;refine qD H2 (b:=b) (off:=0) .here rfl omQ (l:=yx (QP me sp) []) rfl ?_;exact qj ⟨rfl,H2.drop⟩
theorem XA (hn:1≤n) (H:HS g h L) (s:Sel L (qg b (yx p xs)) R):t_w n 151 [.ptr b 0] h λr h'=>r=.int .i64 p.fin∧h'=h:=by
 refine t_e1 (S:=S151) rfl omQ λk hk=>?_;unfold S151;try simp only[iZ]
 refine qW (qQ ?_);exact qK H s rfl (qj ⟨rfl,rfl⟩)
theorem qxA (hn:1≤n) (H:HS g h L) (s:Sel L (qg b (yx p xs)) R):t_w n 212 [.ptr b 0] h λr h'=>r=.int .i64 p.err∧h'=h:=by
 refine t_e1 (S:=S212) rfl omQ λk hk=>?_;unfold S212;try simp only[iZ]
 refine qW (qQ ?_);exact qK H s rfl (qj ⟨rfl,rfl⟩)
theorem qZe (hn:1≤n) (H:HS g h L) (s:Sel L (qg b (yx p xs)) R):t_w n 348 [.ptr b 0] h λr h'=>r=.int .i64 p.by_∧h'=h:=by
 refine t_e1 (S:=S348) rfl omQ λk hk=>?_;unfold S348;try simp only[iZ]
 refine qW (qQ ?_);exact qK H s rfl (qj ⟨rfl,rfl⟩)
theorem gD {f e y:Int} (hn:1≤n) (H:HS g h (qg b (yx p xs)::R)):t_w n 350 [.ptr b 0,.int .i64 f,.int .i64 e,.int .i64 y] h λ_ h'=>HS g h' (qg b (yx (zx p f e y) xs)::R):=by
 refine t_e4 (S:=S350) rfl omQ λk hk=>?_;unfold S350;try simp only[iZ]
 unfold yx at H;refine qW (qQ (qw H (b:=b) .here ⟨rfl,rfl⟩ osQ λh1 H1=>?_));refine qW (qQ (qw H1 (b:=b) .here ⟨rfl,rfl⟩ osQ λh2 H2=>?_));refine qW (qQ (qw H2 (b:=b) .here ⟨rfl,rfl⟩ osQ λh3 H3=>?_));exact qj H3
theorem Gu {l:LkM} (hn:1≤n) (hp:0≤p.spins∧p.spins≤4) (H:HS g h (qg b (yx p xs)::R)):t_w n 352 [.ptr b 0,.agg (zk l)] h λr h'=>r=.bool (zK p l).1∧HS g h' (qg b (yx (zK p l).2 xs)::R):=by
 refine t_e2 (S:=S352) rfl omQ λk hk=>?_;unfold S352;try simp only[iZ]
 refine qO H rfl λb0 h1 H1=>?_;have H1:HS g h1 (qg b0 (zk l)::qg b (.int .i64 p.me:: .int .i64 p.spins:: .int .i64 p.fin:: .int .i64 p.by_:: .int .i64 p.err::xs)::R):=H1;unfold zk at H1;refine qQ (qK ‹_› .here rfl ?_);refine qW (qQ (qK ‹_› e_1 rfl ?_));unfold zK;by_cases c:p.me<l.2.2
 ·refine yB c ?_;rw[iJ c];refine qZ ?_;exact qj ⟨rfl,H1.drop⟩
 ·refine yV c ?_;rw[iQ c];refine qJ (qW (qQ (qK ‹_› e_1 rfl ?_)));refine zQ omQ ?_;refine qW (qQ (qw H1 (b:=b) e_1 ⟨rfl,rfl⟩ osQ λh2 H2=>?_));have H2:HS g h2 (qg b (.int .i64 p.me:: .int .i64 (p.spins-1):: .int .i64 p.fin:: .int .i64 p.by_:: .int .i64 p.err::xs)::qg b0 (zk l)::R):=H2;refine qW (qQ (qK ‹_› .here rfl ?_));refine yY (λc2=>?_) (λc2=>?_)
  ·exact qj ⟨by rw[iG omQ],H2.sub (.cons .here (.drop .refl))⟩
  ·exact qj ⟨by rw[iV omQ],H2.sub (.cons .here (.drop .refl))⟩
theorem Je {a:AnM} (hn:2≤n) (H:HS g h (qg b (yx p xs)::R)):t_w n 349 [.ptr b 0,.agg (xK a)] h λr h'=>r=.bool (qu p a).1∧HS g h' (qg b (yx (qu p a).2 xs)::R):=by
 refine t_e2 (S:=S349) rfl omQ λk hk=>?_;unfold S349;try simp only[iZ]
 refine qO H rfl λb0 h1 H1=>?_;have H1:HS g h1 (qg b0 (xK a)::qg b (.int .i64 p.me:: .int .i64 p.spins:: .int .i64 p.fin:: .int .i64 p.by_:: .int .i64 p.err::xs)::R):=H1;unfold xK at H1;refine jT [] (λs h'=>s=(.ptr b 0,())∧HS g h' (qg b (yx (if p.fin=0∧a.err≠0 then zx p 4 a.err (-1)else p) xs)::R)) ?_ ?_
 rotate_left
 ·rintro s h2 ⟨rfl,H2⟩;unfold yx at H2;refine qW (qQ (qK ‹_› .here rfl ?_));by_cases c:p.fin=0∧a.err≠0
  ·rw[iJ c]at H2;rw[show qu p a=(true,zx p 4 a.err (-1))from iJ c];rw[iJ c];refine jj (by show(4:Int)≠0;decide) ?_;refine qk ?_;exact qj ⟨rfl,H2⟩
  ·rw[iQ c]at H2;rw[show qu p a=(decide (p.fin≠0),p)from iQ c];rw[iQ c];refine yS (λc2=>?_) (λc2=>?_)
   ·refine qk ?_;exact qj ⟨congrArg AV.bool (iG (p:=p.fin≠0) c2).symm,H2⟩
   ·refine qk ?_;exact qj ⟨congrArg AV.bool (iV (p:=p.fin≠0) (λh=>h c2)).symm,H2⟩
 intro j hj;refine qW (qQ (qK ‹_› e_1 rfl ?_));by_cases c:p.fin=0
 ·refine qx c ?_;refine qV ?_;(try dsimp only);refine qa ?_;(try dsimp only);refine qQ (qK ‹_› .here rfl ?_)
  by_cases c2:a.err=0
  ·refine jY c2 ?_;refine qF (qJ ?_);exact hj _ _ ⟨rfl,by rw[iQ (λh=>h.2 c2)];exact H1.drop⟩
  ·refine jj c2 ?_;refine qF (qZ (qQ (qK ‹_› .here rfl ?_)));refine qG (gD (p:=p) omQ (H1.sel e_1)) λ_ h2 H2=>?_;exact hj _ _ ⟨rfl,by rw[iJ ⟨c,c2⟩];exact H2.sub (.cons .here (.drop .refl))⟩
 ·refine qX c ?_;refine qV ?_;(try dsimp only);refine qS ?_;(try dsimp only);refine qI (qJ ?_)
  exact hj _ _ ⟨rfl,by rw[iQ (λh=>c h.1)];exact H1.drop⟩
end
def wJ (f:Qb):List AV:=yx f.p [.int .i64 f.at_,.int .i64 f.stripe,.int .u64 f.stamp,.int .i64 f.state,.int .u64 f.lk.1,.bool f.lk.2.1,.int .i64 f.lk.2.2,.int .u64 f.word]
section
variable {n b:Nat} {f:Qb}
theorem qkc {me at_ st sp t:Int} (hn:2≤n) (H:HS g h R):t_w n 154 [.int .i64 me,.int .i64 at_,.int .i64 st,.int .i64 sp,.int .u64 t] h λr h'=>∃b,r=.ptr b 0∧HS g h' (qg b (wJ (kT me at_ st sp t))::R):=by
 refine t_e5 (S:=S154) rfl omQ λk hk=>?_;unfold S154;try simp only[iZ]
 refine qG (OX omQ H) ?_;rintro _ h1 ⟨rfl,H1⟩;unfold yx;refine qH rfl ?_;refine qO H1 rfl λb h2 H2=>qj ⟨b,rfl,H2⟩
theorem qWi (hn:2≤n) (H:HS g h (qg b (wJ f)::R)):t_w n 346 [.ptr b 0] h λr h'=>r=opV (Ku f)∧HS g h' (qg b (wJ f)::R):=by
 refine t_e1 (S:=S346) rfl omQ λk hk=>?_;unfold S346;try simp only[iZ]
 refine qO H rfl λb0 h1 H1=>?_;refine qW (qQ (qG (XA omQ H1 e_1) ?_));rintro _ _ ⟨rfl,rfl⟩;unfold Ku;have H2:=H1;unfold wJ yx at H2;by_cases c:f.p.fin=0
 ·refine jY c ?_;rw[iQ (λh=>h c)];refine qJ (qW (qQ (qK ‹_› e_1 rfl ?_)));by_cases c2:f.state=1
  ·refine qx c2 ?_;rw[iJ c2];refine qZ (qW (qQ (qK ‹_› e_1 rfl ?_)));refine qH rfl ?_;refine qe H1 (b:=b0) .here rfl (by show 0+10≤10;omega) rfl λh3 H3=>?_;refine qD H3 (b:=b0) (off:=0) .here rfl omQ (l:=yL (op0 1 f.at_ 0)) rfl ?_;exact qj ⟨rfl,H3.drop⟩
  ·refine qX c2 ?_;rw[iQ c2];refine qJ (qW (qQ (qK ‹_› e_1 rfl ?_)));refine qH rfl ?_;refine qe H1 (b:=b0) .here rfl (by show 0+10≤10;omega) rfl λh3 H3=>?_;refine qD H3 (b:=b0) (off:=0) .here rfl omQ (l:=yL (op0 3 f.stripe 0)) rfl ?_;exact qj ⟨rfl,H3.drop⟩
 ·refine jj c ?_;rw[iJ c];refine qZ (qH rfl ?_);refine qe H1 (b:=b0) .here rfl (by show 0+10≤10;omega) rfl λh3 H3=>?_;refine qD H3 (b:=b0) (off:=0) .here rfl omQ (l:=yL (op0 0 0 0)) rfl ?_;exact qj ⟨rfl,H3.drop⟩
theorem MF {l:LkM} (hn:2≤n) (hp:0≤f.p.spins∧f.p.spins≤4) (H:HS g h (qg b (wJ f)::R)):t_w n 351 [.ptr b 0,.agg (zk l)] h λ_ h'=>HS g h' (qg b (wJ (J3 f l))::R):=by
 refine t_e2 (S:=S351) rfl omQ λk hk=>?_;unfold S351;try simp only[iZ]
 refine qO H rfl λb0 h1 H1=>?_;unfold wJ yx zk at H1;refine qW (qQ (qw H1 (b:=b) e_1 ⟨rfl,rfl⟩ osQ λh2 H2=>?_));have H2:HS g h2 (qg b (wJ { f with state:=0 })::qg b0 (zk l)::R):=H2;have H3:=H2;unfold wJ yx zk at H3;refine qV ?_;(try dsimp only);refine qQ (qK ‹_› e_1 rfl ?_)
 unfold J3;obtain⟨w,d,o⟩:=l;cases d with
 |true=>
  rw[iJ rfl];refine qZ (qW (qQ (qD H2 (b:=b0) (off:=0) e_1 rfl omQ (l:=zk (w,true,o)) rfl ?_)));refine qG (Gu (l:=(w,true,o)) omQ hp H2) ?_;rintro _ h4 ⟨rfl,H4⟩;cases hw:(zK f.p (w,true,o)).1 with
  |true=>rw[iJ rfl];refine jX (qJ (qk ?_));exact qj (H4.sub (.cons .here (.drop .refl)))
  |false=>rw[iQ osQ];have H5:=H4;unfold zk at H5;refine jV (qZ (qW (qQ (qQ (qK ‹_› e_1 rfl ?_)))));refine qG (gD omQ H4) λ_ h5 H5=>?_;refine qk ?_;exact qj (H5.sub (.cons .here (.drop .refl)))
 |false=>
  rw[iQ osQ];refine qJ (qQ (qK ‹_› e_1 rfl ?_));refine qW (qQ (qK ‹_› .here rfl ?_));by_cases c:f.stamp<w
  ·refine yB c ?_;rw[iJ c];refine qZ (qW (qQ (qG (gD omQ H2) λ_ h5 H5=>?_)));refine qk ?_;exact qj (H5.sub (.cons .here (.drop .refl)))
  ·refine yV c ?_;rw[iQ c];refine qJ (qD H3 (b:=b0) (off:=0) e_1 rfl omQ (l:=zk (w,false,o)) rfl ?_);refine qW (qQ (qe H3 (b:=b) .here rfl (by show 9+3≤13;omega) rfl λh5 H5=>?_));refine qW (qQ (qw H5 (b:=b) .here ⟨rfl,rfl⟩ (by simp[we]) λh6 H6=>?_));refine qk ?_;exact qj (H6.sub (.cons .here (.drop .refl)))
theorem qYd {a:AnM} (hn:3≤n) (hp:KL f.p) (H:HS g h (qg b (wJ f)::R)):t_w n 347 [.ptr b 0,.agg (xK a)] h λ_ h'=>HS g h' (qg b (wJ (xT f a))::R):=by
 (refine qB (g:=W347) rfl omQ λk hk=>?_;show wp (S347 (callT tab qz k) _ _ _) _;unfold S347;try simp only[iI,uU,iZ])
 generalize hF:xT f a=F;refine qO H rfl λb0 h1 H1=>?_;refine jT [] (λ_ h'=>HS g h' (qg b (wJ F)::R)) (λj hj=>?_) λ_ h' H'=>?_
 rotate_left
 ·refine qk ?_;exact qj H'
 refine qW (qQ (qD H1 (b:=b0) (off:=0) .here rfl omQ (l:=xK a) rfl ?_));refine qG (Je omQ (H1.sel e_1)) ?_;rintro _ h2 ⟨rfl,H2⟩;unfold xT at hF;cases hs:(qu f.p a).1 with
 |true=>rw[iJ hs]at hF;refine qZ ?_;exact hj _ _ (by rw[← hF];exact H2.sub (.cons .here (.drop .refl)))
 |false=>
  rw[iQ (by rw[hs];simp)]at hF;have hsp:(qu f.p a).2=f.p∧f.p.fin=0:=by
   unfold qu at hs ⊢
   split at hs
   ·cases hs
   ·rename_i c;rw[iQ c];exact⟨rfl,by simpa using hs⟩
  rw[hsp.1]at H2;have H3:HS g h2 (qg b (wJ f)::qg b0 (xK a)::R):=H2;have H4:=H3;unfold wJ yx xK at H4;refine qJ (qW (qQ (qK ‹_› .here rfl ?_)));by_cases c1:f.state=1
  ·refine qx c1 ?_;rw[iJ c1]at hF;refine qZ (qQ (qK ‹_› e_1 rfl ?_));refine qW (qQ (qw H4 (b:=b) .here ⟨rfl,rfl⟩ osQ λh5 H5=>?_));refine qW (qQ (qw H5 (b:=b) .here ⟨rfl,rfl⟩ osQ λh6 H6=>?_));exact hj _ _ (by rw[← hF];exact H6.sub (.cons .here (.drop .refl)))
  refine qX c1 ?_;rw[iQ c1]at hF;refine qJ (qW (qQ (qK ‹_› .here rfl ?_)));by_cases c2:f.state=2
  ·refine qx c2 ?_;refine qV ?_;(try dsimp only);refine qa ?_;(try dsimp only);refine qQ ?_
   refine qD H4 (b:=b0) (off:=1) e_1 rfl omQ (l:=zk a.lk) rfl ?_;refine qW (qQ (qD H4 (b:=b) (off:=9) .here rfl omQ (l:=zk f.lk) rfl ?_));refine qX4 (p:=a.lk=f.lk) (qgf _ _) (λc3=>?_) (λc3=>?_)
   ·rw[iJ ⟨c2,c3⟩]at hF;show wp (yc (.bool true) (.bool true) (.bool false) _) _;refine qF (qZ (qW (qQ (qG (gD omQ H3) λ_ h5 H5=>?_))));exact hj _ _ (by rw[← hF];exact H5.sub (.cons .here (.drop .refl)))
   ·rw[iQ (λh=>c3 h.2)]at hF;refine qF (qJ (qQ (qD H4 (b:=b0) (off:=1) e_1 rfl omQ (l:=zk a.lk) rfl ?_)));refine qG (MF omQ (hp hsp.2) H3) λ_ h5 H5=>?_;exact hj _ _ (by rw[← hF];exact H5.sub (.cons .here (.drop .refl)))
  ·refine qX c2 ?_;rw[iQ (λh=>c2 h.1)]at hF;refine qV ?_;(try dsimp only);refine qS ?_;(try dsimp only);refine qI (qJ (qQ ?_))
   refine qD H4 (b:=b0) (off:=1) e_1 rfl omQ (l:=zk a.lk) rfl ?_;refine qG (MF omQ (hp hsp.2) H3) λ_ h5 H5=>?_;exact hj _ _ (by rw[← hF];exact H5.sub (.cons .here (.drop .refl)))
theorem Kf (hn:2≤n) (H:HS g h L) (s:Sel L (qg b (wJ f)) R):t_w n 207 [.ptr b 0] h λr h'=>r=.int .i64 f.p.fin∧h'=h:=by
 refine t_e1 (S:=S207) rfl omQ λk hk=>?_;unfold S207;try simp only[iZ]
 refine qW (qQ (qG (XA omQ H s) ?_));rintro _ _ ⟨rfl,rfl⟩;exact qj ⟨rfl,rfl⟩
theorem qwT (hn:2≤n) (H:HS g h L) (s:Sel L (qg b (wJ f)) R):t_w n 345 [.ptr b 0] h λr h'=>r=.int .i64 f.p.by_∧h'=h:=by
 refine t_e1 (S:=S345) rfl omQ λk hk=>?_;unfold S345;try simp only[iZ]
 refine qW (qQ (qG (qZe omQ H s) ?_));rintro _ _ ⟨rfl,rfl⟩;exact qj ⟨rfl,rfl⟩
theorem qqF (hn:3≤n) (H:HS g h L) (s:Sel L (qg b (wJ f)) R):t_w n 210 [.ptr b 0] h λr h'=>r=.int .u64 (yy f)∧h'=h:=by
 refine t_e1 (S:=S210) rfl omQ λk hk=>?_;unfold S210;try simp only[iZ]
 refine qG (Kf omQ H s) ?_;rintro _ _ ⟨rfl,rfl⟩;unfold yy;by_cases c:f.p.fin=2
 ·refine jY c ?_;rw[iQ (λh=>h c)];refine qJ (qW (qQ ?_));exact qK H s rfl (qj ⟨rfl,rfl⟩)
 ·refine jj c ?_;rw[iJ c];refine qZ ?_;exact qj ⟨rfl,rfl⟩
def gG (x:xR):List AV:=[.int .i64 x.1,.int .u64 x.2]
theorem qYE (hn:3≤n) (H:HS g h L) (s:Sel L (qg b (wJ f)) R):t_w n 209 [.ptr b 0] h λr h'=>r=.agg (gG (yu f))∧HS g h' L:=by
 refine t_e1 (S:=S209) rfl omQ λk hk=>?_;unfold S209;try simp only[iZ]
 refine qO H rfl λb0 h1 H1=>?_;refine qG (Kf omQ H1 (.there s)) ?_;rintro _ _ ⟨rfl,rfl⟩;unfold yu;by_cases c:f.p.fin=2
 ·refine jY c ?_;rw[iQ (λh=>h c)];refine qJ (qW (qQ (qK H1 (.there s) rfl ?_)));refine qW (qQ (qK H1 (.there s) rfl ?_));refine qH rfl ?_;refine qe H1 (b:=b0) .here rfl (by show 0+2≤2;omega) rfl λh3 H3=>?_;refine qD H3 (b:=b0) (off:=0) .here rfl omQ (l:=gG (f.stripe,f.lk.1)) rfl ?_;exact qj ⟨rfl,H3.drop⟩
 ·refine jj c ?_;rw[iJ c];refine qZ (qH rfl ?_);refine qe H1 (b:=b0) .here rfl (by show 0+2≤2;omega) rfl λh3 H3=>?_;refine qD H3 (b:=b0) (off:=0) .here rfl omQ (l:=gG (0,0)) rfl ?_;exact qj ⟨rfl,H3.drop⟩
end
end Go.Proofs.YtnalffoigcmnnabGreatDoor
namespace Go.Proofs.YtnalffoigcmnnabGreatDoor
open Go Go.Ae
set_option maxRecDepth 100000
variable {g h:AH} {L R:List SP}
section
variable {n m:Nat} {v:AV} {xs:List AV}
theorem qG0 (hn:1≤n) (H:HS g h L) (s:Sel L (qy 23 1 m v xs) R) (ha:qm xs=true) (hm:m≤1000000) :
  t_w n 69 [v] h λr h'=>HS g h' (qy 23 1 m r xs::L):=by
 refine t_e1 (S:=S69) rfl omQ λk hk=>?_;unfold S69;try simp only[iZ]
 refine JJ H s (λh1 h2=>?_) (qJ ?_)
 ·subst h1 h2;obtain rfl:xs=[]:=iA (by simpa using H.sl_len s);exact qZ (qj H.nils)
 ·refine qf (n:=0) (l:=[]) (sz:=1) H rfl rfl rfl rfl λv2 h2 H2=>?_;refine jf H2 (H2.sl (.there s)) omQ omQ ha λv3 h3 H3=>?_;rw[Nat.zero_add,List.nil_append]at H3;exact qj H3
theorem Yd (hn:1≤n) (H:HS g h L) (s:Sel L (qy 245 2 m v xs) R) (ha:qm xs=true) (hm:m≤1000000) :
  t_w n 158 [v] h λr h'=>HS g h' (qy 245 2 m r xs::L):=by
 refine t_e1 (S:=S158) rfl omQ λk hk=>?_;unfold S158;try simp only[iZ]
 refine JJ H s (λh1 h2=>?_) (qJ ?_)
 ·subst h1 h2;obtain rfl:xs=[]:=iA (by simpa using H.sl_len s);exact qZ (qj H.nils)
 ·refine qf (n:=0) (l:=[]) (sz:=2) H rfl rfl rfl rfl λv2 h2 H2=>?_;refine jf H2 (H2.sl (.there s)) omQ omQ ha λv3 h3 H3=>?_;rw[Nat.zero_add,List.nil_append]at H3;exact qj H3
end
theorem Ok {f:Int→AV} (hf:∀x,(f x).one=true):∀l:List Int,qm (l.map f)=true:=by intro l;unfold qm;rw[List.all_map,List.all_eq_true];intro x _;exact hf x
theorem J5 {α:Type} {f:α→List AV} (hf:∀x,qm (f x)=true):∀l:List α,qm (l.flatMap f)=true:=by
 intro l
 induction l with
 |nil=>rfl
 |cons x l ih=>rw[List.flatMap_cons];unfold qm at*;rw[List.all_append,hf,ih];rfl
section
variable {n b m:Nat} {v wd:AV} {e:TypeId} {xs:List AV} {R2:List SP}
theorem qgI (hn:2≤n) (H:HS g h L) (s:Sel L (qg b [v]) R) (s2:Sel L (qy 23 1 m v xs) R2) (ha:qm xs=true) (hm:m≤1000000) :
  t_w n 35 [.ptr b 0] h λr h'=>HS g h' (qy 23 1 m r xs::L):=by
 refine t_e1 (S:=S35) rfl omQ λk hk=>?_;unfold S35;try simp only[iZ]
 refine qW (qQ (qK H s rfl ?_));exact qG (qG0 omQ H s2 ha hm) λ_ _ H1=>qj H1
end
section
variable {n p hb tb cb sb:Nat} {wv lv sv:AV} {S:xw} {M:jL} {o:OpM}
theorem MemC.I1 {X:SP} (H:HS g h (X::qZA p hb tb cb sb wv lv sv S M R)):HS g h (X::MemC p S M::R):=HS.unsel e_1 (MemC.I (HS.back (A:=qZA p hb tb cb sb wv lv sv S M []) H))
theorem NX (hn:3≤n) (hw:M.w.length≤1000000) (H:HS g h (MemC p S M::R)) :
  t_w n 10 [.ptr p 0] h λr h'=>HS g h' (qy 23 1 M.w.length r (M.w.map (.int .u64))::MemC p S M::R):=by
 refine t_e1 (S:=S10) rfl omQ λk hk=>?_;unfold S10;try simp only[iZ]
 obtain⟨hb,tb,cb,sb,wv,lv,sv,H⟩:=MemC.E H;refine qW (qQ (qK ‹_› .here rfl ?_));exact qG (qgI omQ H e_1 e_2 (Ok (λ_=>rfl) _) hw) λ_ _ H1=>qj (MemC.I1 H1)
theorem qzl {b:Nat} {x:Int} (hn:1≤n) (H:HS g h L) (s:Sel L (qg b [.int .u64 x]) R):t_w n 65 [.ptr b 0] h λr h'=>r=.int .u64 x∧h'=h:=by
 refine t_e1 (S:=S65) rfl omQ λk hk=>?_;unfold S65;try simp only[iZ]
 refine qW (qQ ?_);exact qK H s rfl (qj ⟨rfl,rfl⟩)
theorem qvH {b:Nat} (hn:1≤n) (H:HS g h (qg b [.int .u64 M.n]::R)):t_w n 66 [.ptr b 0,.int .u64 o.old,.int .u64 o.word] h λr h'=>
  r=.tup [.bool (Jb M { o with kind:=7 }).1.done,.int .i64 (Jb M { o with kind:=7 }).1.err]∧HS g h' (qg b [.int .u64 (Jb M { o with kind:=7 }).2.n]::R):=by
 refine t_e3 (S:=S66) rfl omQ λk hk=>?_;unfold S66;try simp only[iZ]
 unfold Jb;rw[iQ (show¬(7:Int)=6 by decide)];refine wP (λc1=>?_) (λc1=>?_)
 ·rw[iJ c1];refine qZ ?_;exact qj ⟨rfl,H⟩
 rw[iQ c1];refine qJ (yY (λc2=>?_) (λc2=>?_))
 ·rw[iJ (by dsimp only;omega)];refine qZ ?_;exact qj ⟨rfl,H⟩
 rw[iQ (by dsimp only;omega)];refine qJ (qW (qQ (qK ‹_› .here rfl ?_)));refine yS (λc3=>?_) (λc3=>?_)
 ·rw[iJ c3];refine qZ ?_;exact qj ⟨rfl,H⟩
 ·rw[iQ (λh=>h c3)];refine qJ (qW (qQ (qw H (b:=b) .here ⟨rfl,rfl⟩ osQ λh2 H2=>?_)));exact qj ⟨rfl,H2⟩
def y9 (M:jL) (o:OpM):AnM×jL:=if o.kind=1∨o.kind=2 then J0 M o else if o.kind=3∨o.kind=4∨o.kind=5 then QV M o else if o.kind=6∨o.kind=7 then Jb M o else if o.kind=8∨o.kind=9 then Gx M o else(anE 1,M)
theorem wS:jm M o=if(y9 M o).1.err=0 then((y9 M o).1,{ (y9 M o).2 with cnt:=(y9 M o).2.cnt+1 })else y9 M o:=rfl
theorem Z9:(y9 M o).2.cnt=M.cnt:=by
 unfold y9 J0 QV Jb Gx
 repeat' split
 all_goals rfl
theorem qw5 (hn:6≤n) (H:HS g h (MemC p S M::R)) :
  t_w n 34 [.ptr p 0,.agg (yL o)] h λr h'=>r=.agg (xK (y9 M o).1)∧HS g h' (MemC p S (y9 M o).2::R):=by
 refine t_e2 (S:=S34) rfl omQ λk hk=>?_;unfold S34;try simp only[iZ]
 generalize hr:y9 M o=r;obtain⟨hb,tb,cb,sb,wv,lv,sv,H⟩:=MemC.E H;refine qO H rfl λb0 h1 H1=>?_;refine qO H1 rfl λb1 h2 H2=>?_;refine qO H2 rfl λb2 h3 H3=>?_;clear H1 H2;unfold yL at H3;refine qQ (qK H3 (b:=b0) e_2 rfl ?_);refine jT [] (λs h'=>s=(.ptr b2 0,.ptr b1 0,())∧HS g h' (qg b2 (xK r.1)::qg b1 (xK an0)::qZA p hb tb cb sb wv lv sv S r.2 R)) ?_ ?_
 rotate_left
 ·rintro s h4 ⟨rfl,H4⟩;dsimp only;refine qD H4 (b:=b2) (off:=0) .here rfl omQ (l:=xK r.1) rfl ?_;refine qe H4 (b:=b1) e_1 rfl (by show 0+6≤6;omega) rfl λh5 H5=>?_;refine qk (qD H5 (b:=b1) (off:=0) .here rfl omQ (l:=xK r.1) rfl ?_);exact qj ⟨rfl,MemC.I (H5.drop.drop)⟩
 intro j hj;by_cases k1:o.kind=1
 ·refine qx k1 ?_;refine qZ (qW (qQ (qK ‹_› e_3 rfl ?_)));refine qQ (qK ‹_› e_2 rfl ?_);have e:r=(⟨(if 1≤o.at_∧o.at_<M.w.length then qM M.w o.at_ else 0),lk0,false,(if 1≤o.at_∧o.at_<M.w.length then 0 else 2)⟩,M):=by
   rw[← hr];unfold y9 J0 anE;rw[iJ (.inl k1)];by_cases c:1≤o.at_∧o.at_<M.w.length
   ·rw[iQ omQ,iJ k1,iJ c,iJ c]
   ·rw[iJ omQ,iQ c,iQ c]
  subst e;refine qG (qji omQ H3 e_4 e_5) ?_;rintro _ _ ⟨rfl,rfl⟩;refine qA rfl ?_;refine qA rfl ?_;refine qQ (qw H3 (b:=b2) .here ⟨rfl,rfl⟩ (by show 0<6;omega) λh4 H4=>?_);refine qQ (qw H4 (b:=b2) .here ⟨rfl,rfl⟩ (by show 5<6;omega) λh5 H5=>?_);exact hj _ _ ⟨rfl,H5.sub (.cons .here (.cons .here (.drop .refl)))⟩
 refine qX k1 ?_;refine qJ ?_;by_cases k2:o.kind=2
 ·refine qx k2 ?_;refine qZ (qW (qQ (qK ‹_› e_3 rfl ?_)));refine qQ (qK ‹_› e_2 rfl ?_);refine qQ (qK ‹_› e_2 rfl ?_);have e:r=(⟨0,lk0,false,(if 1≤o.at_∧o.at_<M.w.length then 0 else 2)⟩,{ M with w:=(if 1≤o.at_∧o.at_<M.w.length then M.w.set o.at_.toNat o.word else M.w) }):=by
   rw[← hr];unfold y9 J0 anE;rw[iJ (.inr k2)];by_cases c:1≤o.at_∧o.at_<M.w.length
   ·rw[iQ omQ,iQ k1,iJ c,iJ c];rfl
   ·rw[iJ omQ,iQ c,iQ c]
  subst e;refine qG (qVC omQ (H3.sub (.cons e_4 (.cons e_4 .refl)))) ?_;rintro _ h4 ⟨rfl,H4⟩;refine qQ (qw H4 (b:=b2) e_2 ⟨rfl,rfl⟩ (by show 5<6;omega) λh5 H5=>?_);exact hj _ _ ⟨rfl,H5.sub (.cons .here (.cons e_2 (.cons e_3 (.cons .here (.cons .here (.drop .refl))))))⟩
 refine qX k2 ?_;refine qJ ?_;by_cases k3:o.kind=3
 ·refine qx k3 ?_;refine qZ (qW (qQ (qK ‹_› e_3 rfl ?_)));refine qQ (qK ‹_› e_2 rfl ?_);have e:r=(⟨0,(if 0≤o.at_∧o.at_<M.l.length then zq M.l o.at_ else lk0),false,(if 0≤o.at_∧o.at_<M.l.length then 0 else 2)⟩,M):=by
   rw[← hr];unfold y9 QV anE;rw[iQ omQ,iJ (.inl k3)];by_cases c:0≤o.at_∧o.at_<M.l.length
   ·rw[iQ omQ,iJ k3,iJ c,iJ c]
   ·rw[iJ omQ,iQ c,iQ c]
  subst e;refine qG (qjn omQ H3 e_6 e_7) ?_;rintro _ h4 ⟨rfl,H4⟩;refine qA rfl ?_;refine qA rfl ?_;refine qQ (qe H4 (b:=b2) .here rfl (by show 1+3≤6;omega) rfl λh5 H5=>?_);refine qQ (qw H5 (b:=b2) .here ⟨rfl,rfl⟩ (by show 5<6;omega) λh6 H6=>?_);exact hj _ _ ⟨rfl,H6.sub (.cons .here (.cons .here (.drop .refl)))⟩
 refine qX k3 ?_;refine qJ ?_;by_cases k4:o.kind=4
 ·refine qx k4 ?_;refine qZ (qW (qQ (qK ‹_› e_3 rfl ?_)));refine qQ (qK ‹_› e_2 rfl ?_);refine qQ ?_;have e:r=(⟨0,lk0,decide (kP M.l.length o.at_ o.lk=0∧zq M.l o.at_=o.was),kP M.l.length o.at_ o.lk⟩,{ M with l:=if kP M.l.length o.at_ o.lk=0∧zq M.l o.at_=o.was then M.l.set o.at_.toNat o.lk else M.l }):=by
   rw[← hr];unfold y9 QV kP anE an0;rw[iQ omQ,iJ (.inr (.inl k4))];by_cases c:0≤o.at_∧o.at_<M.l.length
   ·rw[iQ omQ,iQ k3,iJ c];by_cases c2:GA o.lk
    ·rw[iQ (λh=>h c2),iQ omQ,iJ c2];by_cases c3:zq M.l o.at_=o.was
     ·rw[iQ (λh=>h c3),iG ⟨rfl,c3⟩,iJ ⟨rfl,c3⟩]
     ·rw[iJ c3,iV (λh=>c3 h.2),iQ (λh=>c3 h.2)]
    ·rw[iJ c2,iQ c2,iV osQ,iQ osQ]
   ·rw[iJ omQ,iQ c,iV osQ,iQ osQ]
  subst e;refine qD H3 (b:=b0) (off:=4) e_2 rfl omQ (l:=zk o.was) rfl ?_;refine qQ (qD H3 (b:=b0) (off:=7) e_2 rfl omQ (l:=zk o.lk) rfl ?_);refine qG (qv7 omQ (H3.sub (.cons e_6 (.cons e_6 .refl)))) ?_;rintro _ h4 ⟨rfl,H4⟩;refine qA rfl ?_;refine qA rfl ?_;refine qQ (qw H4 (b:=b2) e_2 ⟨rfl,rfl⟩ (by show 4<6;omega) λh5 H5=>?_);refine qQ (qw H5 (b:=b2) .here ⟨rfl,rfl⟩ (by show 5<6;omega) λh6 H6=>?_);exact hj _ _ ⟨rfl,H6.sub (.cons .here (.cons e_2 (.cons e_3 (.cons e_3 (.cons e_3 (.cons .here (.cons .here (.drop .refl))))))))⟩
 refine qX k4 ?_;refine qJ ?_;by_cases k5:o.kind=5
 ·refine qx k5 ?_;refine qZ (qW (qQ (qK ‹_› e_3 rfl ?_)));refine qQ (qK ‹_› e_2 rfl ?_);refine qQ ?_;have e:r=(⟨0,lk0,false,kP M.l.length o.at_ o.lk⟩,{ M with l:=if kP M.l.length o.at_ o.lk=0 then M.l.set o.at_.toNat o.lk else M.l }):=by
   rw[← hr];unfold y9 QV kP anE an0;rw[iQ omQ,iJ (.inr (.inr k5))];by_cases c:0≤o.at_∧o.at_<M.l.length
   ·rw[iQ omQ,iQ k3,iJ c];by_cases c2:GA o.lk
    ·rw[iQ (λh=>h c2),iJ k5,iJ c2,iJ rfl]
    ·rw[iJ c2,iQ c2,iQ od]
   ·rw[iJ omQ,iQ c,iQ od]
  subst e;refine qD H3 (b:=b0) (off:=7) e_2 rfl omQ (l:=zk o.lk) rfl ?_;refine qG (qGp omQ (H3.sub (.cons e_6 (.cons e_6 .refl)))) ?_;rintro _ h4 ⟨rfl,H4⟩;refine qQ (qw H4 (b:=b2) e_2 ⟨rfl,rfl⟩ (by show 5<6;omega) λh5 H5=>?_);exact hj _ _ ⟨rfl,H5.sub (.cons .here (.cons e_2 (.cons e_3 (.cons e_3 (.cons e_3 (.cons .here (.cons .here (.drop .refl))))))))⟩
 refine qX k5 ?_;refine qJ ?_;by_cases k6:o.kind=6
 ·refine qx k6 ?_;refine qZ (qW (qQ (qK ‹_› e_3 rfl ?_)));have e:r=(⟨M.n,lk0,false,0⟩,M):=by
   rw[← hr];unfold y9 Jb;rw[iQ omQ,iQ omQ,iJ (.inl k6),iJ k6]
  subst e;refine qG (qzl omQ H3 e_8) ?_;rintro _ _ ⟨rfl,rfl⟩;refine qQ (qw H3 (b:=b2) .here ⟨rfl,rfl⟩ (by show 0<6;omega) λh4 H4=>?_);exact hj _ _ ⟨rfl,H4.sub (.cons .here (.cons .here (.drop .refl)))⟩
 refine qX k6 ?_;refine qJ ?_;by_cases k7:o.kind=7
 ·refine qx k7 ?_;refine qZ (qW (qQ (qK ‹_› e_3 rfl ?_)));refine qQ (qK ‹_› e_2 rfl ?_);refine qQ (qK ‹_› e_2 rfl ?_);have e:r=(⟨0,lk0,(Jb M { o with kind:=7 }).1.done,(Jb M { o with kind:=7 }).1.err⟩,{ M with n:=(Jb M { o with kind:=7 }).2.n }):=by
   rw[← hr];unfold y9 Jb anE an0;rw[iQ omQ,iQ omQ,iJ (.inr k7),iQ k6,iQ (show¬(7:Int)=6 by decide)];dsimp only
   repeat' split
   all_goals rfl
  subst e;refine qG (qvH (o:=o) omQ (H3.sub (.cons e_8 .refl))) ?_;rintro _ h4 ⟨rfl,H4⟩;refine qA rfl ?_;refine qA rfl ?_;refine qQ (qw H4 (b:=b2) e_1 ⟨rfl,rfl⟩ (by show 4<6;omega) λh5 H5=>?_);refine qQ (qw H5 (b:=b2) .here ⟨rfl,rfl⟩ (by show 5<6;omega) λh6 H6=>?_);exact hj _ _ ⟨rfl,H6.sub (.cons .here (.cons e_1 (.cons e_2 (.cons e_2 (.cons e_2 (.cons e_2 (.cons e_2 (.cons .here (.drop .refl)))))))))⟩
 refine qX k7 ?_;refine qJ ?_;by_cases k8:o.kind=8
 ·refine qx k8 ?_;refine qZ (qW (qQ (qK ‹_› e_3 rfl ?_)));refine qQ (qK ‹_› e_2 rfl ?_);have e:r=(⟨(if 0≤o.at_∧o.at_<M.s.length then qM M.s o.at_ else 0),lk0,false,(if 0≤o.at_∧o.at_<M.s.length then 0 else 2)⟩,M):=by
   rw[← hr];unfold y9 Gx anE;rw[iQ omQ,iQ omQ,iQ omQ,iJ (.inl k8)];by_cases c:0≤o.at_∧o.at_<M.s.length
   ·rw[iQ omQ,iJ k8,iJ c,iJ c]
   ·rw[iJ omQ,iQ c,iQ c]
  subst e;refine qG (qzO omQ H3 e_9 e_10) ?_;rintro _ _ ⟨rfl,rfl⟩;refine qA rfl ?_;refine qA rfl ?_;refine qQ (qw H3 (b:=b2) .here ⟨rfl,rfl⟩ (by show 0<6;omega) λh4 H4=>?_);refine qQ (qw H4 (b:=b2) .here ⟨rfl,rfl⟩ (by show 5<6;omega) λh5 H5=>?_);exact hj _ _ ⟨rfl,H5.sub (.cons .here (.cons .here (.drop .refl)))⟩
 refine qX k8 ?_;refine qJ ?_;by_cases k9:o.kind=9
 ·refine qx k9 ?_;refine qZ (qW (qQ (qK ‹_› e_3 rfl ?_)));refine qQ (qK ‹_› e_2 rfl ?_);refine qQ (qK ‹_› e_2 rfl ?_);have e:r=(⟨0,lk0,false,(if 0≤o.at_∧o.at_<M.s.length then 0 else 2)⟩,{ M with s:=(if 0≤o.at_∧o.at_<M.s.length then M.s.set o.at_.toNat o.word else M.s) }):=by
   rw[← hr];unfold y9 Gx anE;rw[iQ omQ,iQ omQ,iQ omQ,iJ (.inr k9)];by_cases c:0≤o.at_∧o.at_<M.s.length
   ·rw[iQ omQ,iQ k8,iJ c,iJ c];rfl
   ·rw[iJ omQ,iQ c,iQ c]
  subst e;refine qG (qKm omQ (H3.sub (.cons e_9 (.cons e_9 .refl)))) ?_;rintro _ h4 ⟨rfl,H4⟩;refine qQ (qw H4 (b:=b2) e_2 ⟨rfl,rfl⟩ (by show 5<6;omega) λh5 H5=>?_);exact hj _ _ ⟨rfl,H5.sub (.cons .here (.cons e_2 (.cons e_3 (.cons e_3 (.cons e_3 (.cons e_3 (.cons e_3 (.cons e_3 (.cons .here (.cons .here (.drop .refl)))))))))))⟩
 refine qX k9 ?_;refine qJ (qQ ?_);have e:r=(anE 1,M):=by rw[← hr];unfold y9;rw[iQ omQ,iQ omQ,iQ omQ,iQ omQ]
 subst e;refine qw H3 (b:=b2) .here ⟨rfl,rfl⟩ (by show 5<6;omega) λh4 H4=>?_;exact hj _ _ ⟨rfl,H4.sub (.cons .here (.cons .here (.drop .refl)))⟩
theorem qzF (hn:7≤n) (hc:0≤M.cnt∧M.cnt<1000000000) (H:HS g h (MemC p S M::R)) :
  t_w n 9 [.ptr p 0,.agg (yL o)] h λr h'=>r=.agg (xK (jm M o).1)∧HS g h' (MemC p S (jm M o).2::R):=by
 refine t_e2 (S:=S9) rfl omQ λk hk=>?_;unfold S9;try simp only[iZ]
 refine qO H rfl λb0 h1 H1=>?_;refine qO H1 rfl λb1 h2 H2=>?_;refine qD H2 (b:=b0) (off:=0) e_1 rfl omQ (l:=yL o) rfl ?_;refine qG (qw5 (o:=o) omQ (H2.sel e_2)) ?_;rintro _ h3 ⟨rfl,H3⟩;have ec:(y9 M o).2.cnt=M.cnt:=Z9;rw[wS];generalize y9 M o=r at*;obtain⟨r,M'⟩:=r;dsimp only at ec H3 ⊢;refine qO H3 rfl λb2 h4 H4=>?_;refine qe H4 (b:=b2) .here rfl (by show 0+6≤6;omega) rfl λh5 H5=>?_;have H5:HS g h5 (qg b2 (xK r)::MemC p S M'::qg b1 (xK an0)::qg b0 (yL o)::R):=H5;clear H3 H4;have H6:=H5;unfold xK at H6;refine jT [] (λs h'=>s=(.ptr b2 0,.ptr b1 0,())∧HS g h' (qg b2 (xK r)::qg b1 (xK an0)::MemC p S (if r.err=0 then(r,{ M' with cnt:=M'.cnt+1 })else(r,M')).2::R)) ?_ ?_
 rotate_left
 ·rintro s h4 ⟨rfl,H4⟩;dsimp only;refine qD H4 (b:=b2) (off:=0) .here rfl omQ (l:=xK r) rfl ?_;refine qe H4 (b:=b1) e_1 rfl (by show 0+6≤6;omega) rfl λh5 H5=>?_;refine qk (qD H5 (b:=b1) (off:=0) .here rfl omQ (l:=xK r) rfl ?_);refine qj ⟨by split<;>rfl,?_⟩;exact H5.drop.drop
 intro j hj;refine qQ (qK ‹_› .here rfl ?_);by_cases c:r.err=0
 ·refine qx c ?_;rw[iJ c]at hj ⊢;refine qZ (qW (qQ ?_));obtain⟨hb,tb,cb,sb,wv,lv,sv,H7⟩:=MemC.E (H5.sel e_1);refine qK ‹_› .here rfl ?_;refine qc omQ ?_;refine qW (qQ (qw H7 (b:=p) .here ⟨rfl,rfl⟩ (by show 9<10;omega) λh8 H8=>?_));have H9:HS g h8 (MemC p S { M' with cnt:=M'.cnt+1 }::_):=MemC.I (hb:=hb) (tb:=tb) (cb:=cb) (sb:=sb) (wv:=wv) (lv:=lv) (sv:=sv) H8;exact hj _ _ ⟨rfl,H9.sub (.cons e_1 (.cons e_1 (.cons .here (.drop .refl))))⟩
 ·refine qX c ?_;rw[iQ c]at hj ⊢;refine qJ ?_;exact hj _ _ ⟨rfl,H5.sub (.cons .here (.cons e_1 (.cons .here (.drop .refl))))⟩
end
end Go.Proofs.YtnalffoigcmnnabGreatDoor
namespace Go.Proofs.YtnalffoigcmnnabGreatDoor
open Go Go.Ae
set_option maxRecDepth 100000
variable {g h:AH} {L R:List SP}
theorem qqc:∀{a b:List Int},a.Pairwise (· < ·)→b.Pairwise (· < ·)→(∀x,x∈a↔x∈b)→a=b:=by
 intro a
 induction a with
 |nil=>
  intro b _ _ h;cases b with
  |nil=>rfl
  |cons y b=>have:=(h y).2 (iK ..);cases this
 |cons x a ih=>
  intro b ha hb h;cases b with
  |nil=>have:=(h x).1 (iK ..);cases this
  |cons y b=>
   have ha':=List.pairwise_cons.1 ha;have hb':=List.pairwise_cons.1 hb;have e:x=y:=by
    rcases List.mem_cons.1 ((h x).1 (iK ..))with e |e
    ·exact e
    ·rcases List.mem_cons.1 ((h y).2 (iK ..))with e2 |e2
     ·exact e2.symm
     ·have h1:=hb'.1 x e;have h2:=ha'.1 y e2;omega
   subst e
   congr 1
   refine ih ha'.2 hb'.2 λz=>⟨λhz=>?_,λhz=>?_⟩
   ·rcases List.mem_cons.1 ((h z).1 (iX _ hz))with e |e
    ·have:=ha'.1 z hz;omega
    ·exact e
   ·rcases List.mem_cons.1 ((h z).2 (iX _ hz))with e |e
    ·have:=hb'.1 z hz;omega
    ·exact e
theorem qKM {d:Array Int} (hs:∀i j,i≤j→j<d.size→d[i]! ≤d[j]!):∀m,m≤d.size→(Lib.compactUpTo d m).Pairwise (· < ·)∧∀x,x∈Lib.compactUpTo d m↔∃j,j<m∧d[j]! =x:=by
 intro m
 induction m with
 |zero=>intro _;exact⟨List.Pairwise.nil,λx=>⟨(λh=>by cases h),λ⟨j,h,_⟩=>by omega⟩⟩
 |succ m ih=>
  intro hm;obtain⟨p,q⟩:=ih omQ;rw[Lib.compactUpTo_succ];by_cases hk:Lib.keeps d m=true
  ·rw[iJ hk];refine⟨?_,λx=>?_⟩
   ·rw[List.pairwise_append];refine⟨p,List.pairwise_singleton ..,λa ha b hb=>?_⟩;rw[List.mem_singleton]at hb;subst hb;obtain⟨j,hj,rfl⟩:=(q a).1 ha;have h1:=hs j (m-1) omQ omQ;have h2:=hs (m-1) m omQ omQ;have h3:d[m]! ≠d[m-1]!:=by
     intro e;rw[Lib.keeps_neg omQ e]at hk;cases hk
    omega
   ·rw[List.mem_append,q x,List.mem_singleton];refine⟨λh=>?_,λ⟨j,hj,e⟩=>?_⟩
    ·rcases h with⟨j,hj,e⟩ |e
     ·exact⟨j,by omega,e⟩
     ·exact⟨m,by omega,e.symm⟩
    ·by_cases hjm:j=m
     ·subst hjm;exact .inr e.symm
     ·exact .inl ⟨j,by omega,e⟩
  ·rw[iQ hk,List.append_nil];refine⟨p,λx=>?_⟩;rw[q x];refine⟨λ⟨j,hj,e⟩=>⟨j,by omega,e⟩,λ⟨j,hj,e⟩=>?_⟩;by_cases hjm:j=m
   ·subst hjm;have h0:0<j:=by
     rcases Nat.eq_zero_or_pos j with h |h
     ·subst h;exact absurd (Lib.keeps_lt_one d 0 omQ) hk
     ·exact h
    refine⟨j-1,by omega,?_⟩;refine Decidable.byContradiction λhne=>hk (Lib.keeps_pos λh=>hne ?_);rw[← h,e]
   ·exact⟨j,by omega,e⟩
theorem qvb {zs:List Int} (h:zs.Pairwise (· ≤ ·)):(Lib.compact zs).Pairwise (· < ·)∧∀x,x∈Lib.compact zs↔x∈zs:=by
 have hg:∀i:Nat,i<zs.length→zs.toArray[i]! =zs[i]!:=λi hi=>by simp
 obtain⟨p,q⟩:=qKM (d:=zs.toArray) (λi j hij hj=>by
  have hj:j<zs.length:=by simpa using hj
  rw[hg i omQ,hg j hj,getElem!_pos zs i omQ,getElem!_pos zs j hj];by_cases e:i=j
  ·subst e;exact Int.le_refl _
  ·exact List.pairwise_iff_getElem.1 h i j omQ hj omQ) zs.length osQ
 refine⟨p,λx=>?_⟩;refine(q x).trans ⟨λ⟨j,hj,e⟩=>?_,λhx=>?_⟩
 ·rw[hg j hj,getElem!_pos zs j hj]at e;rw[← e];exact List.getElem_mem hj
 ·obtain⟨j,hj,e⟩:=List.mem_iff_getElem.1 hx;exact⟨j,hj,by rw[hg j hj,getElem!_pos zs j hj];exact e⟩
theorem Z5 {p n w:Int} (h:0≤p):0≤ofM p n w∧ofM p n w<16:=by unfold ofM;rw[iQ omQ];have h1:=Int.emod_nonneg (p/max 1 (min w 16)) (show max 1 (min n 16)≠0 by omega);have h2:=Int.emod_lt_of_pos (p/max 1 (min w 16)) (show 0<max 1 (min n 16) by omega);omega
theorem JV {cs:List Cl} {n w:Int}:(xE cs n w).Pairwise (· < ·):=by unfold xE;refine List.Pairwise.filter _ ?_;rw[List.pairwise_map];exact List.pairwise_lt_range.imp λh=>by omega
theorem XW {cs:List Cl} {n w:Int} (h:∀c∈cs,0≤c.1) {x:Int}:x∈xE cs n w↔x∈cs.map λc=>ofM c.1 n w:=by unfold xE;rw[List.mem_filter,List.any_eq_true,List.mem_map,List.mem_map];refine⟨λ⟨_,c,hc,e⟩=>⟨c,hc,by simpa using e⟩,λ⟨c,hc,e⟩=>⟨?_,c,hc,by simpa using e⟩⟩;have:=Z5 (n:=n) (w:=w) (h c hc);exact⟨x.toNat,List.mem_range.2 omQ,by omega⟩
theorem qJL {cs:List Cl} {n w:Int} (h:∀c∈cs,0≤c.1):Lib.compact (kh (cs.map λc=>ofM c.1 n w))=xE cs n w:=by obtain⟨p,q⟩:=qvb (X7 (cs.map λc=>ofM c.1 n w));exact qqc p JV λx=>by rw[q,(Jn _).mem_iff,XW h]
section
variable {n m:Nat} {v:AV} {zs:List Int}
theorem qzL {e:TypeId} (hn:1≤n) (H:HS g h (qy e 1 m v (zs.map (.int .i64))::R)) (h0:0<m) (hm:m≤1000000) :
  t_w n 205 [v] h λ_ h'=>HS g h' (qy e 1 m v ((kh zs).map (.int .i64))::R):=by
 have hl:zs.length=m:=by have:=H.sl_len .here;simpa using this
 obtain⟨b,cp,o,ys,rfl,HC,q1,q2,q3⟩:=H.slE h0;rw[Nat.mul_one]at q1 q2;refine qB (g:=W205) rfl omQ λk hk=>?_;show wp (Z6 _ [.slice b 0 m cp o] h) _;obtain⟨D,⟨hD,A⟩,hb2,kk⟩:=HC.act;obtain⟨c,c1,c2,c3⟩:=A.blk;unfold Z6;simp only[c1,c2];rw[q2,Na];simp only[];rw[show Nat.beq zs.length m=true from by rw[hl];exact Nat.beq_refl _,iY hm];simp only[Bool.and_self,cond_true];refine⟨_,_,rfl,?_⟩;have HC':=kk _ (Cell b ((kh zs).map (.int .i64)++ys.drop m) e o) D ⟨by simp,λa ha hn=>AH.get_put_ne h _ λe=>hn ((hD a).2 e.symm)⟩ ⟨hD,by simpa using A.lt,CT.ofList _,AH.get_put_same ..,CT.ofList_ok _,CT.full_ofList _⟩ λa ha=>⟨.inl ha,by have:=(hb2 a ha).2;simpa using this⟩;have hlen:((kh zs).map (AV.int .i64)).length=m:=by rw[List.length_map,Vc,hl]
 have:=HS.slI (n:=m) (sz:=1) (cp:=cp) HC' (by rw[List.length_append,hlen];omega) (by
  rw[List.length_append,hlen,List.length_drop,show m+(ys.length-m)=ys.length by omega];exact q3)
 rw[Nat.mul_one,List.take_append_of_le_length omQ,List.take_of_length_le omQ]at this;exact this
theorem qq5 (hn:1≤n) (H:HS g h (qy 3 1 m v (zs.map (.int .i64))::R)) (h0:0<m) (hm:m≤1000000) :
  t_w n 206 [v] h λr h'=>HS g h' (qy 3 1 (Lib.compact zs).length r ((Lib.compact zs).map (.int .i64))::R):=by
 have hl:zs.length=m:=by have:=H.sl_len .here;simpa using this
 obtain⟨b,cp,o,ys,rfl,HC,q1,q2,q3⟩:=H.slE h0;rw[Nat.mul_one]at q1 q2;refine qB (g:=W206) rfl omQ λk hk=>?_;show wp (Ou 3 _ [.slice b 0 m cp o] h) _;obtain⟨D,⟨hD,A⟩,hb2,kk⟩:=HC.act;obtain⟨c,c1,c2,c3⟩:=A.blk;have hle:=qXB zs;unfold Ou;simp only[c1,c2];rw[q2,Na];simp only[];have hc:(Nat.beq zs.length m&&(Nat.ble m 1000000&&(bif o then Nat.beq cp 0&&(o&&Nat.beq 3 3)else Nat.ble m cp)))=true:=by
  rw[show Nat.beq zs.length m=true from by rw[hl];exact Nat.beq_refl _,iY hm];cases o with
  |true=>rw[iJ rfl]at q3;subst q3;rfl
  |false=>rw[iQ osQ]at q3;simp only[Bool.true_and,cond_false];exact iY q3.2
 rw[hc];simp only[cond_true];refine⟨_,_,rfl,?_⟩;have HC':=kk _ (Cell b ((Lib.compact zs++List.replicate (zs.length-(Lib.compact zs).length) 0).map (.int .i64)++ys.drop m) 3 o) D ⟨by simp,λa ha hn=>AH.get_put_ne h _ λe=>hn ((hD a).2 e.symm)⟩ ⟨hD,by simpa using A.lt,CT.ofList _,AH.get_put_same ..,CT.ofList_ok _,CT.full_ofList _⟩ λa ha=>⟨.inl ha,by have:=(hb2 a ha).2;simpa using this⟩;have hlen:((Lib.compact zs++List.replicate (zs.length-(Lib.compact zs).length) 0).map (AV.int .i64)).length=m:=by simp;omega
 have:=HS.slI (n:=(Lib.compact zs).length) (sz:=1) (cp:=cp) HC' (by rw[List.length_append,hlen];omega) (by
  rw[List.length_append,hlen,List.length_drop,show m+(ys.length-m)=ys.length by omega];cases o with
  |true=>exact q3
  |false=>rw[iQ osQ]at q3 ⊢;exact⟨q3.1,by omega⟩)
 have tk:((Lib.compact zs++List.replicate (zs.length-(Lib.compact zs).length) 0).map (AV.int .i64)++ys.drop m).take (Lib.compact zs).length=(Lib.compact zs).map (AV.int .i64):=by rw[List.take_append_of_le_length omQ,List.map_append,List.take_append_of_le_length osQ,List.take_of_length_le osQ]
 rw[Nat.mul_one,tk]at this;exact this
theorem qzM:∀{l:List Int},l.Pairwise (· ≤ ·)→U1 l=true:=by
 intro l
 induction l with
 |nil=>intro _;rfl
 |cons x r ih=>
  intro h;cases r with
  |nil=>rfl
  |cons y r=>have h1:=List.pairwise_cons.1 h;unfold U1;rw[ih h1.2,iG (h1.1 y (iK ..))];rfl
theorem qzp {e:TypeId} {x:Int} (hn:1≤n) (H:HS g h L) (s:Sel L (qy e 1 m v (zs.map (.int .i64))) R) (h0:0<m) (hm:m≤1000000) (hs:zs.Pairwise (· ≤ ·)) :
  t_w n 369 [v,.int .i64 x] h λr h'=>r=.tup [.int .i64 (zs.countP (· <x):Nat),.bool (zs.contains x)]∧h'=h:=by
 have hl:zs.length=m:=by have:=H.sl_len s;simpa using this
 obtain⟨b,cp,o,ys,rfl,HC,q1,q2,q3⟩:=(H.sel s).slE h0;rw[Nat.mul_one]at q1 q2;refine qB (g:=W369) rfl omQ λk hk=>?_;show wp (Oo _ [.slice b 0 m cp o,.int .i64 x] h) _;obtain⟨D,⟨hD,A⟩,hb2,kk⟩:=HC.act;obtain⟨c,c1,c2,c3⟩:=A.blk;unfold Oo;simp only[c1,c2];rw[q2,Na];simp only[];rw[show Nat.beq zs.length m=true from by rw[hl];exact Nat.beq_refl _,iY hm,qzM hs];exact⟨_,_,rfl,rfl,rfl⟩
end
theorem K9 {n:Nat} {a b:Int} (hn:1≤n):t_w n 58 [.int .i64 a,.int .i64 b] h λr h'=>r=.int .i64 (max 1 (min a b))∧h'=h:=by
 refine t_e2 (S:=S58) rfl omQ λk hk=>?_;unfold S58;try simp only[iZ]
 refine zX (zC ?_);exact qj ⟨rfl,rfl⟩
theorem qWl {n:Nat} {p a w:Int} (hn:2≤n) (hp:p<4611686018427387904):t_w n 155 [.int .i64 p,.int .i64 a,.int .i64 w] h λr h'=>r=.int .i64 (ofM p a w)∧h'=h:=by
 refine t_e3 (S:=S155) rfl omQ λk hk=>?_;unfold S155;try simp only[iZ]
 unfold ofM;by_cases c:p<0
 ·refine jd c ?_;rw[iJ c];refine qZ ?_;exact qj ⟨rfl,rfl⟩
 ·refine jH c ?_;rw[iQ c];refine qJ (qG (K9 omQ) ?_);rintro _ _ ⟨rfl,rfl⟩;refine qyB omQ ?_;have h1:p.tdiv (max 1 (min w ((16:Nat):Int)))=p/max 1 (min w 16):=Int.tdiv_eq_ediv_of_nonneg omQ;have h2:0≤p/max 1 (min w 16):=Int.ediv_nonneg omQ omQ;have h3:p/max 1 (min w 16)≤p:=Int.ediv_le_self _ omQ;rw[h1,ZT omQ];refine qG (K9 omQ) ?_;rintro _ _ ⟨rfl,rfl⟩;refine JZ omQ ?_;rw[Int.tmod_eq_emod_of_nonneg h2];exact qj ⟨rfl,rfl⟩
theorem qZu {n:Nat} {cv:AV} {cs:List Cl} {a w:Int} (hn:4≤n) (H:HS g h R) (S:Rd g R 2 cs.length cv (cs.flatMap jA)) (h0:0<cs.length) (hl:cs.length≤1000) (hc:∀c∈cs,0≤c.1∧c.1<100000) :
  t_w n 159 [cv,.int .i64 a,.int .i64 w] h λr h'=>HS g h' (qy 3 1 (xE cs a w).length r ((xE cs a w).map (.int .i64))::R):=by
 refine t_e3 (S:=S159) rfl omQ λk hk=>?_;unfold S159;try simp only[iZ]
 have hLV:=(S.sl H).lenV;refine yA ‹_› ?_
 refine jN (λm s h'=>∃(i:Nat) (v:AV),s=(.int .i64 (i:Int),.int .i64 (cs.length:Int),cv,v,.int .i64 w,.int .i64 a,())∧i≤cs.length∧m=cs.length-i∧
  HS g h' (qy 3 1 i v (((cs.take i).map λc=>ofM c.1 a w).map (.int .i64))::R))
  ?_ (m:=cs.length) (by show _<1000000000;omega) ⟨0,.nils,rfl,by omega,by omega,H.nils⟩
 clear H hLV;rintro m ih s h2 hih ⟨i,v,rfl,hi,rfl,H⟩;dsimp only;by_cases hlt:i<cs.length
 ·refine jd omQ (qZ ?_);have hci:=hc _ (List.getElem_mem hlt);have hr:=Z5 (n:=a) (w:=w) hci.1;refine qV ?_
  try dsimp only
  refine zU (l:=jA cs[i]) (S.sl H.drop) hlt omQ (gF (sz:=2) (enc:=jA) (λ_=>rfl) (iW hlt)) ?_;refine qO H rfl λb h3 H3=>?_;refine qe H3 (b:=b) .here rfl (by show 0+2≤2;omega) rfl λh4 H4=>?_;have H4:HS g h4 (qg b [.int .i64 cs[i].1,.int .u64 cs[i].2]::qy 3 1 i v (((cs.take i).map λc=>ofM c.1 a w).map (.int .i64))::R):=H4;refine qQ (qK ‹_› .here rfl ?_);refine qG (qWl omQ omQ) ?_;rintro _ _ ⟨rfl,rfl⟩;refine zO omQ (qZ ?_);refine qf (n:=1) (l:=[.int .i64 (ofM cs[i].1 a w)]) (sz:=1) H4 rfl rfl rfl rfl λv2 h5 H5=>?_;refine jf (H5.sel e_2) (H5.sl .here) omQ omQ rfl λv3 h6 H6=>?_;refine qc omQ ?_;refine hih (cs.length-(i+1)) _ _ omQ ⟨i+1,v3,rfl,by omega,rfl,?_⟩;have e:(cs.take (i+1)).map (λc=>ofM c.1 a w)=(cs.take i).map (λc=>ofM c.1 a w)++[ofM cs[i].1 a w]:=by rw[List.take_add_one,iW hlt,List.map_append];rfl
  rw[e,List.map_append];exact H6.sub (.cons .here (.drop (.drop .refl)))
 ·obtain rfl:i=cs.length:=by omega
  refine jH omQ (qJ ?_);rw[List.take_of_length_le (Nat.le_refl _)]at H;refine qG (qzL omQ H h0 omQ) λ_ h3 H3=>?_;refine qG (qq5 omQ H3 h0 omQ) λr h4 H4=>?_;rw[qJL λc hc'=>(hc c hc').1]at H4;refine qk ?_;exact qj H4
end Go.Proofs.YtnalffoigcmnnabGreatDoor
namespace Go.Proofs.YtnalffoigcmnnabGreatDoor
open Go Go.Ae
set_option maxRecDepth 100000
variable {g h:AH} {L R:List SP}
theorem Oa {l:List xR} {k:Nat} (hk:k<l.length):((l.flatMap gG).drop (k*2)).take 2=gG (zm l (k:Int)):=gF (sz:=2) (enc:=gG) (λ_=>rfl) (by unfold zm;rw[Int.toNat_natCast,iW hk];rfl)
theorem Qa {l:List xR} {k:Nat} (hk:k<l.length):(l.flatMap gG)[k*2+0]? =some (.int .i64 (zm l (k:Int)).1)∧(l.flatMap gG)[k*2+1]? =some (.int .u64 (zm l (k:Int)).2):=by
 have e:=Oa hk;have hl:(l.flatMap gG).length=l.length*2:=Jc (sz:=2) gG (λ_=>rfl) (l:=l);constructor
 ·have:=congrArg (·[0]?) e;simp only[List.getElem?_take_of_lt (show 0<2 by omega),List.getElem?_drop]at this;exact this
 ·have:=congrArg (·[1]?) e;simp only[List.getElem?_take_of_lt (show 1<2 by omega),List.getElem?_drop]at this;exact this
def RdsC (b:Nat) (r:List xR):SP:=.ex λsv=>.all [qg b [.int .i64 16,sv],qy 245 2 r.length sv (r.flatMap gG)]
section
variable {n b:Nat} {r:List xR} {x:xR}
theorem RdsC.E (H:HS g h (RdsC b r::R)):∃sv,HS g h (qg b [.int .i64 16,sv]::qy 245 2 r.length sv (r.flatMap gG)::R):=by obtain⟨sv,H⟩:=H.exE;exact⟨sv,H.allE⟩
theorem RdsC.I {sv:AV} (H:HS g h (qg b [.int .i64 16,sv]::qy 245 2 r.length sv (r.flatMap gG)::R)):HS g h (RdsC b r::R):=HS.exI sv H.allI
theorem qks (hn:1≤n) (H:HS g h R):t_w n 203 [.int .i64 ((16:Nat):Int)] h λv h'=>∃b,v=.ptr b 0∧HS g h' (RdsC b []::R):=by
 refine t_e1 (S:=S203) rfl omQ λk hk=>?_;unfold S203;try simp only[iZ]
 refine zX (zC (qH rfl ?_));refine qO H rfl λb h1 H1=>qj ⟨b,rfl,RdsC.I (sv:=.nils) ?_⟩;have:=(H1.nils (e:=245) (sz:=2));exact this.sub (.cons e_1 (.cons .here .refl))
theorem qvF {r:List xR} {i:Nat} {st:Int} {y:xR} (hb:∀z∈r.take i,z.1≠st) (hi:r[i]? =some y) (hy:y.1=st):r.find? (λz=>decide (z.1=st))=some y:=by
 obtain⟨hlt,e⟩:=List.getElem?_eq_some_iff.1 hi;have h1:(r.take i).find? (λz=>decide (z.1=st))=none:=List.find?_eq_none.2 λz hz=>by simpa using hb z hz
 have h2:r=r.take i++y::r.drop (i+1):=by rw[← e,← List.drop_eq_getElem_cons hlt,List.take_append_drop]
 rw[h2,List.find?_append,h1,List.find?_cons,iG hy];rfl
theorem qkh {st:Int} (hn:1≤n) (hr:r.length≤1000) (H:HS g h (RdsC b r::R)) :
  t_w n 270 [.ptr b 0,.int .i64 st] h λv h'=>v=.tup [.int .u64 ((r.find? λz=>decide (z.1=st)).getD (0,0)).2,.bool (r.find? λz=>decide (z.1=st)).isSome]∧HS g h' (RdsC b r::R):=by
 refine t_e2 (S:=S270) rfl omQ λk hk=>?_;unfold S270;try simp only[iZ]
 obtain⟨sv,H⟩:=RdsC.E H;refine qW (qQ (qK ‹_› .here rfl ?_));refine qi ‹_› e_1 ?_;refine jN (λm s h'=>∃i:Nat,s=(.int .i64 (i:Int),.int .i64 (r.length:Int),sv,.int .i64 st,())∧i≤r.length∧m=r.length-i∧(∀z∈r.take i,z.1≠st)∧HS g h' (qg b [.int .i64 16,sv]::qy 245 2 r.length sv (r.flatMap gG)::R))
  ?_ (m:=r.length) (by show _<1000000000;omega) ⟨0,rfl,by omega,by omega,by simp,H⟩
 clear H;rintro m ih s h2 hih ⟨i,rfl,hi,rfl,hb,H⟩;dsimp only;by_cases hlt:i<r.length
 ·refine jd omQ (qZ ?_);refine zU (l:=gG (zm r i)) (H.sl e_1) hlt omQ (Oa hlt) ?_;refine qO H rfl λc h3 H3=>?_;refine qe H3 (b:=c) .here rfl (by show 0+2≤2;omega) rfl λh4 H4=>?_;have H4:HS g h4 (qg c [.int .i64 (zm r i).1,.int .u64 (zm r i).2]::qg b [.int .i64 16,sv]::qy 245 2 r.length sv (r.flatMap gG)::R):=H4;have hg:r[i]? =some (zm r i):=by unfold zm;rw[Int.toNat_natCast,iW hlt];rfl
  refine qQ (qK ‹_› .here rfl ?_);by_cases hy:(zm r i).1=st
  ·refine qx hy ?_;refine qZ (qQ (qK ‹_› .here rfl ?_));refine qk ?_;rw[qvF hb hg hy];exact qj ⟨rfl,RdsC.I H4.drop⟩
  ·refine qX hy ?_;refine qJ (qc omQ ?_);refine hih (r.length-(i+1)) _ _ omQ ⟨i+1,rfl,by omega,rfl,?_,H4.drop⟩;intro z hz;rw[List.take_add_one,hg]at hz;rcases List.mem_append.1 hz with hz |hz
   ·exact hb z hz
   ·simp only[Option.toList_some,List.mem_singleton]at hz;subst hz;exact hy
 ·obtain rfl:i=r.length:=by omega
  refine jH omQ (qJ ?_);rw[List.take_of_length_le (Nat.le_refl _)]at hb;rw[List.find?_eq_none.2 λz hz=>by simpa using hb z hz];refine qk ?_;exact qj ⟨rfl,RdsC.I H⟩
theorem qk9 (hn:2≤n) (hr:r.length≤16) (H:HS g h (RdsC b r::R)) :
  t_w n 208 [.ptr b 0,.agg (gG x)] h λv h'=>v=.int .i64 (wo r x).1∧HS g h' (RdsC b (wo r x).2::R):=by
 refine t_e2 (S:=S208) rfl omQ λk hk=>?_;unfold S208;try simp only[iZ]
 generalize hA:wo r x=A;refine qO H rfl λb0 h1 H1=>?_;have H1:HS g h1 (qg b0 [.int .i64 x.1,.int .u64 x.2]::RdsC b r::R):=H1;unfold wo at hA;refine qQ (qK ‹_› .here rfl ?_);by_cases c1:x.1<0
 ·refine jd c1 ?_;refine qV ?_;(try dsimp only);refine qo ?_;(try dsimp only);refine qF (qV ?_);(try dsimp only);refine qo ?_;(try dsimp only);refine qF (qZ ?_)
  rw[iJ (.inl c1)]at hA;subst hA;exact qj ⟨rfl,H1.drop⟩
 refine jH c1 ?_;refine qV ?_;(try dsimp only);refine qd ?_;(try dsimp only);refine qQ (qK ‹_› .here rfl ?_)
 by_cases c2:16≤x.1
 ·refine zO omQ ?_;refine qI (qV ?_);(try dsimp only);refine qo ?_;(try dsimp only);refine qF (qZ ?_)
  rw[iJ (.inr (.inl c2))]at hA;subst hA;exact qj ⟨rfl,H1.drop⟩
 refine zN omQ ?_;refine qI (qV ?_);(try dsimp only);refine qd ?_;(try dsimp only);refine qQ (qK ‹_› .here rfl ?_)
 by_cases c3:4611686018427387904≤x.2
 ·refine zO omQ ?_;refine qI (qZ ?_);rw[iJ (.inr (.inr c3))]at hA;subst hA;exact qj ⟨rfl,H1.drop⟩
 refine zN omQ ?_;refine qI (qJ (qQ (qK ‹_› .here rfl ?_)));rw[iQ omQ]at hA;refine qG (qkh omQ omQ (H1.sel e_1)) ?_;rintro _ h2 ⟨rfl,H2⟩;have H3:=H2.sel e_1;refine qA rfl ?_;refine qA rfl ?_;cases hf:r.find? λz=>decide (z.1=x.1)with
 |some y=>
  rw[hf]at hA;dsimp only at hA;refine qZ (qQ (qK ‹_› .here rfl ?_));by_cases c4:y.2=x.2
  ·refine jY c4 ?_;rw[iQ (λh=>h c4)]at hA;subst hA;refine qJ ?_;exact qj ⟨rfl,H3.drop⟩
  ·refine jj c4 ?_;rw[iJ c4]at hA;subst hA;refine qZ ?_;exact qj ⟨rfl,H3.drop⟩
 |none=>
  rw[hf]at hA;dsimp only at hA;refine qJ ?_;obtain⟨sv,H4⟩:=RdsC.E H2;refine qW (qQ (qK ‹_› .here rfl ?_));refine qi ‹_› e_1 ?_;refine qW (qQ (qK ‹_› .here rfl ?_));by_cases c4:r.length=16
  ·refine qx omQ ?_;rw[iJ c4]at hA;subst hA;refine qZ ?_;exact qj ⟨rfl,H3.drop⟩
  ·refine qX omQ ?_;rw[iQ c4]at hA;subst hA;refine qJ (qW (qQ (qK ‹_› .here rfl ?_)));refine qD H4 (b:=b0) (off:=0) e_2 rfl omQ (l:=gG x) rfl ?_;refine qf (n:=1) (l:=gG x) (sz:=2) H4 rfl rfl rfl rfl λv2 h5 H5=>?_;refine jf (H5.sel e_2) (H5.sl .here) omQ omQ rfl λv3 h6 H6=>?_;have o6:=H6.one .here;refine qW (qQ (qw H6 (b:=b) e_2 o6 osQ λh7 H7=>?_));refine qj ⟨rfl,RdsC.I (sv:=v3) ?_⟩;rw[List.length_append,List.flatMap_append];exact H7.sub (.cons .here (.cons .here (.drop (.drop .refl))))
theorem qX6 (hn:2≤n) (hr:r.length≤1000) (H:HS g h (RdsC b r::R)):t_w n 118 [.ptr b 0] h λv h'=>HS g h' (qy 245 2 r.length v (r.flatMap gG)::RdsC b r::R):=by
 refine t_e1 (S:=S118) rfl omQ λk hk=>?_;unfold S118;try simp only[iZ]
 obtain⟨sv,H⟩:=RdsC.E H;refine qW (qQ (qK ‹_› .here rfl ?_));refine qG (Yd omQ H e_1 (J5 (λ_=>rfl) _) omQ) λv h1 H1=>qj ?_;exact HS.unsel e_1 (RdsC.I (sv:=sv) (H1.sub (.cons e_1 (.cons e_1 (.cons .here .refl)))))
end
def UT (x:QI) (sv:AV):List AV:=yx x.p [sv,.bool x.loaded,.int .i64 x.at_,.int .u64 x.stamp]
def ExtC (b:Nat) (x:QI):SP:=.ex λsv=>.all [qg b (UT x sv),qy 245 2 x.seen.length sv (x.seen.flatMap gG)]
structure UZ (x:QI):Prop where
  p:KL x.p
  lo:0≤x.at_
  hi:x.at_≤1000
  len:x.seen.length≤16
  le:x.at_≤x.seen.length
  in_:x.p.fin=0→x.loaded=true→x.at_<x.seen.length
section
variable {n b:Nat} {x:QI}
theorem ExtC.E (H:HS g h (ExtC b x::R)):∃sv,HS g h (qg b (UT x sv)::qy 245 2 x.seen.length sv (x.seen.flatMap gG)::R):=by obtain⟨sv,H⟩:=H.exE;exact⟨sv,H.allE⟩
theorem ExtC.I {sv:AV} (H:HS g h (qg b (UT x sv)::qy 245 2 x.seen.length sv (x.seen.flatMap gG)::R)):HS g h (ExtC b x::R):=HS.exI sv H.allI
theorem qxL {me sp:Int} {v:AV} {r:List xR} (hn:2≤n) (hr:r.length≤1000) (H:HS g h (qy 245 2 r.length v (r.flatMap gG)::R)) :
  t_w n 156 [.int .i64 me,.int .i64 sp,v] h λv h'=>∃b,v=.ptr b 0∧HS g h' (ExtC b (VV me sp r)::R):=by
 refine t_e3 (S:=S156) rfl omQ λk hk=>?_;unfold S156;try simp only[iZ]
 refine qG (OX omQ H) ?_;rintro _ h1 ⟨rfl,H1⟩;refine qG (Yd omQ H1 .here (J5 (λ_=>rfl) _) omQ) λv h2 H2=>?_;unfold yx;have o2:=H2.one .here;refine qH (l:=UT (VV me sp r) v) (by simp only[yF,o2.1];rfl) ?_;refine qO H2 (by show qm [_,_,_,_,_,v,_,_,_]=true;simp only[qm,List.all_cons,o2.2];rfl) λb h3 H3=>qj ⟨b,rfl,?_⟩;exact ExtC.I (sv:=v) (H3.sub (.cons .here (.cons .here (.drop .refl))))
theorem qXU (hn:2≤n) {sv:AV} (H:HS g h L) (s:Sel L (qg b (UT x sv)) R):t_w n 211 [.ptr b 0] h λr h'=>r=.int .i64 x.p.fin∧h'=h:=by
 refine t_e1 (S:=S211) rfl omQ λk hk=>?_;unfold S211;try simp only[iZ]
 refine qW (qQ (qG (XA omQ H s) ?_));rintro _ _ ⟨rfl,rfl⟩;exact qj ⟨rfl,rfl⟩
theorem qwn (hn:2≤n) {sv:AV} (H:HS g h L) (s:Sel L (qg b (UT x sv)) R):t_w n 353 [.ptr b 0] h λr h'=>r=.int .i64 x.p.by_∧h'=h:=by
 refine t_e1 (S:=S353) rfl omQ λk hk=>?_;unfold S353;try simp only[iZ]
 refine qW (qQ (qG (qZe omQ H s) ?_));rintro _ _ ⟨rfl,rfl⟩;exact qj ⟨rfl,rfl⟩
theorem V3 (hn:3≤n) {sv:AV} (H:HS g h L) (s:Sel L (qg b (UT x sv)) R):t_w n 162 [.ptr b 0] h λr h'=>r=.int .u64 (gP x)∧h'=h:=by
 refine t_e1 (S:=S162) rfl omQ λk hk=>?_;unfold S162;try simp only[iZ]
 refine qG (qXU omQ H s) ?_;rintro _ _ ⟨rfl,rfl⟩;unfold gP;by_cases c:x.p.fin=2
 ·refine jY c ?_;rw[iQ (λh=>h c)];refine qJ (qW (qQ ?_));exact qK H s rfl (qj ⟨rfl,rfl⟩)
 ·refine jj c ?_;rw[iJ c];refine qZ ?_;exact qj ⟨rfl,rfl⟩
theorem qWu (hn:2≤n) (O:UZ x) (H:HS g h (ExtC b x::R)):t_w n 354 [.ptr b 0] h λr h'=>r=opV (Jw x)∧HS g h' (ExtC b x::R):=by
 refine t_e1 (S:=S354) rfl omQ λk hk=>?_;unfold S354;try simp only[iZ]
 obtain⟨sv,H⟩:=ExtC.E H;refine qO H rfl λb0 h1 H1=>?_;refine qW (qQ (qG (XA omQ H1 e_1) ?_));rintro _ _ ⟨rfl,rfl⟩;unfold Jw;have H2:=H1;unfold UT yx at H2;by_cases c:x.p.fin=0
 ·refine jY c ?_;rw[iQ (λh=>h c)];refine qJ (qW (qQ (qK ‹_› e_1 rfl ?_)));cases hl:x.loaded with
  |false=>rw[iJ rfl];refine jV (qZ (qH rfl ?_));refine qe H1 (b:=b0) .here rfl (by show 0+10≤10;omega) rfl λh3 H3=>?_;refine qD H3 (b:=b0) (off:=0) .here rfl omQ (l:=yL (op0 6 0 0)) rfl ?_;exact qj ⟨rfl,ExtC.I H3.drop⟩
  |true=>rw[iQ osQ];refine jX (qJ (qW (qQ (qK ‹_› e_1 rfl ?_))));refine qW (qQ (qK ‹_› e_1 rfl ?_));have hin:=O.in_ c hl;have hlo:=O.lo;obtain⟨k,hk⟩:∃k:Nat,x.at_=k:=⟨x.at_.toNat,by omega⟩;rw[hk]at hin ⊢;refine yT (H1.sl e_2) omQ omQ (Qa omQ).1 ?_;refine qH rfl ?_;refine qe H1 (b:=b0) .here rfl (by show 0+10≤10;omega) rfl λh3 H3=>?_;refine qD H3 (b:=b0) (off:=0) .here rfl omQ (l:=yL (op0 3 (zm x.seen k).1 0)) rfl ?_;exact qj ⟨rfl,ExtC.I H3.drop⟩
 ·refine jj c ?_;rw[iJ c];refine qZ (qH rfl ?_);refine qe H1 (b:=b0) .here rfl (by show 0+10≤10;omega) rfl λh3 H3=>?_;refine qD H3 (b:=b0) (off:=0) .here rfl omQ (l:=yL (op0 0 0 0)) rfl ?_;exact qj ⟨rfl,ExtC.I H3.drop⟩
theorem XZ {p:Jj} {a:AnM} (hs:(qu p a).1=false):(qu p a).2=p∧p.fin=0:=by
 unfold qu at hs ⊢
 split at hs
 ·cases hs
 ·rename_i c;rw[iQ c];exact⟨rfl,by simpa using hs⟩
theorem qYp {a:AnM} (hn:3≤n) (O:UZ x) (H:HS g h (ExtC b x::R)):t_w n 355 [.ptr b 0,.agg (xK a)] h λ_ h'=>HS g h' (ExtC b (x7 x a)::R):=by
 refine t_e2 (S:=S355) rfl omQ λk hk=>?_;unfold S355;try simp only[iZ]
 generalize hF:x7 x a=F;obtain⟨sv,H⟩:=ExtC.E H;refine qO H rfl λb0 h1 H1=>?_;refine jT [] (λs h'=>s=(.ptr b 0,())∧∃y,F=JM y∧y.seen.length≤16∧HS g h' (ExtC b y::R)) (λj hj=>?_) ?_
 rotate_left
 ·rintro s h2 ⟨rfl,y,rfl,hy,H2⟩;obtain⟨sv,H2⟩:=ExtC.E H2;have H3:=H2;unfold UT yx at H3;unfold JM;refine qW (qQ (qK ‹_› .here rfl ?_));refine qW (qQ (qK ‹_› .here rfl ?_));refine qi ‹_› e_1 ?_;by_cases c:y.at_=(y.seen.length:Int)
  ·refine qx c ?_;rw[iJ c];refine qZ (qW (qQ (qG (gD omQ H2) λ_ h4 H4=>?_)));refine qk ?_;exact qj (ExtC.I H4)
  ·refine qX c ?_;rw[iQ c];refine qJ (qk ?_);exact qj (ExtC.I H2)
 refine qW (qQ (qD H1 (b:=b0) (off:=0) .here rfl omQ (l:=xK a) rfl ?_));refine qG (Je omQ (H1.sel e_1)) ?_;rintro _ h2 ⟨rfl,H2⟩;unfold x7 at hF;cases hs:(qu x.p a).1 with
 |true=>rw[iJ hs]at hF;subst hF;refine qZ ?_;exact qj (ExtC.I (x:={ x with p:=(qu x.p a).2 }) (sv:=sv) (H2.sub (.cons .here (.cons e_1 (.drop .refl)))))
 |false=>
  rw[iQ (by rw[hs];simp)]at hF;have hsp:=XZ hs;rw[hsp.1]at H2;have H3:HS g h2 (qg b (UT x sv)::qg b0 (xK a)::qy 245 2 x.seen.length sv (x.seen.flatMap gG)::R):=H2;have H4:=H3;unfold UT yx xK at H4;have hlo:=O.lo;have hhi:=O.hi;have hlen:=O.len;refine qJ (qW (qQ (qK ‹_› .here rfl ?_)));cases hl:x.loaded with
  |false=>
   rw[iJ hl]at hF;refine jV (qZ (qV ?_));(try dsimp only);refine qQ (qK ‹_› e_1 rfl ?_);refine qW (qQ ?_)
   refine qw H4 (b:=b) .here ⟨rfl,rfl⟩ osQ λh5 H5=>?_;refine qW (qQ (qw H5 (b:=b) .here ⟨rfl,rfl⟩ osQ λh6 H6=>?_));refine qb ‹_› e_1 rfl ‹_› e_1 rfl (HS.lt ‹_› e_1) ?_;exact hj _ _ ⟨rfl,{ x with loaded:=true,stamp:=a.word },hF.symm,hlen,ExtC.I (sv:=sv) (H6.sub (.cons .here (.cons e_1 (.drop .refl))))⟩
  |true=>
   rw[iQ (by rw[hl];simp)]at hF;refine jX (qJ (qQ (qp (qK H4 (b:=b0) e_1 rfl ?_))));cases hd:a.lk.2.1 with
   |true=>
    rw[iJ hd]at hF;refine qZ (qV ?_);(try dsimp only);refine qW (qQ (qQ ?_))
    refine qD H4 (b:=b0) (off:=1) e_1 rfl omQ (l:=zk a.lk) rfl ?_;refine qG (Gu (l:=a.lk) omQ (O.p hsp.2) H3) ?_;rintro _ h5 ⟨rfl,H5⟩;cases hw:(zK x.p a.lk).1 with
    |true=>rw[iJ hw]at hF;subst hF;refine jX (qJ (qk ?_));exact qj (ExtC.I (x:={ x with p:=(zK x.p a.lk).2 }) (sv:=sv) (H5.sub (.cons .here (.cons e_1 (.drop .refl)))))
    |false=>rw[iQ (by rw[hw];simp)]at hF;subst hF;have H6:=H5;unfold xK at H6;refine jV (qZ (qW (qQ (qQ (qp (qK H6 (b:=b0) e_1 rfl ?_))))));refine qG (gD omQ H5) λ_ h7 H7=>?_;refine qk ?_;exact qj (ExtC.I (x:={ x with p:=zx (zK x.p a.lk).2 5 0 a.lk.2.2 }) (sv:=sv) (H7.sub (.cons .here (.cons e_1 (.drop .refl)))))
   |false=>
    rw[iQ (by rw[hd];simp)]at hF;refine qJ (qQ (qp (qK H4 (b:=b0) e_1 rfl ?_)));refine qW (qQ (qK ‹_› .here rfl ?_));refine qW (qQ (qK ‹_› .here rfl ?_));have hin:=O.in_ hsp.2 hl;obtain⟨k,hk⟩:∃k:Nat,x.at_=k:=⟨x.at_.toNat,by omega⟩;rw[hk]at hin ⊢;rw[hk]at hF;refine yT (H3.sl e_2) omQ omQ (Qa omQ).2 ?_;by_cases c:a.lk.1=(zm x.seen k).2
    ·refine jY c ?_;rw[iQ (λh=>h c)]at hF;refine qJ (qW (qQ (qK ‹_› .here rfl ?_)));refine qc omQ ?_;refine qW (qQ ?_);rw[hk]
     skip
     refine qw H4 (b:=b) .here ⟨rfl,rfl⟩ osQ λh5 H5=>?_;exact hj _ _ ⟨rfl,{ x with at_:=(k:Int)+1 },hF.symm,hlen,ExtC.I (sv:=sv) (H5.sub (.cons .here (.cons e_1 (.drop .refl))))⟩
    ·refine jj c ?_;rw[iJ c,← hk]at hF;subst hF;refine qZ (qW (qQ (qG (gD omQ H3) λ_ h7 H7=>?_)));exact qj (ExtC.I (x:={ x with p:=zx x.p 5 0 (-1) }) (sv:=sv) (H7.sub (.cons .here (.cons e_1 (.drop .refl)))))
end
end Go.Proofs.YtnalffoigcmnnabGreatDoor
namespace Go.Proofs.YtnalffoigcmnnabGreatDoor
open Go Go.Ae
set_option maxRecDepth 100000
variable {g h:AH} {L R:List SP}
structure ComL (c:zg):Prop where
  seen:c.seen.length≤16
  cells:c.cells.length≤1000
  s:c.s.length≤16
  was:c.was.length≤c.s.length
  pos:0<c.s.length
  rise:c.s.Pairwise (· < ·)
  lo:0≤c.at_
  hi:c.at_≤1000
  now:0≤c.now∧c.now<9223372036854775807
def zH (fin spins state at_ now fin2:Int) (sl cl tl wl:Nat):Prop :=
 (sl≤16∧cl≤1000∧tl≤16∧wl≤tl∧0<tl∧0≤at_∧at_≤1000∧0≤now∧now<9223372036854775807∧0≤state∧state≤7)∧(fin=0→state≤6→0≤spins∧spins≤4)∧(fin=0→state≤1→wl<tl)∧(state≤4→at_≤sl)∧
 (2≤state→state≤6→wl=tl)∧(fin=0→state=4→at_<sl)∧(fin=0→state=5→at_<cl)∧(fin=0→state=6→at_<tl)∧(fin=0→state=7→at_<wl)∧(state=7→fin2≠0)
structure xX (c:zg):Prop where
  rise:c.s.Pairwise (· < ·)
  ar:zH c.p.fin c.p.spins c.state c.at_ c.now c.fin2 c.seen.length c.cells.length c.s.length c.was.length
section
variable {c:zg} (O:xX c)
include O
theorem xX.toComL:ComL c:=by have h:=O.ar;unfold zH at h;exact⟨by omega,by omega,by omega,by omega,by omega,O.rise,by omega,by omega,by omega⟩
theorem xX.p (hg:c.p.fin=0) (hs:c.state≤6):0≤c.p.spins∧c.p.spins≤4:=by have h:=O.ar;unfold zH at h;omega
theorem xX.st0 (hg:c.p.fin=0) (hs:c.state≤1):c.was.length<c.s.length:=by have h:=O.ar;unfold zH at h;omega
theorem xX.st3 (h1:2≤c.state) (h2:c.state≤4):c.was.length=c.s.length∧c.at_≤c.seen.length:=by have h:=O.ar;unfold zH at h;omega
theorem xX.st4 (hg:c.p.fin=0) (hs:c.state=4):c.at_<c.seen.length:=by have h:=O.ar;unfold zH at h;omega
theorem xX.st5 (hg:c.p.fin=0) (hs:c.state=5):c.at_<c.cells.length:=by have h:=O.ar;unfold zH at h;omega
theorem xX.st6 (hg:c.p.fin=0) (hs:c.state=6):c.at_<c.s.length:=by have h:=O.ar;unfold zH at h;omega
theorem xX.st7 (hg:c.p.fin=0) (hs:c.state=7):c.at_<c.was.length:=by have h:=O.ar;unfold zH at h;omega
theorem xX.st:0≤c.state∧c.state≤7:=by have h:=O.ar;unfold zH at h;omega
theorem xX.s:c.s.length≤16:=O.toComL.s
theorem xX.was:c.was.length≤c.s.length:=O.toComL.was
theorem xX.seen:c.seen.length≤16:=O.toComL.seen
theorem xX.lo:0≤c.at_:=O.toComL.lo
theorem xX.hi:c.at_≤1000:=O.toComL.hi
theorem xX.now:0≤c.now∧c.now<9223372036854775807:=O.toComL.now
end
theorem qq2:∀{s:List Int} {was:List LkM} {x:Int},s.Pairwise (· < ·)→was.length=s.length→ownM s was x=if x∈s then some (zq was (s.countP (· <x):Nat)).1 else none:=by
 intro s
 induction s with
 |nil=>intro was x _ _;cases was<;>rfl
 |cons y s ih=>
  intro was x hp hl;cases was with
  |nil=>cases hl
  |cons w was=>
   have h1:=List.pairwise_cons.1 hp;unfold ownM;by_cases e:y=x
   ·subst e;rw[iJ rfl,iJ (iK ..),List.countP_cons,List.countP_eq_zero.2 (λa ha=>by have:=h1.1 a ha;simp;omega),iV omQ];rfl
   ·rw[iQ e,ih h1.2 (by simpa using hl)];by_cases hm:x∈s
    ·rw[iJ hm,iJ (iX _ hm),List.countP_cons,iG (h1.1 x hm)];unfold zq;simp
    ·rw[iQ hm,iQ (λh=>by rcases List.mem_cons.1 h with h |h;exact e h.symm;exact hm h)]
theorem qvc {s:List Int} {x:Int} (hp:s.Pairwise (· < ·)) (h:x∈s):s.countP (· <x)<s.length:=by
 rcases Nat.lt_or_ge (s.countP (· <x)) s.length with h' |h'
 ·exact h'
 ·have:=List.countP_eq_length.1 (Nat.le_antisymm List.countP_le_length h') x h;simp at this
def QG (c:zg) (sv cv tv wv:AV):List AV:=yx c.p [.int .i64 c.me,.int .u64 c.stamp,sv,cv,tv,wv,.int .i64 c.state,.int .i64 c.at_,.int .u64 c.lk.1,.bool c.lk.2.1,.int .i64 c.lk.2.2,.int .u64 c.now,.bool c.writing,.int .i64 c.fin2,.int .i64 c.by2,.int .i64 c.err2]
def ComC (b:Nat) (c:zg):SP:=.ex λq:AV×AV×AV×AV=>.all [qg b (QG c q.1 q.2.1 q.2.2.1 q.2.2.2),qy 245 2 c.seen.length q.1 (c.seen.flatMap gG),qy 181 2 c.cells.length q.2.1 (c.cells.flatMap jA),
 qy 3 1 c.s.length q.2.2.1 (c.s.map (.int .i64)),qy 44 3 c.was.length q.2.2.2 (c.was.flatMap zk)]
section
variable {n b:Nat} {c:zg} {sv cv tv wv:AV}
theorem ComC.E (H:HS g h (ComC b c::R)):∃sv cv tv wv,HS g h (qg b (QG c sv cv tv wv)::qy 245 2 c.seen.length sv (c.seen.flatMap gG)::qy 181 2 c.cells.length cv (c.cells.flatMap jA)::
  qy 3 1 c.s.length tv (c.s.map (.int .i64))::qy 44 3 c.was.length wv (c.was.flatMap zk)::R):=by
 obtain⟨⟨sv,cv,tv,wv⟩,H⟩:=H.exE;exact⟨sv,cv,tv,wv,H.allE⟩
theorem ComC.I (H:HS g h (qg b (QG c sv cv tv wv)::qy 245 2 c.seen.length sv (c.seen.flatMap gG)::qy 181 2 c.cells.length cv (c.cells.flatMap jA)::
  qy 3 1 c.s.length tv (c.s.map (.int .i64))::qy 44 3 c.was.length wv (c.was.flatMap zk)::R)):HS g h (ComC b c::R):=HS.exI (sv,cv,tv,wv) H.allI
theorem Zu (hn:2≤n) (H:HS g h (ComC b c::R)):t_w n 364 [.ptr b 0] h λ_ h'=>HS g h' (ComC b (vq c)::R):=by
 refine t_e1 (S:=S364) rfl omQ λk hk=>?_;unfold S364;try simp only[iZ]
 obtain⟨sv,cv,tv,wv,H⟩:=ComC.E H;have H1:=H;unfold QG yx at H1;unfold vq;refine qW (qQ (qK ‹_› .here rfl ?_));refine qW (qQ (qK ‹_› .here rfl ?_));refine qi ‹_› e_3 ?_;by_cases c0:c.at_=(c.s.length:Int)
 ·refine qx c0 ?_;rw[iJ c0];refine qZ (qW (qQ (qG (gD omQ H) λ_ h2 H2=>?_)));exact qj (ComC.I (c:={ c with p:=zx c.p 2 0 (-1) }) H2)
 ·refine qX c0 ?_;rw[iQ c0];refine qJ ?_;exact qj (ComC.I H)
theorem Mc (hn:3≤n) (H:HS g h (ComC b c::R)):t_w n 363 [.ptr b 0] h λ_ h'=>HS g h' (ComC b (vJ c)::R):=by
 refine t_e1 (S:=S363) rfl omQ λk hk=>?_;unfold S363;try simp only[iZ]
 obtain⟨sv,cv,tv,wv,H⟩:=ComC.E H;have H1:=H;unfold QG yx at H1;unfold vJ;refine qW (qQ (qK ‹_› .here rfl ?_));refine qW (qQ (qK ‹_› .here rfl ?_));refine qi ‹_› e_2 ?_;by_cases c0:c.at_=(c.cells.length:Int)
 ·refine qx c0 ?_;rw[iJ c0];refine qZ (qW (qQ (qw H1 (b:=b) .here ⟨rfl,rfl⟩ osQ λh2 H2=>?_)));refine qW (qQ (qw H2 (b:=b) .here ⟨rfl,rfl⟩ osQ λh3 H3=>?_));refine qG (Zu (c:={ c with at_:=0,state:=6 }) omQ (ComC.I H3)) λ_ h4 H4=>qj H4
 ·refine qX c0 ?_;rw[iQ c0];refine qJ ?_;exact qj (ComC.I H)
theorem MG (hn:4≤n) (H:HS g h (ComC b c::R)):t_w n 359 [.ptr b 0] h λ_ h'=>HS g h' (ComC b (wh c)::R):=by
 refine t_e1 (S:=S359) rfl omQ λk hk=>?_;unfold S359;try simp only[iZ]
 obtain⟨sv,cv,tv,wv,H⟩:=ComC.E H;unfold QG yx at H;refine qW (qQ (qw H (b:=b) .here ⟨rfl,rfl⟩ osQ λh2 H2=>?_));refine qW (qQ (qw H2 (b:=b) .here ⟨rfl,rfl⟩ osQ λh3 H3=>?_));refine qW (qQ (qw H3 (b:=b) .here ⟨rfl,rfl⟩ osQ λh4 H4=>?_));refine qG (Mc (c:={ c with writing:=true,at_:=0,state:=5 }) omQ (ComC.I H4)) λ_ h5 H5=>qj H5
theorem V6 (hn:2≤n) (H:HS g h (ComC b c::R)):t_w n 365 [.ptr b 0] h λ_ h'=>HS g h' (ComC b (gk c)::R):=by
 refine t_e1 (S:=S365) rfl omQ λk hk=>?_;unfold S365;try simp only[iZ]
 obtain⟨sv,cv,tv,wv,H⟩:=ComC.E H;have H1:=H;unfold QG yx at H1;unfold gk;refine qW (qQ (qK ‹_› .here rfl ?_));refine qW (qQ (qK ‹_› .here rfl ?_));refine qi ‹_› e_4 ?_;by_cases c0:c.at_=(c.was.length:Int)
 ·refine qx c0 ?_;rw[iJ c0];refine qZ (qW (qQ (qW (qQ (qK ‹_› .here rfl ?_)))));refine qW (qQ (qK ‹_› .here rfl ?_));refine qW (qQ (qK ‹_› .here rfl ?_));refine qG (gD omQ H) λ_ h2 H2=>?_;exact qj (ComC.I (c:={ c with p:=zx c.p c.fin2 c.err2 c.by2 }) H2)
 ·refine qX c0 ?_;rw[iQ c0];refine qJ ?_;exact qj (ComC.I H)
theorem Yu {f e y:Int} (hn:3≤n) (H:HS g h (ComC b c::R)):t_w n 367 [.ptr b 0,.int .i64 f,.int .i64 e,.int .i64 y] h λ_ h'=>HS g h' (ComC b (kA c f e y)::R):=by
 refine t_e4 (S:=S367) rfl omQ λk hk=>?_;unfold S367;try simp only[iZ]
 obtain⟨sv,cv,tv,wv,H⟩:=ComC.E H;unfold QG yx at H;refine qW (qQ (qw H (b:=b) .here ⟨rfl,rfl⟩ osQ λh2 H2=>?_));refine qW (qQ (qw H2 (b:=b) .here ⟨rfl,rfl⟩ osQ λh3 H3=>?_));refine qW (qQ (qw H3 (b:=b) .here ⟨rfl,rfl⟩ osQ λh4 H4=>?_));refine qW (qQ (qw H4 (b:=b) .here ⟨rfl,rfl⟩ osQ λh5 H5=>?_));refine qW (qQ (qw H5 (b:=b) .here ⟨rfl,rfl⟩ osQ λh6 H6=>?_));refine qG (V6 (c:={ c with fin2:=f,err2:=e,by2:=y,at_:=0,state:=7 }) omQ (ComC.I H6)) λ_ h5 H5=>qj H5
theorem qQb (hn:1≤n) (H:HS g h (ComC b c::R)):t_w n 160 [.ptr b 0] h λ_ h'=>HS g h' (ComC b (Qz c)::R):=by
 refine t_e1 (S:=S160) rfl omQ λk hk=>?_;unfold S160;try simp only[iZ]
 obtain⟨sv,cv,tv,wv,H⟩:=ComC.E H;unfold QG yx at H;unfold Qz;refine qW (qQ (qw H (b:=b) .here ⟨rfl,rfl⟩ osQ λh2 H2=>?_));refine qW (qQ (qK ‹_› .here rfl ?_));refine qi ‹_› e_4 ?_;refine qW (qQ (qK ‹_› .here rfl ?_));refine qi ‹_› e_3 ?_;by_cases c0:c.was.length=c.s.length
 ·refine qx omQ ?_;rw[iJ c0];refine qZ (qW (qQ (qw H2 (b:=b) .here ⟨rfl,rfl⟩ osQ λh3 H3=>?_)));exact qj (ComC.I (c:={ c with state:=2 }) H3)
 ·refine qX omQ ?_;rw[iQ c0];refine qJ ?_;exact qj (ComC.I (c:={ c with state:=0 }) H2)
theorem On {l:LkM} (hn:4≤n) (hp:0≤c.p.spins∧c.p.spins≤4) (H:HS g h (ComC b c::R)):t_w n 366 [.ptr b 0,.agg (zk l)] h λ_ h'=>HS g h' (ComC b (QY c l)::R):=by
 refine t_e2 (S:=S366) rfl omQ λk hk=>?_;unfold S366;try simp only[iZ]
 obtain⟨sv,cv,tv,wv,H⟩:=ComC.E H;refine qO H rfl λb0 h1 H1=>?_;unfold QY;refine qW (qQ (qD H1 (b:=b0) (off:=0) .here rfl omQ (l:=zk l) rfl ?_));refine qG (Gu (l:=l) omQ hp (H1.sel e_1)) ?_;rintro _ h2 ⟨rfl,H2⟩;have H3:HS g h2 (ComC b { c with p:=(zK c.p l).2 }::qg b0 (zk l)::R):=ComC.I (sv:=sv) (cv:=cv) (tv:=tv) (wv:=wv) (H2.sub (.cons .here (.cons e_1 (.cons e_1 (.cons e_1 (.cons e_1 .refl))))));cases hw:(zK c.p l).1 with
 |true=>rw[iJ rfl];refine jX (qJ ?_);exact qj (H3.sub (.cons .here (.drop .refl)))
 |false=>rw[iQ osQ];unfold zk at H3;refine jV (qZ (qQ (qK ‹_› e_1 rfl ?_)));refine qG (Yu omQ H3) λ_ h4 H4=>?_;exact qj (H4.sub (.cons .here (.drop .refl)))
theorem Mo (hn:5≤n) (O:ComL c) (hw:c.was.length=c.s.length) (ha:c.at_≤c.seen.length) (H:HS g h (ComC b c::R)):t_w n 368 [.ptr b 0] h λ_ h'=>HS g h' (ComC b (Qf c)::R):=by
 refine t_e1 (S:=S368) rfl omQ λk hk=>?_;unfold S368;try simp only[iZ]
 generalize hF:Qf c=F;unfold Qf at hF;obtain⟨sv,cv,tv,wv,H⟩:=ComC.E H;unfold QG yx at H;have l1:=O.seen;have l2:=O.s;have l3:=O.pos;have l4:=O.lo;refine qW (qQ (qw H (b:=b) .here ⟨rfl,rfl⟩ osQ λh2 H2=>?_));have H2:HS g h2 (ComC b { c with state:=4 }::R):=ComC.I H2;refine jN (λm s h'=>s=(.ptr b 0,())∧∃a:Int,vu { c with state:=4,at_:=a } m=F∧0≤a∧a≤c.seen.length∧c.seen.length<a+m∧HS g h' (ComC b { c with state:=4,at_:=a }::R))
  ?_ (m:=c.seen.length+1) (by show _<1000000000;omega) ⟨rfl,c.at_,hF,l4,ha,by omega,H2⟩
 clear H H2 hF;rintro m ih s h3 hih ⟨rfl,a,hF,ha0,ha,hm,H⟩;dsimp only;obtain⟨m,rfl⟩:∃k,m=k+1:=⟨m-1,by omega⟩;unfold vu at hF;dsimp only at hF;obtain⟨sv,cv,tv,wv,H⟩:=ComC.E H;have H1:=H;unfold QG yx at H1;dsimp only at H1;refine qW (qQ (qK ‹_› .here rfl ?_));refine qW (qQ (qK ‹_› .here rfl ?_));refine qi ‹_› e_1 ?_;by_cases hlt:a<c.seen.length
 ·refine jd hlt ?_;rw[iJ hlt]at hF;obtain⟨k,rfl⟩:∃k:Nat,a=k:=⟨a.toNat,by omega⟩;refine qZ (qW (qQ (qK ‹_› .here rfl ?_)));refine qW (qQ (qK ‹_› .here rfl ?_));refine qW (qQ (qK ‹_› .here rfl ?_));refine yT (H.sl e_1) omQ (by show k<c.seen.length;omega) (Qa (by show k<c.seen.length;omega)).1 ?_;refine qG (qzp omQ H1 e_3 l3 omQ (O.rise.imp λh=>by omega)) ?_;rintro _ _ ⟨rfl,rfl⟩;rw[qq2 O.rise hw]at hF;by_cases hc:(zm c.seen k).1∈c.s
  ·rw[iJ hc]at hF;dsimp only at hF;rw[show c.s.contains (zm c.seen k).1=true from List.contains_iff_mem.2 hc];have hfl:=qvc O.rise hc;refine qA rfl ?_;refine qA rfl ?_;refine jX (qJ (qW (qQ (qK ‹_› .here rfl ?_))));refine yT (f:=0) (x:=.int .u64 (zq c.was (c.s.countP (· <(zm c.seen k).1):Nat)).1) (H.sl e_4) omQ (Nat.lt_of_lt_of_eq hfl hw.symm) ?_ ?_
   ·have:=congrArg (·[0]?) (NP (l:=c.was) (k:=c.s.countP (· <(zm c.seen k).1)) omQ);simp only[List.getElem?_take_of_lt (show 0<3 by omega),List.getElem?_drop]at this;exact this
   refine qW (qQ (qK ‹_› .here rfl ?_));refine qW (qQ (qK ‹_› .here rfl ?_));refine yT (H.sl e_1) omQ (by show k<c.seen.length;omega) (Qa (by show k<c.seen.length;omega)).2 ?_;by_cases hv:(zq c.was (c.s.countP (· <(zm c.seen k).1):Nat)).1=(zm c.seen k).2
   ·refine jY hv ?_;rw[iQ (λh=>h hv)]at hF;refine qJ (qW (qQ (qK ‹_› .here rfl ?_)));refine qc omQ ?_;refine qW (qQ (qw H1 (b:=b) .here ⟨rfl,rfl⟩ osQ λh4 H4=>?_));exact hih m _ _ omQ ⟨rfl,(k:Int)+1,hF,by omega,by omega,by omega,ComC.I (c:={ c with state:=4,at_:=(k:Int)+1 }) H4⟩
   ·refine jj hv ?_;rw[iJ hv]at hF;subst hF;refine qZ (qG (Yu omQ (ComC.I H)) λ_ h4 H4=>?_);refine qk ?_;exact qj H4
  ·rw[iQ hc]at hF;dsimp only at hF;subst hF;rw[show c.s.contains (zm c.seen k).1=false from by simpa using hc];refine qA rfl ?_;refine qA rfl ?_;refine jV (qZ (qk ?_));exact qj (ComC.I H)
 ·refine jH hlt ?_;rw[iQ hlt]at hF;subst hF;refine qJ (qG (MG omQ (ComC.I H)) λ_ h4 H4=>?_);refine qk ?_;exact qj H4
end
end Go.Proofs.YtnalffoigcmnnabGreatDoor
namespace Go.Proofs.YtnalffoigcmnnabGreatDoor
open Go Go.Ae
set_option maxRecDepth 100000
variable {g h:AH} {L R:List SP}
section
variable {n b:Nat} {c:zg} {sv cv tv wv:AV} {a:AnM}
theorem qZM {l:LkM} (hn:6≤n) (O:xX c) (hg:c.p.fin=0) (h4:c.state=4) (H:HS g h (ComC b c::R)):t_w n 362 [.ptr b 0,.agg (zk l)] h λ_ h'=>HS g h' (ComC b (wx c l)::R):=by
 refine t_e2 (S:=S362) rfl omQ λk hk=>?_;unfold S362;try simp only[iZ]
 generalize hF:wx c l=F;refine qO H rfl λb0 h1 H1=>?_;refine jT [] (λ_ h'=>HS g h' (ComC b F::R)) (λj hj=>?_) λ_ h' H'=>?_
 rotate_left
 ·refine qk ?_;exact qj H'
 unfold wx at hF;have H2:=H1;unfold zk at H2;refine qQ (qK ‹_› .here rfl ?_);cases hd:l.2.1 with
 |true=>rw[iJ hd]at hF;subst hF;refine qZ (qD H1 (b:=b0) (off:=0) .here rfl omQ (l:=zk l) rfl ?_);refine qG (On omQ (O.p hg omQ) (H1.sel e_1)) λ_ h3 H3=>?_;exact hj _ _ (H3.sub (.cons .here (.drop .refl)))
 |false=>
  rw[iQ (by rw[hd];simp)]at hF;obtain⟨sv,cv,tv,wv,H3⟩:=ComC.E (H2.sel e_1);have H4:=H3;unfold QG yx at H4;have hlt:=O.st4 hg h4;have hlo:=O.lo;have l1:=O.seen;obtain⟨k,hk⟩:∃k:Nat,c.at_=k:=⟨c.at_.toNat,by omega⟩;refine qJ (qQ (qK ‹_› e_5 rfl ?_));refine qW (qQ (qK ‹_› .here rfl ?_));refine qW (qQ (qK ‹_› .here rfl ?_));rw[hk]at hF hlt ⊢;refine yT (H3.sl e_1) omQ omQ (Qa omQ).2 ?_;by_cases c0:l.1=(zm c.seen k).2
  ·refine jY c0 ?_;rw[iQ (λh=>h c0)]at hF;subst hF;refine qJ (qW (qQ (qK ‹_› .here rfl ?_)));refine qc omQ ?_;refine qW (qQ ?_);rw[hk]
   skip
   refine qw H4 (b:=b) .here ⟨rfl,rfl⟩ osQ λh5 H5=>?_;refine qG (Mo (c:={ c with at_:=(k:Int)+1 }) omQ { O.toComL with lo:=(by show(0:Int)≤k+1;omega),hi:=(by show(k:Int)+1≤1000;have:=O.seen;omega) } (O.st3 omQ omQ).1 (by show(k:Int)+1≤c.seen.length;omega) (ComC.I H5)) λ_ h6 H6=>?_;exact hj _ _ (H6.sub (.cons .here (.drop .refl)))
  ·refine jj c0 ?_;rw[iJ c0]at hF;subst hF;refine qZ (qG (Yu omQ (ComC.I H3)) λ_ h6 H6=>?_);exact hj _ _ (H6.sub (.cons .here (.drop .refl)))
theorem Zq (hn:5≤n) (O:xX c) (hg:c.p.fin=0) (H:HS g h (ComC b c::R)):t_w n 360 [.ptr b 0,.agg (xK a)] h λ_ h'=>HS g h' (ComC b (kC c a)::R):=by
 refine t_e2 (S:=S360) rfl omQ λk hk=>?_;unfold S360;try simp only[iZ]
 generalize hF:kC c a=F;refine qO H rfl λb0 h1 H1=>?_;refine jT [] (λ_ h'=>HS g h' (ComC b F::R)) (λj hj=>?_) λ_ h' H'=>?_
 rotate_left
 ·refine qk ?_;exact qj H'
 unfold kC at hF;obtain⟨sv,cv,tv,wv,H2⟩:=ComC.E (H1.sel e_1);have H3:=H2;unfold QG yx xK at H3;have l1:=O.s;have l2:=O.was;refine qW (qQ (qK ‹_› .here rfl ?_));by_cases c0:c.state=0
 ·refine qx c0 ?_;refine qV ?_;(try dsimp only);refine qa ?_;(try dsimp only);refine qQ ?_
  refine qp (qK H3 (b:=b0) e_5 rfl ?_);cases hd:a.lk.2.1 with
  |true=>rw[iJ ⟨c0,hd⟩]at hF;subst hF;refine qF (qZ (qQ (qD H1 (b:=b0) (off:=1) .here rfl omQ (l:=zk a.lk) rfl ?_)));refine qG (On omQ (O.p hg omQ) (H1.sel e_1)) λ_ h3 H3=>?_;exact hj _ _ (H3.sub (.cons .here (.drop .refl)))
  |false=>rw[iQ (λh=>by rw[hd]at h;cases h.2),iJ c0]at hF;subst hF;refine qF (qJ (qW (qQ (qK ‹_› .here rfl ?_))));refine qx omQ ?_;refine qZ (qQ (qD H1 (b:=b0) (off:=1) .here rfl omQ (l:=zk a.lk) rfl ?_));refine qW (qQ (qe H3 (b:=b) .here rfl (by show 13+3≤21;omega) rfl λh5 H5=>?_));refine qW (qQ (qw H5 (b:=b) .here ⟨rfl,rfl⟩ (by simp[we]) λh6 H6=>?_));have H7:HS g h6 (ComC b { c with lk:=a.lk,state:=1 }::qg b0 (xK a)::R):=ComC.I (sv:=sv) (cv:=cv) (tv:=tv) (wv:=wv) H6;exact hj _ _ (H7.sub (.cons .here (.drop .refl)))
 ·refine qX c0 ?_;rw[iQ (λh=>c0 h.1),iQ c0]at hF;refine qV ?_;(try dsimp only);refine qS ?_;(try dsimp only);refine qI (qJ (qW (qQ (qK ‹_› .here rfl ?_))));refine qX omQ ?_;refine qJ (qQ (qK ‹_› e_5 rfl ?_))
  cases hd:a.done with
  |true=>
   rw[iJ hd]at hF;subst hF;refine qZ (qW (qQ (qK ‹_› .here rfl ?_)));refine qW (qQ (qD H3 (b:=b) (off:=13) .here rfl omQ (l:=zk c.lk) rfl ?_));refine qf (n:=1) (l:=zk c.lk) (sz:=3) H3 rfl rfl rfl rfl λv2 h5 H5=>?_;refine jf (H5.sel e_5) (H5.sl .here) omQ omQ rfl λv3 h6 H6=>?_;have o6:=H6.one .here;refine qW (qQ (qw H6 (b:=b) e_2 o6 osQ λh7 H7=>?_));have H8:HS g h7 (ComC b { c with was:=c.was++[c.lk] }::qg b0 (xK a)::R):=by refine ComC.I (sv:=sv) (cv:=cv) (tv:=tv) (wv:=v3) ?_;rw[List.length_append,List.flatMap_append];exact H7.sub (.cons .here (.cons e_2 (.cons e_2 (.cons e_2 (.cons .here (.drop .refl))))))
   refine qG (qQb omQ H8) λ_ h9 H9=>?_;exact hj _ _ (H9.sub (.cons .here (.drop .refl)))
  |false=>rw[iQ (by rw[hd];simp)]at hF;subst hF;refine qJ (qW (qQ (qw H3 (b:=b) .here ⟨rfl,rfl⟩ osQ λh6 H6=>?_)));have H7:HS g h6 (ComC b { c with state:=0 }::qg b0 (xK a)::R):=ComC.I (sv:=sv) (cv:=cv) (tv:=tv) (wv:=wv) H6;exact hj _ _ (H7.sub (.cons .here (.drop .refl)))
theorem MS (hn:6≤n) (O:xX c) (h23:c.state=2∨c.state=3) (H:HS g h (ComC b c::R)):t_w n 361 [.ptr b 0,.agg (xK a)] h λ_ h'=>HS g h' (ComC b (gM c a)::R):=by
 refine t_e2 (S:=S361) rfl omQ λk hk=>?_;unfold S361;try simp only[iZ]
 generalize hF:gM c a=F;refine qO H rfl λb0 h1 H1=>?_;refine jT [] (λ_ h'=>HS g h' (ComC b F::R)) (λj hj=>?_) λ_ h' H'=>?_
 rotate_left
 ·refine qk ?_;exact qj H'
 unfold gM at hF;obtain⟨sv,cv,tv,wv,H2⟩:=ComC.E (H1.sel e_1);have H3:=H2;unfold QG yx xK at H3;refine qW (qQ (qK ‹_› .here rfl ?_));by_cases c0:c.state=2
 ·refine qx c0 ?_;refine qV ?_;(try dsimp only);refine qa ?_;(try dsimp only);refine qQ (qK ‹_› e_5 rfl ?_)
  by_cases c1:4611686018427387903≤a.word
  ·refine zO omQ ?_;rw[iJ ⟨c0,c1⟩]at hF;subst hF;refine qF (qZ (qG (Yu omQ (ComC.I H2)) λ_ h6 H6=>?_));exact hj _ _ (H6.sub (.cons .here (.drop .refl)))
  ·refine zN omQ ?_;rw[iQ (λh=>c1 h.2),iJ c0]at hF;subst hF;refine qF (qJ (qW (qQ (qK ‹_› .here rfl ?_))));refine qx omQ ?_;refine qZ (qQ (qK ‹_› e_5 rfl ?_));refine qW (qQ (qw H3 (b:=b) .here ⟨rfl,rfl⟩ osQ λh6 H6=>?_));refine qW (qQ (qw H6 (b:=b) .here ⟨rfl,rfl⟩ osQ λh7 H7=>?_));have H8:HS g h7 (ComC b { c with now:=a.word,state:=3 }::qg b0 (xK a)::R):=ComC.I (sv:=sv) (cv:=cv) (tv:=tv) (wv:=wv) H7;exact hj _ _ (H8.sub (.cons .here (.drop .refl)))
 ·refine qX c0 ?_;rw[iQ (λh=>c0 h.1),iQ c0]at hF;have h3:=O.st3 omQ omQ;refine qV ?_;(try dsimp only);refine qS ?_;(try dsimp only);refine qI (qJ (qW (qQ (qK ‹_› .here rfl ?_))));refine qX omQ ?_;refine qJ (qQ (qK ‹_› e_5 rfl ?_))
  cases hd:a.done with
  |false=>rw[iJ hd]at hF;subst hF;refine jV (qZ (qW (qQ (qw H3 (b:=b) .here ⟨rfl,rfl⟩ osQ λh6 H6=>?_))));have H7:HS g h6 (ComC b { c with state:=2 }::qg b0 (xK a)::R):=ComC.I (sv:=sv) (cv:=cv) (tv:=tv) (wv:=wv) H6;exact hj _ _ (H7.sub (.cons .here (.drop .refl)))
  |true=>
   rw[iQ (by rw[hd];simp)]at hF;refine jX (qJ (qW (qQ (qK ‹_› .here rfl ?_))));refine qW (qQ (qK ‹_› .here rfl ?_));by_cases c1:c.now=c.stamp
   ·refine qx c1 ?_;rw[iJ c1]at hF;subst hF;refine qZ (qG (MG omQ (ComC.I H2)) λ_ h6 H6=>?_);exact hj _ _ (H6.sub (.cons .here (.drop .refl)))
   ·refine qX c1 ?_;rw[iQ c1]at hF;subst hF;refine qJ (qG (Mo omQ O.toComL h3.1 h3.2 (ComC.I H2)) λ_ h6 H6=>?_);exact hj _ _ (H6.sub (.cons .here (.drop .refl)))
theorem qzr (hn:7≤n) (O:xX c) (H:HS g h (ComC b c::R)):t_w n 358 [.ptr b 0,.agg (xK a)] h λ_ h'=>HS g h' (ComC b (zw c a)::R):=by
 refine t_e2 (S:=S358) rfl omQ λk hk=>?_;unfold S358;try simp only[iZ]
 generalize hF:zw c a=F;refine qO H rfl λb0 h1 H1=>?_;obtain⟨sv,cv,tv,wv,H2⟩:=ComC.E (H1.sel e_1);have hlo:=O.lo;have hhi:=O.hi;have hst:=O.st;unfold zw at hF;refine qW (qQ (qD H1 (b:=b0) (off:=0) .here rfl omQ (l:=xK a) rfl ?_));refine qG (Je omQ H2) ?_;rintro _ h2 ⟨rfl,H3⟩;cases hs:(qu c.p a).1 with
 |true=>rw[iJ hs]at hF;subst hF;refine qZ ?_;have H4:HS g h2 (ComC b { c with p:=(qu c.p a).2 }::qg b0 (xK a)::R):=ComC.I (sv:=sv) (cv:=cv) (tv:=tv) (wv:=wv) H3;exact qj (H4.sub (.cons .here (.drop .refl)))
 |false=>
  rw[iQ (by rw[hs];simp)]at hF;have hsp:=XZ hs;rw[hsp.1]at H3;have hg:=hsp.2;clear H1 H2 H hsp hs;have H2:HS g h2 (ComC b c::qg b0 (xK a)::R):=ComC.I (sv:=sv) (cv:=cv) (tv:=tv) (wv:=wv) H3
  have H4:HS g h2 (qg b (QG c sv cv tv wv)::qy 245 2 c.seen.length sv (c.seen.flatMap gG)::qy 181 2 c.cells.length cv (c.cells.flatMap jA)::
   qy 3 1 c.s.length tv (c.s.map (.int .i64))::qy 44 3 c.was.length wv (c.was.flatMap zk)::qg b0 (xK a)::R):=H3
  unfold QG yx at H4;refine qJ (qW (qp (qK H4 (b:=b) .here rfl ?_)));refine jT [] (λ_ h'=>HS g h' (ComC b F::R)) (λj hj=>?_) λ_ h' H'=>?_
  rotate_left
  ·refine qk ?_;exact qj H'
  by_cases c0:c.state=0∨c.state=1
  ·rw[iJ c0]at hF;subst hF;rcases c0 with c0 |c0
   ·refine qV ?_;(try dsimp only);refine qx omQ ?_;refine qZ (qZ ?_)
    refine qD H3 (b:=b0) (off:=0) e_5 rfl omQ (l:=xK a) rfl ?_;refine qG (Zq omQ O hg H2) λ_ h6 H6=>?_;exact hj _ _ (H6.sub (.cons .here (.drop .refl)))
   ·refine qV ?_;(try dsimp only);refine qX omQ ?_;refine qJ (qx omQ ?_);refine qZ ?_
    refine qD H3 (b:=b0) (off:=0) e_5 rfl omQ (l:=xK a) rfl ?_;refine qG (Zq omQ O hg H2) λ_ h6 H6=>?_;exact hj _ _ (H6.sub (.cons .here (.drop .refl)))
  rw[iQ c0]at hF;by_cases c1:c.state=2∨c.state=3
  ·rw[iJ c1]at hF;subst hF;have c2:=c1;rcases c1 with c1' |c1'
   ·refine qV ?_;(try dsimp only);refine qX omQ ?_;refine qJ (qX omQ ?_);refine qJ (qV ?_);(try dsimp only);refine qx omQ ?_;refine qZ (qZ ?_)
    refine qD H3 (b:=b0) (off:=0) e_5 rfl omQ (l:=xK a) rfl ?_;refine qG (MS omQ O c2 H2) λ_ h6 H6=>?_;exact hj _ _ (H6.sub (.cons .here (.drop .refl)))
   ·refine qV ?_;(try dsimp only);refine qX omQ ?_;refine qJ (qX omQ ?_);refine qJ (qV ?_);(try dsimp only);refine qX omQ ?_;refine qJ (qx omQ ?_);refine qZ ?_
    refine qD H3 (b:=b0) (off:=0) e_5 rfl omQ (l:=xK a) rfl ?_;refine qG (MS omQ O c2 H2) λ_ h6 H6=>?_;exact hj _ _ (H6.sub (.cons .here (.drop .refl)))
  rw[iQ c1]at hF;by_cases c4:c.state=4
  ·rw[iJ c4]at hF;subst hF;refine qV ?_;(try dsimp only);refine qX omQ ?_;refine qJ (qX omQ ?_);refine qJ (qV ?_);(try dsimp only);refine qX omQ ?_;refine qJ (qX omQ ?_);refine qJ (qx omQ ?_);refine qZ (qQ ?_)
   refine qD H3 (b:=b0) (off:=1) e_5 rfl omQ (l:=zk a.lk) rfl ?_;refine qG (qZM omQ O hg c4 H2) λ_ h6 H6=>?_;exact hj _ _ (H6.sub (.cons .here (.drop .refl)))
  rw[iQ c4]at hF;by_cases c5:c.state=5
  ·rw[iJ c5]at hF;subst hF;refine qV ?_;(try dsimp only);refine qX omQ ?_;refine qJ (qX omQ ?_);refine qJ (qV ?_);(try dsimp only);refine qX omQ ?_;refine qJ (qX omQ ?_);refine qJ (qX omQ ?_);refine qJ (qx omQ ?_);refine qZ (qW (qQ (qK ‹_› .here rfl ?_)));refine qc omQ ?_;refine qW (qQ ?_)
   refine qw H4 (b:=b) .here ⟨rfl,rfl⟩ osQ λh5 H5=>?_;have H6:HS g h5 (ComC b { c with at_:=c.at_+1 }::qg b0 (xK a)::R):=ComC.I (sv:=sv) (cv:=cv) (tv:=tv) (wv:=wv) H5;refine qG (Mc omQ H6) λ_ h6 H6=>?_;exact hj _ _ (H6.sub (.cons .here (.drop .refl)))
  rw[iQ c5]at hF;by_cases c6:c.state=6
  ·rw[iJ c6]at hF;subst hF;refine qV ?_;(try dsimp only);refine qX omQ ?_;refine qJ (qX omQ ?_);refine qJ (qV ?_);(try dsimp only);refine qX omQ ?_;refine qJ (qX omQ ?_);refine qJ (qX omQ ?_);refine qJ (qX omQ ?_);refine qJ (qx omQ ?_);refine qZ (qW (qQ (qK ‹_› .here rfl ?_)));refine qc omQ ?_;refine qW (qQ ?_)
   refine qw H4 (b:=b) .here ⟨rfl,rfl⟩ osQ λh5 H5=>?_;have H6:HS g h5 (ComC b { c with at_:=c.at_+1 }::qg b0 (xK a)::R):=ComC.I (sv:=sv) (cv:=cv) (tv:=tv) (wv:=wv) H5;refine qG (Zu omQ H6) λ_ h6 H6=>?_;exact hj _ _ (H6.sub (.cons .here (.drop .refl)))
  rw[iQ c6]at hF;subst hF;refine qV ?_;(try dsimp only);refine qX omQ ?_;refine qJ (qX omQ ?_);refine qJ (qV ?_);(try dsimp only);refine qX omQ ?_;refine qJ (qX omQ ?_);refine qJ (qX omQ ?_);refine qJ (qX omQ ?_);refine qJ (qX omQ ?_);refine qJ (qx omQ ?_);refine qZ (qW (qQ (qK ‹_› .here rfl ?_)));refine qc omQ ?_;refine qW (qQ ?_)
  refine qw H4 (b:=b) .here ⟨rfl,rfl⟩ osQ λh5 H5=>?_;have H6:HS g h5 (ComC b { c with at_:=c.at_+1 }::qg b0 (xK a)::R):=ComC.I (sv:=sv) (cv:=cv) (tv:=tv) (wv:=wv) H5;refine qG (V6 omQ H6) λ_ h6 H6=>?_;exact hj _ _ (H6.sub (.cons .here (.drop .refl)))
end
end Go.Proofs.YtnalffoigcmnnabGreatDoor
namespace Go.Proofs.YtnalffoigcmnnabGreatDoor
open Go Go.Ae
set_option maxRecDepth 100000
variable {g h:AH} {L R:List SP}
theorem Zi {l:List Cl} {k:Nat} (hk:k<l.length):(l.flatMap jA)[k*2+0]? =some (.int .i64 (kJ l (k:Int)).1)∧(l.flatMap jA)[k*2+1]? =some (.int .u64 (kJ l (k:Int)).2):=by
 have e:((l.flatMap jA).drop (k*2)).take 2=jA (kJ l (k:Int)):=gF (sz:=2) (enc:=jA) (λ_=>rfl) (by unfold kJ;rw[Int.toNat_natCast,iW hk];rfl);constructor
 ·have:=congrArg (·[0]?) e;simp only[List.getElem?_take_of_lt (show 0<2 by omega),List.getElem?_drop]at this;exact this
 ·have:=congrArg (·[1]?) e;simp only[List.getElem?_take_of_lt (show 1<2 by omega),List.getElem?_drop]at this;exact this
section
variable {n b:Nat} {c:zg} {sv cv tv wv:AV}
theorem Kl (hn:2≤n) (H:HS g h (ComC b c::R)):t_w n 106 [.ptr b 0] h λr h'=>r=.int .i64 c.p.fin∧h'=h:=by
 refine t_e1 (S:=S106) rfl omQ λk hk=>?_;unfold S106;try simp only[iZ]
 obtain⟨sv,cv,tv,wv,H⟩:=ComC.E H;refine qW (qQ (qG (XA omQ H .here) ?_));rintro _ _ ⟨rfl,rfl⟩;exact qj ⟨rfl,rfl⟩
theorem qz8 (hn:2≤n) (H:HS g h (ComC b c::R)):t_w n 163 [.ptr b 0] h λr h'=>r=.int .i64 c.p.err∧h'=h:=by
 refine t_e1 (S:=S163) rfl omQ λk hk=>?_;unfold S163;try simp only[iZ]
 obtain⟨sv,cv,tv,wv,H⟩:=ComC.E H;refine qW (qQ (qG (qxA omQ H .here) ?_));rintro _ _ ⟨rfl,rfl⟩;exact qj ⟨rfl,rfl⟩
theorem qw2 (hn:2≤n) (H:HS g h (ComC b c::R)):t_w n 356 [.ptr b 0] h λr h'=>r=.int .i64 c.p.by_∧h'=h:=by
 refine t_e1 (S:=S356) rfl omQ λk hk=>?_;unfold S356;try simp only[iZ]
 obtain⟨sv,cv,tv,wv,H⟩:=ComC.E H;refine qW (qQ (qG (qZe omQ H .here) ?_));rintro _ _ ⟨rfl,rfl⟩;exact qj ⟨rfl,rfl⟩
theorem qVL (hn:1≤n) (hw:0≤c.now∧c.now<9223372036854775807) (H:HS g h (ComC b c::R)):t_w n 121 [.ptr b 0] h λr h'=>r=.int .u64 (wQ c)∧h'=h:=by
 refine t_e1 (S:=S121) rfl omQ λk hk=>?_;unfold S121;try simp only[iZ]
 obtain⟨sv,cv,tv,wv,H⟩:=ComC.E H;unfold QG yx at H;unfold wQ;refine qW (qQ (qK ‹_› .here rfl ?_));cases hd:c.writing with
 |true=>rw[iQ osQ];refine jX (qJ (qW (qQ (qK ‹_› .here rfl ?_))));refine xd omQ ?_;exact qj ⟨rfl,rfl⟩
 |false=>rw[iJ rfl];refine jV (qZ ?_);exact qj ⟨rfl,rfl⟩
theorem ZC (hn:3≤n) (H:HS g h (ComC b c::R)):t_w n 105 [.ptr b 0] h λr h'=>r=.bool (wB c)∧h'=h:=by
 refine t_e1 (S:=S105) rfl omQ λk hk=>?_;unfold S105;try simp only[iZ]
 obtain⟨sv,cv,tv,wv,H1⟩:=ComC.E H;unfold QG yx at H1;unfold wB;refine qW (qQ (qK ‹_› .here rfl ?_));refine qV ?_;(try dsimp only)
 cases hd:c.writing with
 |true=>
  refine qa ?_;(try dsimp only)
  refine qG (Kl omQ H) ?_;rintro _ _ ⟨rfl,rfl⟩;refine vU (λc1=>?_) (λc1=>?_)
  ·refine qF ?_;exact qj ⟨congrArg AV.bool (by rw[iG (p:=c.p.fin=0) c1];rfl),rfl⟩
  ·refine qF ?_;exact qj ⟨congrArg AV.bool (by rw[iV (p:=c.p.fin=0) c1];rfl),rfl⟩
 |false=>
  refine qS ?_;(try dsimp only);refine qI ?_
  exact qj ⟨rfl,rfl⟩
theorem qW8 (hn:2≤n) (O:xX c) (H:HS g h (ComC b c::R)):t_w n 357 [.ptr b 0] h λr h'=>r=opV (xo c)∧HS g h' (ComC b c::R):=by
 refine t_e1 (S:=S357) rfl omQ λk hk=>?_;unfold S357;try simp only[iZ]
 obtain⟨sv,cv,tv,wv,H⟩:=ComC.E H;refine qO H rfl λb0 h1 H1=>?_;have hlo:=O.lo;have hst:=O.st;have hnow:=O.now;have l1:=O.s;have l2:=O.was;refine qW (qQ (qG (XA omQ H1 e_1) ?_));rintro _ _ ⟨rfl,rfl⟩;unfold xo;have H2:=H1;unfold QG yx at H2;by_cases hg:c.p.fin=0
 rotate_left
 ·refine jj hg ?_;rw[iJ hg];refine qZ (qH rfl ?_);refine qe H1 (b:=b0) .here rfl (by show 0+10≤10;omega) rfl λh3 H3=>?_;refine qD H3 (b:=b0) (off:=0) .here rfl omQ (l:=yL (op0 0 0 0)) rfl ?_;exact qj ⟨rfl,ComC.I H3.drop⟩
 refine jY hg ?_;rw[iQ (λh=>h hg)];refine qJ (qW (qQ (qK ‹_› e_1 rfl ?_)));by_cases c0:c.state=0
 ·refine qx c0 ?_;rw[iJ c0];refine qZ (qW (qQ (qK ‹_› e_1 rfl ?_)));refine qW (qQ (qK ‹_› e_1 rfl ?_));refine qi ‹_› e_5 ?_;have hw:=O.st0 hg omQ;refine zJ (H1.sl e_4) (x:=.int .i64 (qM c.s c.was.length)) (by rw[List.getElem?_map,gC hw];rfl) ?_;refine qH rfl ?_;refine qe H2 (b:=b0) .here rfl (by show 0+10≤10;omega) rfl λh3 H3=>?_;refine qD H3 (b:=b0) (off:=0) .here rfl omQ (l:=yL (op0 3 (qM c.s c.was.length) 0)) rfl ?_;exact qj ⟨rfl,ComC.I H3.drop⟩
 refine qX c0 ?_;rw[iQ c0];refine qJ ?_;by_cases c1:c.state=1
 ·refine qx c1 ?_;rw[iJ c1];refine qZ (qW (qQ ?_));have hw:=O.st0 hg omQ;refine qp (qK H2 (b:=b) e_1 rfl ?_);refine qW (qQ (qK ‹_› e_1 rfl ?_));refine qH rfl ?_;refine qO H2 rfl λb1 h3 H3=>?_;refine qe H3 (b:=b1) .here rfl (by show 0+3≤3;omega) rfl λh4 H4=>?_;have H4:HS g h4 (qg b1 (zk (c.lk.1,true,c.me))::qg b0 _::qg b (QG c sv cv tv wv)::_):=H4;have H5:=H4;unfold QG yx at H5;refine qW (qQ (qK ‹_› e_2 rfl ?_));refine qW (qQ (qK ‹_› e_2 rfl ?_));refine qi ‹_› e_6 ?_;refine zJ (H4.sl e_5) (x:=.int .i64 (qM c.s c.was.length)) (by rw[List.getElem?_map,gC hw];rfl) ?_;refine qW (qQ (qD H5 (b:=b) (off:=13) e_2 rfl omQ (l:=zk c.lk) rfl ?_));refine qD H5 (b:=b1) (off:=0) .here rfl omQ (l:=zk (c.lk.1,true,c.me)) rfl ?_;refine qH rfl ?_;refine qe H5 (b:=b0) e_1 rfl (by show 0+10≤10;omega) rfl λh6 H6=>?_;refine qD H6 (b:=b0) (off:=0) .here rfl omQ (l:=yL ⟨4,qM c.s c.was.length,0,0,c.lk,(c.lk.1,true,c.me)⟩) rfl ?_;exact qj ⟨rfl,ComC.I H6.drop.drop⟩
 refine qX c1 ?_;rw[iQ c1];refine qJ ?_;by_cases c2:c.state=2
 ·refine qx c2 ?_;rw[iJ c2];refine qZ (qH rfl ?_);refine qe H2 (b:=b0) .here rfl (by show 0+10≤10;omega) rfl λh3 H3=>?_;refine qD H3 (b:=b0) (off:=0) .here rfl omQ (l:=yL (op0 6 0 0)) rfl ?_;exact qj ⟨rfl,ComC.I H3.drop⟩
 refine qX c2 ?_;rw[iQ c2];refine qJ ?_;by_cases c3:c.state=3
 ·refine qx c3 ?_;rw[iJ c3];refine qZ (qW (qQ (qK ‹_› e_1 rfl ?_)));refine qW (qQ (qK ‹_› e_1 rfl ?_));refine xd omQ ?_;refine qH rfl ?_;refine qe H2 (b:=b0) .here rfl (by show 0+10≤10;omega) rfl λh3 H3=>?_;refine qD H3 (b:=b0) (off:=0) .here rfl omQ (l:=yL (⟨7,0,c.now,c.now+1,lk0,lk0⟩)) rfl ?_;exact qj ⟨rfl,ComC.I H3.drop⟩
 refine qX c3 ?_;rw[iQ c3];refine qJ ?_;by_cases c4:c.state=4
 ·refine qx c4 ?_;rw[iJ c4];refine qZ (qW (qQ (qK ‹_› e_1 rfl ?_)));refine qW (qQ (qK ‹_› e_1 rfl ?_));have hlt:=O.st4 hg c4;obtain⟨k,hk⟩:∃k:Nat,c.at_=k:=⟨c.at_.toNat,by omega⟩;rw[hk]at hlt ⊢;refine yT (H1.sl e_2) omQ omQ (Qa omQ).1 ?_;refine qH rfl ?_;refine qe H2 (b:=b0) .here rfl (by show 0+10≤10;omega) rfl λh3 H3=>?_;refine qD H3 (b:=b0) (off:=0) .here rfl omQ (l:=yL (op0 3 (zm c.seen k).1 0)) rfl ?_;exact qj ⟨rfl,ComC.I H3.drop⟩
 refine qX c4 ?_;rw[iQ c4];refine qJ ?_;by_cases c5:c.state=5
 ·refine qx c5 ?_;rw[iJ c5];refine qZ (qW (qQ (qK ‹_› e_1 rfl ?_)));refine qW (qQ (qK ‹_› e_1 rfl ?_));have hlt:=O.st5 hg c5;obtain⟨k,hk⟩:∃k:Nat,c.at_=k:=⟨c.at_.toNat,by omega⟩;rw[hk]at hlt ⊢;refine yT (H1.sl e_3) omQ omQ (Zi omQ).1 ?_;refine qW (qQ (qK ‹_› e_1 rfl ?_));refine qW (qQ (qK ‹_› e_1 rfl ?_));rw[hk];refine yT (H1.sl e_3) omQ omQ (Zi omQ).2 ?_;refine qH rfl ?_;refine qe H2 (b:=b0) .here rfl (by show 0+10≤10;omega) rfl λh3 H3=>?_;refine qD H3 (b:=b0) (off:=0) .here rfl omQ (l:=yL (op0 2 (kJ c.cells k).1 (kJ c.cells k).2)) rfl ?_;exact qj ⟨rfl,ComC.I H3.drop⟩
 refine qX c5 ?_;rw[iQ c5];refine qJ ?_;by_cases c6:c.state=6
 ·refine qx c6 ?_;rw[iJ c6];refine qZ (qW (qQ (qK ‹_› e_1 rfl ?_)));refine qW (qQ (qK ‹_› e_1 rfl ?_));have hlt:=O.st6 hg c6;obtain⟨k,hk⟩:∃k:Nat,c.at_=k:=⟨c.at_.toNat,by omega⟩;rw[hk]at hlt ⊢;refine zJ (H1.sl e_4) (x:=.int .i64 (qM c.s k)) (by rw[List.getElem?_map,gC omQ];rfl) ?_;refine qW (qQ (qK ‹_› e_1 rfl ?_));refine xd omQ ?_;refine qH rfl ?_;refine qH rfl ?_;refine qe H2 (b:=b0) .here rfl (by show 0+10≤10;omega) rfl λh3 H3=>?_;refine qD H3 (b:=b0) (off:=0) .here rfl omQ (l:=yL (⟨5,qM c.s k,0,0,lk0,(c.now+1,false,0)⟩)) rfl ?_;exact qj ⟨rfl,ComC.I H3.drop⟩
 refine qX c6 ?_;rw[iQ c6];refine qJ (qW (qQ (qK ‹_› e_1 rfl ?_)));refine qW (qQ (qK ‹_› e_1 rfl ?_));have hlt:=O.st7 hg omQ;obtain⟨k,hk⟩:∃k:Nat,c.at_=k:=⟨c.at_.toNat,by omega⟩;rw[hk]at hlt ⊢;refine zJ (H1.sl e_4) (x:=.int .i64 (qM c.s k)) (by rw[List.getElem?_map,gC omQ];rfl) ?_;refine qW (qQ (qK ‹_› e_1 rfl ?_));refine qW (qQ (qK ‹_› e_1 rfl ?_));rw[hk];refine zU (l:=zk (zq c.was k)) (H1.sl e_5) omQ omQ (NP omQ) ?_;refine qH rfl ?_;refine qe H2 (b:=b0) .here rfl (by show 0+10≤10;omega) rfl λh3 H3=>?_;refine qD H3 (b:=b0) (off:=0) .here rfl omQ (l:=yL (⟨5,qM c.s k,0,0,lk0,zq c.was k⟩)) rfl ?_;exact qj ⟨rfl,ComC.I H3.drop⟩
theorem qxS {me sp st a w:Int} {v1 v2:AV} {r:List xR} {cs:List Cl} (hn:5≤n) (hr:r.length≤1000) (h0:0<cs.length) (hl:cs.length≤1000) (hc:∀c∈cs,0≤c.1∧c.1<100000)
  (H:HS g h (qy 245 2 r.length v1 (r.flatMap gG)::qy 181 2 cs.length v2 (cs.flatMap jA)::R)) :
  t_w n 117 [.int .i64 me,.int .i64 sp,.int .u64 st,v1,v2,.int .i64 a,.int .i64 w] h λv h'=>∃b,v=.ptr b 0∧HS g h' (ComC b (J2 me sp st r cs a w)::R):=by
 refine t_e7 (S:=S117) rfl omQ λk hk=>?_;unfold S117;try simp only[iZ]
 refine qG (OX omQ H) ?_;rintro _ h1 ⟨rfl,H1⟩;refine qG (Yd omQ H1 .here (J5 (λ_=>rfl) _) omQ) λu1 h2 H2=>?_;refine qG (qQo omQ H2 e_2 omQ) λu2 h3 H3=>?_;refine qG (qZu omQ H3 (H3.rd e_3) h0 hl hc) λu3 h4 H4=>?_;have o1:=H4.one e_2;have o2:=H4.one e_1;have o3:=H4.one .here;unfold yx;refine qH (l:=QG ⟨QP me sp,me,st,r,cs,xE cs a w,[],0,0,lk0,0,false,0,0,0⟩ u1 u2 u3 .nils) (by simp only[yF,o1.1,o2.1,o3.1];rfl) ?_;refine qO H4 (by show qm [_,_,_,_,_,_,_,u1,u2,u3,_,_,_,_,_,_,_,_,_,_,_]=true;simp only[qm,List.all_cons,o1.2,o2.2,o3.2];rfl) λb h5 H5=>?_;have H6:=H5.nils (e:=44) (sz:=3);have H7:HS g h5 (ComC b ⟨QP me sp,me,st,r,cs,xE cs a w,[],0,0,lk0,0,false,0,0,0⟩::R) :=
  ComC.I (sv:=u1) (cv:=u2) (tv:=u3) (wv:=.nils) (H6.sub (.cons e_1 (.cons e_3 (.cons e_2 (.cons e_1 (.cons .here (.drop (.drop .refl))))))))
 refine qG (qQb omQ H7) λ_ h6 H8=>qj ⟨b,rfl,H8⟩
end
end Go.Proofs.YtnalffoigcmnnabGreatDoor
namespace Go.Proofs.YtnalffoigcmnnabGreatDoor
open Go Go.Ae
def X8 (a:AnM):Prop:=0≤a.word∧a.word<18446744073709551616
theorem Qv {p:Jj} {a:AnM} (h:(qu p a).1=true):(qu p a).2.fin≠0:=by
 unfold qu at h ⊢
 split
 ·show(4:Int)≠0;decide
 ·rename_i c;rw[iQ c]at h;simpa using h
theorem OW {p:Jj} {l:LkM} (hp:0≤p.spins∧p.spins≤4) (h:(zK p l).1=true):(zK p l).2.fin=p.fin∧0≤(zK p l).2.spins∧(zK p l).2.spins≤4:=by
 unfold zK at h ⊢
 split
 ·exact⟨rfl,hp⟩
 ·rename_i c;rw[iQ c]at h;have:0≤p.spins-1:=by simpa using h
  refine⟨rfl,?_⟩;show 0≤p.spins-1∧p.spins-1≤4;omega
theorem qXS {me sp:Int}:KL (QP me sp):=λ_=>by show 0≤max 0 (min sp 4)∧max 0 (min sp 4)≤4;omega
theorem Xl {p:Jj} {f e y:Int} (h:f≠0):KL (zx p f e y):=λhf=>absurd hf h
theorem YC {f:Qb} {a:AnM} (hp:KL f.p):KL (xT f a).p:=by
 unfold xT;cases hs:(qu f.p a).1 with
 |true=>rw[iJ rfl];exact λh=>absurd h (Qv hs)
 |false=>
  rw[iQ osQ];have hg:=(XZ hs).2;unfold J3
  split
  ·exact hp
  ·split
   ·exact Xl od
   ·split
    ·split
     ·rename_i hw;exact λ_=>(OW (hp hg) hw).2
     ·exact Xl od
    ·split
     ·exact Xl od
     ·exact hp
theorem qxU {me sp:Int} {r:List xR} (hr:r.length≤16):UZ (VV me sp r):=⟨qXS,Int.le_refl _,by show(0:Int)≤1000;decide,hr,by show(0:Int)≤_;omega,λ_ h=>by cases h⟩
theorem qQI {x:QI} (hp:KL x.p) (h0:0≤x.at_) (h1:x.at_≤x.seen.length) (hr:x.seen.length≤16):UZ (JM x):=by
 unfold JM
 split
 ·exact⟨Xl od,h0,by show x.at_≤1000;omega,hr,h1,λh=>by cases h⟩
 ·exact⟨hp,h0,by omega,hr,h1,λ_ _=>by omega⟩
theorem YP {x:QI} {a:AnM} (O:UZ x):UZ (x7 x a):=by
 unfold x7;cases hs:(qu x.p a).1 with
 |true=>rw[iJ rfl];exact⟨λh=>absurd h (Qv hs),O.lo,O.hi,O.len,O.le,λh=>absurd h (Qv hs)⟩
 |false=>
  rw[iQ osQ];have hg:=(XZ hs).2;have hlo:=O.lo;have hhi:=O.hi;have hlen:=O.len
  split
  ·exact qQI (x:={ x with loaded:=true,stamp:=a.word }) O.p hlo O.le hlen
  ·rename_i hl;have hl:x.loaded=true:=by simpa using hl
   have hin:=O.in_ hg hl
   split
   ·split
    ·rename_i hw;have:=OW (O.p hg) hw;exact⟨λ_=>this.2,hlo,hhi,hlen,O.le,λ_ _=>hin⟩
    ·exact⟨Xl od,hlo,hhi,hlen,O.le,λh=>by cases h⟩
   ·split
    ·exact⟨Xl od,hlo,hhi,hlen,O.le,λh=>by cases h⟩
    ·exact qQI (x:={ x with at_:=x.at_+1 }) O.p (by show 0≤x.at_+1;omega) (by show x.at_+1≤(x.seen.length:Int);omega) hlen
section
variable {c:zg}
theorem M7 (r:c.s.Pairwise (· < ·)) (h:zH 1 c.p.spins 6 c.at_ c.now c.fin2 c.seen.length c.cells.length c.s.length c.was.length) (hs:c.state=6) (hp:0≤c.p.spins∧c.p.spins≤4) (ha:c.at_≤c.s.length):xX (vq c):=by
 unfold vq;unfold zH at h
 split
 ·refine⟨r,?_⟩;show zH 2 c.p.spins c.state c.at_ c.now c.fin2 c.seen.length c.cells.length c.s.length c.was.length;unfold zH;omega
 ·refine⟨r,?_⟩;unfold zH;omega
theorem Un (r:c.s.Pairwise (· < ·)) (h:zH 1 c.p.spins 5 c.at_ c.now c.fin2 c.seen.length c.cells.length c.s.length c.was.length) (hs:c.state=5) (hp:0≤c.p.spins∧c.p.spins≤4) (ha:c.at_≤c.cells.length):xX (vJ c):=by
 unfold vJ;unfold zH at h
 split
 ·refine M7 (c:={ c with at_:=0,state:=6 }) r ?_ rfl hp (by show(0:Int)≤_;omega);show zH 1 c.p.spins 6 0 c.now c.fin2 c.seen.length c.cells.length c.s.length c.was.length;unfold zH;omega
 ·refine⟨r,?_⟩;unfold zH;omega
theorem Yg (r:c.s.Pairwise (· < ·)) (h:zH 1 c.p.spins 4 c.at_ c.now c.fin2 c.seen.length c.cells.length c.s.length c.was.length) (hp:0≤c.p.spins∧c.p.spins≤4):xX (wh c):=by unfold wh;unfold zH at h;refine Un (c:={ c with writing:=true,at_:=0,state:=5 }) r ?_ rfl hp (by show(0:Int)≤_;omega);show zH 1 c.p.spins 5 0 c.now c.fin2 c.seen.length c.cells.length c.s.length c.was.length;unfold zH;omega
theorem Ui (r:c.s.Pairwise (· < ·)) (h:zH 1 c.p.spins 7 c.at_ c.now c.fin2 c.seen.length c.cells.length c.s.length c.was.length) (hs:c.state=7) (ha:c.at_≤c.was.length):xX (gk c):=by
 unfold gk;unfold zH at h
 split
 ·refine⟨r,?_⟩;show zH c.fin2 c.p.spins c.state c.at_ c.now c.fin2 c.seen.length c.cells.length c.s.length c.was.length;unfold zH;omega
 ·refine⟨r,?_⟩;unfold zH;omega
theorem Xb {f e y:Int} (r:c.s.Pairwise (· < ·)) (h:zH 1 c.p.spins c.state c.at_ c.now c.fin2 c.seen.length c.cells.length c.s.length c.was.length) (hf:f≠0):xX (kA c f e y):=by unfold kA;unfold zH at h;refine Ui (c:={ c with fin2:=f,err2:=e,by2:=y,at_:=0,state:=7 }) r ?_ rfl (by show(0:Int)≤_;omega);show zH 1 c.p.spins 7 0 c.now f c.seen.length c.cells.length c.s.length c.was.length;unfold zH;omega
theorem xX.dead (O:xX c):zH 1 c.p.spins c.state c.at_ c.now c.fin2 c.seen.length c.cells.length c.s.length c.was.length:=by have h:=O.ar;unfold zH at h ⊢;omega
theorem V7 {l:LkM} (O:xX c) (hg:c.p.fin=0) (hs:c.state≤6):xX (QY c l):=by
 unfold QY;have h:=O.ar
 split
 ·rename_i hw;have:=OW (O.p hg hs) hw;refine⟨O.rise,?_⟩;show zH (zK c.p l).2.fin (zK c.p l).2.spins c.state c.at_ c.now c.fin2 c.seen.length c.cells.length c.s.length c.was.length;unfold zH at h ⊢;omega
 ·refine Xb (c:={ c with p:=(zK c.p l).2 }) O.rise ?_ od;show zH 1 (zK c.p l).2.spins c.state c.at_ c.now c.fin2 c.seen.length c.cells.length c.s.length c.was.length;unfold zH at h ⊢;omega
theorem ZJ (r:c.s.Pairwise (· < ·)):∀(m:Nat) (a:Int),zH 1 c.p.spins 4 a c.now c.fin2 c.seen.length c.cells.length c.s.length c.was.length→(0≤c.p.spins∧c.p.spins≤4)→xX (vu { c with state:=4,at_:=a } m):=by
 intro m
 induction m with
 |zero=>intro a h hp;exact Yg (c:={ c with state:=4,at_:=a }) r h hp
 |succ m ih=>
  intro a h hp;unfold vu;dsimp only
  split
  ·rename_i hlt
   split
   ·refine⟨r,?_⟩;show zH c.p.fin c.p.spins 4 a c.now c.fin2 c.seen.length c.cells.length c.s.length c.was.length;unfold zH at h ⊢;omega
   ·split
    ·exact Xb (c:={ c with state:=4,at_:=a }) r h od
    ·refine ih (a+1) ?_ hp;unfold zH at h ⊢;omega
  ·exact Yg (c:={ c with state:=4,at_:=a }) r h hp
theorem Ue (r:c.s.Pairwise (· < ·)) (h:zH 1 c.p.spins 4 c.at_ c.now c.fin2 c.seen.length c.cells.length c.s.length c.was.length) (hp:0≤c.p.spins∧c.p.spins≤4):xX (Qf c):=ZJ r _ c.at_ h hp
set_option maxHeartbeats 4000000 in
theorem Kz {a:AnM} (O:xX c) (ha:X8 a):xX (zw c a):=by
 have h:=O.ar;have hd:=O.dead;unfold zw;cases hs:(qu c.p a).1 with
 |true=>rw[iJ rfl];have hf:=Qv hs;refine⟨O.rise,?_⟩;show zH (qu c.p a).2.fin (qu c.p a).2.spins c.state c.at_ c.now c.fin2 c.seen.length c.cells.length c.s.length c.was.length;unfold zH at h ⊢;omega
 |false=>
  rw[iQ osQ];have hg:=(XZ hs).2;have ha:=ha.1;rw[hg]at h
  split
  ·rename_i hst;unfold kC
   split
   ·exact V7 O hg omQ
   ·split
    ·refine⟨O.rise,?_⟩;show zH c.p.fin c.p.spins 1 c.at_ c.now c.fin2 c.seen.length c.cells.length c.s.length c.was.length;rw[hg];unfold zH at h ⊢;omega
    ·split
     ·unfold Qz;dsimp only;have hl:(c.was++[c.lk]).length=c.was.length+1:=by simp
      split
      ·refine⟨O.rise,?_⟩;show zH c.p.fin c.p.spins 2 c.at_ c.now c.fin2 c.seen.length c.cells.length c.s.length (c.was++[c.lk]).length;rw[hg];unfold zH at h ⊢;omega
      ·refine⟨O.rise,?_⟩;show zH c.p.fin c.p.spins 0 c.at_ c.now c.fin2 c.seen.length c.cells.length c.s.length (c.was++[c.lk]).length;rw[hg];unfold zH at h ⊢;omega
     ·refine⟨O.rise,?_⟩;show zH c.p.fin c.p.spins 0 c.at_ c.now c.fin2 c.seen.length c.cells.length c.s.length c.was.length;rw[hg];unfold zH at h ⊢;omega
  split
  ·unfold gM
   split
   ·exact Xb O.rise hd od
   ·split
    ·refine⟨O.rise,?_⟩;show zH c.p.fin c.p.spins 3 c.at_ a.word c.fin2 c.seen.length c.cells.length c.s.length c.was.length;rw[hg];unfold zH at h ⊢;omega
    ·split
     ·refine⟨O.rise,?_⟩;show zH c.p.fin c.p.spins 2 c.at_ c.now c.fin2 c.seen.length c.cells.length c.s.length c.was.length;rw[hg];unfold zH at h ⊢;omega
     ·have h4:zH 1 c.p.spins 4 c.at_ c.now c.fin2 c.seen.length c.cells.length c.s.length c.was.length:=by unfold zH at h ⊢;omega
      split
      ·exact Yg O.rise h4 (O.p hg omQ)
      ·exact Ue O.rise h4 (O.p hg omQ)
  split
  ·rename_i h4;unfold wx
   split
   ·exact V7 O hg omQ
   ·split
    ·exact Xb O.rise hd od
    ·refine Ue (c:={ c with at_:=c.at_+1 }) O.rise ?_ (O.p hg omQ);show zH 1 c.p.spins 4 (c.at_+1) c.now c.fin2 c.seen.length c.cells.length c.s.length c.was.length;unfold zH at h ⊢;omega
  split
  ·rename_i h5;have:=O.st5 hg h5;refine Un (c:={ c with at_:=c.at_+1 }) O.rise ?_ h5 (O.p hg omQ) (by show c.at_+1≤(c.cells.length:Int);omega);show zH 1 c.p.spins 5 (c.at_+1) c.now c.fin2 c.seen.length c.cells.length c.s.length c.was.length;unfold zH at h ⊢;omega
  split
  ·rename_i h6;have:=O.st6 hg h6;refine M7 (c:={ c with at_:=c.at_+1 }) O.rise ?_ h6 (O.p hg omQ) (by show c.at_+1≤(c.s.length:Int);omega);show zH 1 c.p.spins 6 (c.at_+1) c.now c.fin2 c.seen.length c.cells.length c.s.length c.was.length;unfold zH at h ⊢;omega
  ·have hst:=O.st;have h7:c.state=7:=by omega
   have:=O.st7 hg h7;refine Ui (c:={ c with at_:=c.at_+1 }) O.rise ?_ h7 (by show c.at_+1≤(c.was.length:Int);omega);show zH 1 c.p.spins 7 (c.at_+1) c.now c.fin2 c.seen.length c.cells.length c.s.length c.was.length;unfold zH at h ⊢;omega
theorem qwl {me sp st a w:Int} {r:List xR} {cs:List Cl} (hr:r.length≤16) (h0:0<cs.length) (hl:cs.length≤1000) (hc:∀c∈cs,0≤c.1):xX (J2 me sp st r cs a w):=by
 have h1:(xE cs a w).length≤16:=by unfold xE;exact Nat.le_trans (List.length_filter_le ..) osQ
 have h2:0<(xE cs a w).length:=by obtain⟨c,hcm⟩:=List.exists_mem_of_length_pos h0;exact List.length_pos_of_mem ((XW (n:=a) (w:=w) hc).2 (List.mem_map.2 ⟨c,hcm,rfl⟩))
 unfold J2 Qz;rw[iQ (by show¬(0:Nat)=(xE cs a w).length;omega)];refine⟨JV,?_⟩;show zH 0 (max 0 (min sp 4)) 0 0 0 0 r.length cs.length (xE cs a w).length 0;unfold zH;omega
end
end Go.Proofs.YtnalffoigcmnnabGreatDoor
namespace Go.Proofs.YtnalffoigcmnnabGreatDoor
open Go Go.Ae
theorem qqI {l:List qR} (F:Fit l) (Q:Quiet l):∀(n:Nat) {s:IM} {V:VM},GI l s V→frS V.lv+n<9000→(jg l (qL l) n s V).kind=1→frS (jg l (qL l) n s V).v.lv+(jg l (qL l) n s V).left≤frS V.lv+n:=by
 intro n
 induction n with
 |zero=>
  intro s V G hf;rw[gw]
  split<;>(intro h;cases h)
 |succ n ih=>
  intro s V G hf;rw[gu]
  split
  ·intro h;cases h
  ·rename_i h0;obtain⟨i,hi,hil⟩:=G.pc;have hlt:i<l.length:=by omega
   rw[hi];have S:=JD F G hi hlt omQ (Q.at hlt).2 (Q.at hlt).1;generalize doM (qL l) s V (qP l i)=D at*
   split
   ·rename_i h1
    split
    ·intro h;cases h
    ·rename_i h2;have hfr:=S.fr;intro h;have:=ih (S.next h1 (by simpa using h2)) omQ h;omega
   ·split
    ·rename_i h11;obtain⟨n1,n2,_⟩:=S.need h11;intro _;show frS D.v.lv+(n+1)≤_;rw[n2];omega
    ·intro h;cases h
theorem qqm {l:List qR} {mt:List Int}:∀(n:Nat) {s:IM} {V:VM},(jg l mt n s V).kind=1→(jg l mt n s V).err=0:=by
 intro n
 induction n with
 |zero=>intro s V;rw[gw];split<;>(intro h;cases h)
 |succ n ih=>
  intro s V;rw[gu];generalize doM mt s V (qP l s.pc)=D
  split
  ·intro h;cases h
  ·split
   ·split
    ·intro h;cases h
    ·exact ih
   ·split
    ·intro _;rfl
    ·intro h;cases h
theorem qYI {V:VM} {p x:Int} (h1:1≤p) (h2:p<V.sz) (h3:zj p V.K=none):z6 V p x=(0,{ V with K:=V.K++[(p,x)] }):=by unfold z6;rw[iJ ⟨h1,h2⟩,h3]
theorem qxc {l:List qR} {s:IM} {V:VM} {p x:Int} (G:GI l s V) (hx:0≤x∧x<18446744073709551616):GI l s (z6 V p x).2:=by
 have hl:(z6 V p x).2.lv=V.lv:=by
  unfold z6
  repeat' split
  all_goals rfl
 refine⟨G.gb,G.pc,G.pts,G.told,G.stk,by rw[hl];exact G.lv,⟨VT G.good.ok,?_⟩⟩;unfold z6
 split
 ·split
  ·exact G.good.wd
  ·refine⟨λc hc=>?_,G.good.wd.l⟩;rcases List.mem_append.1 hc with hc |hc
   ·exact G.good.wd.k c hc
   ·rw[List.mem_singleton]at hc;subst hc;exact hx
 ·exact G.good.wd
theorem qwb {V:VM} (O:OkV V):V.K.length≤V.sz-1:=by
 have hlo:=O.lo;have hu:(V.K.map (·.1)).Nodup:=O.un
 have h:=Yr (V.sz-1) ((V.K.map (·.1)).map λz:Int=>z-1) (by
  rw[List.Nodup,List.pairwise_map]
  exact hu.imp λ{a b} hab=>by omega) (by
  intro a ha;obtain⟨z,hz,rfl⟩:=List.mem_map.1 ha;obtain⟨c,hc,rfl⟩:=List.mem_map.1 hz;have h1:=O.ins c hc
  omega)
 simpa using h
theorem qjS {l:List qR} {mt:List Int}:∀(n:Nat) {s:IM} {V:VM},(jg l mt n s V).left≤n:=by
 intro n
 induction n with
 |zero=>intro s V;rw[gw];split<;>exact Nat.le_refl _
 |succ n ih=>
  intro s V;rw[gu];generalize doM mt s V (qP l s.pc)=D
  split
  ·exact Nat.le_refl _
  ·split
   ·split
    ·exact Nat.le_succ n
    ·exact Nat.le_trans ih (Nat.le_succ n)
   ·split<;>exact Nat.le_refl _
end Go.Proofs.YtnalffoigcmnnabGreatDoor
namespace Go.Proofs.YtnalffoigcmnnabGreatDoor
open Go Go.Ae
structure gr (S:xw):Prop where
  words:32≤S.words∧S.words≤256
  stripes:1≤S.stripes∧S.stripes≤16
  wide:1≤S.wide∧S.wide≤16
  threads:1≤S.threads∧S.threads≤4
  start:0≤S.start∧S.start≤4611686018427387903
  spins:0≤S.spins∧S.spins≤4
  writes:0≤S.writes∧S.writes≤96
  fuel:0≤S.fuel∧S.fuel≤400
theorem Jq {n lo hi:Int} (h:lo≤hi):lo≤Qu n lo hi∧Qu n lo hi≤hi:=by unfold Qu;omega
theorem yD {n lo hi:Int} (h:lo≤n∧n≤hi):Qu n lo hi=n:=by unfold Qu;omega
theorem wG {s:xw} (h:0≤s.start):gr (jw s) :=
 ⟨Jq omQ,Jq omQ,Jq omQ,Jq omQ,by show 0≤min s.start 4611686018427387903∧min s.start 4611686018427387903≤4611686018427387903;omega,Jq omQ,Jq omQ,Jq omQ⟩
theorem YG {S:xw} (O:gr S):jw S=S:=by obtain⟨a,b,c,d,e,f,g,i⟩:=O;obtain⟨w,s,wi,t,st,sp,wr,fu⟩:=S;unfold jw;dsimp only at*;rw[yD a,yD b,yD c,yD d,yD f,yD g,yD i,show min st 4611686018427387903=st by omega]
theorem G5 {M:VM} {b:Int} (h:(zG M b).1=11):JN M (zG M b).2:=by
 have ha:=qvI M b;unfold zG at h ⊢
 split
 ·rename_i h1;rw[iJ h1]at h;have e:=ha.2 h1
  split
  ·rename_i h2;rw[iJ h2]at h;cases h
  ·rename_i h2;rw[iQ h2]at h
   split
   ·rename_i h3;rw[iJ h3]at h;exact(GX h).elim
   ·rename_i h3;rw[iQ h3]at h;rw[e]at h ⊢;exact kL h
 ·rename_i h1;rw[iQ h1]at h;exact qQD h
theorem Ga {M:VM} {b:Int} (O:OkV M):JF M (zG M b).2:=by
 have ha:=Zj M b;unfold zG
 repeat' split
 ·exact ha
 ·exact(ha.trans (xk _ _)).trans (gJ (xm (XP O)))
 ·exact ha.trans (xk _ _)
 ·exact ha
theorem VE:∀(bs:List Int) (k:Nat) {V:VM},jk V→jk (jB V bs k).2∧JF V (jB V bs k).2∧frS (jB V bs k).2.lv=frS V.lv∧(jB V bs k).1.1≤k+bs.length∧
  ((jB V bs k).1.2=11→1≤(jB V bs k).2.need∧(jB V bs k).2.need<V.sz∧zj (jB V bs k).2.need V.K=none):=by
 intro bs
 induction bs with
 |nil=>intro k V G;exact⟨G,.refl V,rfl,Nat.le_refl _,λh=>by cases h⟩
 |cons b r ih=>
  intro k V G;have hg:=G.give (b:=b);have hk:=Ga (b:=b) G.ok;by_cases h0:(zG V b).1=0
  ·rw[show jB V (b::r) k=jB (zG V b).2 r (k+1)from iJ h0];obtain⟨a1,a2,a3,a4,a5⟩:=ih (k+1) hg.1;refine⟨a1,hk.trans a2,a3.trans hg.2,by rw[List.length_cons];omega,λh=>?_⟩;have:=a5 h;rw[hk.sz,hk.K]at this;exact this
  ·rw[show jB V (b::r) k=((k,(zG V b).1),(zG V b).2)from iQ h0];exact⟨hg.1,hk,hg.2,by dsimp only;omega,λh=>(G5 h).2⟩
def JobOk (live:Prop) (V:VM):Jx→Prop
 | .prog q=>Fit q.l∧Quiet q.l∧GB q.s∧(live→GI q.l q.s V∧q.fin=0∧q.err=0∧frS V.lv+q.left<9000)∧q.left≤400
 | .sweep bs k=>k≤bs.length∧bs.length≤100000
theorem JobOk.dead {live live':Prop} {V V':VM} {j:Jx} (O:JobOk live V j) (h:¬live'):JobOk live' V' j:=by
 cases j with
 |prog q=>exact⟨O.1,O.2.1,O.2.2.1,λh'=>absurd h' h,O.2.2.2.2⟩
 |sweep bs k=>exact O
theorem JobOk.same {live live':Prop} {V:VM} {j:Jx} (O:JobOk live V j) (h:live'→live):JobOk live' V j:=by
 cases j with
 |prog q=>exact⟨O.1,O.2.1,O.2.2.1,λh'=>O.2.2.2.1 (h h'),O.2.2.2.2⟩
 |sweep bs k=>exact O
structure zl (x:jQ):Prop where
  set:gr x.set
  good:jk x.v
  sz:(x.v.sz:Int)=x.set.words
  fr:frS x.v.lv<9000
  r:x.r.length≤16
  job:JobOk (x.state≤4) x.v x.job
  st:0≤x.state∧x.state≤8
  f:x.state=3→KL x.f.p∧0≤x.f.word∧x.f.word<18446744073709551616
  need:3≤x.state→x.state≤4→1≤x.v.need∧x.v.need<x.v.sz∧zj x.v.need x.v.K=none
  e:4≤x.state→x.state≤5→UZ x.e
  c:∀c,x.c=some c→xX c
  c0:x.state≤5→x.c=none
  c6:x.state=6→x.c≠none
structure DoneK (x:jQ) (k:Int) (y:jQ):Prop where
  good:jk y.v
  kept:y.v.sz=x.v.sz∧y.v.K=x.v.K∧y.v.most=x.v.most
  fr:frS y.v.lv<9000
  job:JobOk (k=1) y.v y.job
  need:k=1→1≤y.v.need∧y.v.need<x.v.sz∧zj y.v.need x.v.K=none
  same:y.me=x.me∧y.set=x.set∧y.r=x.r∧y.stamp=x.stamp∧y.c=x.c
theorem K8 {x:jQ} (hg:jk x.v) (hf:frS x.v.lv<9000) (hj:JobOk True x.v x.job):DoneK x (ye x).1.1 (ye x).2:=by
 unfold ye;cases hx:x.job with
 |prog q=>
  rw[hx]at hj;obtain⟨F,Q,gb,h,hl⟩:=hj;obtain⟨G,h0,h1,h2⟩:=h trivial;obtain⟨RB,rfr,_,rn,_⟩:=Gs F Q q.left G h2;dsimp only;refine⟨RB.good,⟨RB.sz,RB.K,RB.most⟩,by dsimp only;omega,⟨F,Q,RB.gb,λhk=>?_,?_⟩,λhk=>?_,⟨rfl,rfl,rfl,rfl,rfl⟩⟩
  ·have hr:=qqI F Q q.left G h2 hk;exact⟨(rn hk).1,iJ hk,qqm _ hk,by dsimp only;omega⟩
  ·have hr:=qjS (l:=q.l) (mt:=qL q.l) q.left (s:=q.s) (V:=x.v);dsimp only;omega
  ·exact(rn hk).2
 |sweep bs k=>
  rw[hx]at hj;obtain⟨a1,a2,a3,a4,a5⟩:=VE (bs.drop k) k hg;dsimp only;refine⟨a1,⟨a2.sz,a2.K,a2.most⟩,by dsimp only;omega,⟨by rw[List.length_drop]at a4;have:=hj.1;omega,hj.2⟩,λh=>?_,⟨rfl,rfl,rfl,rfl,rfl⟩⟩
  ·refine a5 ?_
   split at h
   ·assumption
   ·split at h<;>cases h
structure kK (x:jQ):Prop where
  set:gr x.set
  good:jk x.v
  sz:(x.v.sz:Int)=x.set.words
  fr:frS x.v.lv<9000
  r:x.r.length≤16
  job:JobOk False x.v x.job
  c:∀c,x.c=some c→xX c
theorem zl.b {x:jQ} (O:zl x):kK x:=⟨O.set,O.good,O.sz,O.fr,O.r,O.job.dead not_false,O.c⟩
theorem kK.out {x:jQ} (B:kK x) {f e y:Int}:zl (xI x f e y) :=
 ⟨B.set,B.good,B.sz,B.fr,B.r,B.job.dead (by show¬(7:Int)≤4;decide),by show(0:Int)≤7∧(7:Int)≤8;decide,λh=>(by cases h),λ_ h=>(by cases h),λ_ h=>(by cases h),B.c,λh=>(by cases h),λh=>by cases h⟩
theorem kK.gone {x:jQ} (B:kK x) {f e y:Int}:zl { xI x f e y with state:=8 } :=
 ⟨B.set,B.good,B.sz,B.fr,B.r,B.job.dead (by show¬(8:Int)≤4;decide),by show(0:Int)≤8∧(8:Int)≤8;decide,λh=>(by cases h),λ_ h=>(by cases h),λ_ h=>(by cases h),B.c,λh=>(by cases h),λh=>by cases h⟩
theorem kK.ask {x:jQ} (B:kK x) (hj:JobOk True x.v x.job) (hn:1≤x.v.need∧x.v.need<x.v.sz∧zj x.v.need x.v.K=none) (hc:x.c=none):zl (JW x x.v.need) :=
 ⟨B.set,B.good,B.sz,B.fr,B.r,hj.same λ_=>trivial,by show(0:Int)≤3∧(3:Int)≤8;decide,λ_=>⟨qXS,by show(0:Int)≤0;decide,by show(0:Int)<_;decide⟩,λ_ _=>hn,λh=>absurd h (by show¬(4:Int)≤3;decide),B.c,λ_=>hc,λh=>by cases h⟩
theorem kK.later {x:jQ} (B:kK x) (hc:x.c=none) {s:Int} (hs:s=4∨s=5) (hj:s=4→JobOk True x.v x.job∧1≤x.v.need∧x.v.need<x.v.sz∧zj x.v.need x.v.K=none):zl (yd x s):=by
 refine⟨B.set,B.good,B.sz,B.fr,B.r,?_,by show 0≤s∧s≤8;omega,λh=>?_,λ_ h=>(hj ?_).2,λ_ _=>qxU B.r,B.c,λ_=>hc,λh=>?_⟩
 ·show JobOk (s≤4) x.v x.job;rcases hs with rfl |rfl
  ·exact(hj rfl).1.same λ_=>trivial
  ·exact B.job.dead od
 ·have h:s=3:=h;omega
 ·have h:s≤4:=h;omega
 ·have h:s=6:=h;omega
theorem UB {V:VM} (O:OkV V):(jJ V.lv).length≤96∧∀c∈jJ V.lv,1≤c.1∧c.1<256:=by have h1:=JY V.lv [];have h2:=O.lvs.held;have h3:=O.lvs.le;refine⟨by simp at h1;unfold jJ;omega,?_⟩;exact Vs V.lv [] (λc hc=>by cases hc) O.lvs.ins
theorem kK.work {x:jQ} (B:kK x) (hj:JobOk True x.v x.job) (hc:x.c=none):zl (xu x):=by
 have D:=K8 B.good B.fr hj;unfold xu;generalize(ye x).1.1=k at*;generalize(ye x).1.2=e at*;generalize(ye x).2=y at*;obtain⟨e1,e2,e3,e4,e5⟩:=D.same;have hyc:y.c=none:=by rw[e5,hc]
 have B':kK y:=⟨by rw[e2];exact B.set,D.good,by rw[D.kept.1,e2];exact B.sz,D.fr,by rw[e3];exact B.r,D.job.same λh=>h.elim,λc h=>by rw[hyc]at h;cases h⟩;unfold vi
 split
 ·rename_i h1;exact B'.ask (D.job.same λ_=>h1) (by have:=D.need h1;rw[D.kept.1,D.kept.2.1];exact this) hyc
 ·split
  ·exact kK.later (x:={ y with blocking:=true }) ⟨B'.set,B'.good,B'.sz,B'.fr,B'.r,B'.job,B'.c⟩ hyc (.inr rfl) λh=>by cases h
  ·split
   ·exact B'.out
   ·split
    ·exact B'.out
    ·rename_i hm;have hmo:=UB D.good.ok;refine⟨B'.set,B'.good,B'.sz,B'.fr,B'.r,B'.job.dead (by show¬(6:Int)≤4;decide),by show(0:Int)≤6∧(6:Int)≤8;decide,λh=>(by cases h),λ_ h=>(by cases h),λ_ h=>(by cases h),λc h=>?_,λh=>(by cases h),λ_ h=>by cases h⟩;cases h;exact qwl B'.r (List.length_pos_iff.2 hm) omQ λc hc=>by have:=hmo.2 c hc;omega
theorem Gv {r:List xR} {x:xR} (h:r.length≤16):(wo r x).2.length≤16:=by
 unfold wo
 split
 ·exact h
 ·split
  ·split<;>exact h
  ·split
   ·exact h
   ·rw[List.length_append,List.length_singleton];omega
theorem wN {V:VM} {p x:Int}:(z6 V p x).2.lv=V.lv∧(z6 V p x).2.sz=V.sz:=by
 unfold z6
 repeat' split
 all_goals exact⟨rfl,rfl⟩
theorem Xw {V:VM} {p x:Int} (G:jk V) (hx:0≤x∧x<18446744073709551616):jk (z6 V p x).2:=by
 refine⟨VT G.ok,?_⟩;unfold z6
 split
 ·split
  ·exact G.wd
  ·refine⟨λc hc=>?_,G.wd.l⟩;rcases List.mem_append.1 hc with hc |hc
   ·exact G.wd.k c hc
   ·rw[List.mem_singleton]at hc;subst hc;exact hx
 ·exact G.wd
theorem JobOk.know {V:VM} {j:Jx} {p x:Int} (O:JobOk True V j) (hx:0≤x∧x<18446744073709551616):JobOk True (z6 V p x).2 j:=by
 cases j with
 |prog q=>exact⟨O.1,O.2.1,O.2.2.1,λ_=>⟨qxc (O.2.2.2.1 trivial).1 hx,(O.2.2.2.1 trivial).2.1,(O.2.2.2.1 trivial).2.2.1,by rw[wN.1];exact(O.2.2.2.1 trivial).2.2.2⟩,O.2.2.2.2⟩
 |sweep bs k=>exact O
theorem KQ {f:Qb} (h:0≤f.word∧f.word<18446744073709551616):0≤yy f∧yy f<18446744073709551616:=by
 unfold yy
 split
 ·omega
 ·exact h
theorem KY {f:Qb} {a:AnM} (h:0≤f.word∧f.word<18446744073709551616) (ha:X8 a):0≤(xT f a).word∧(xT f a).word<18446744073709551616:=by
 unfold xT J3
 repeat' split
 all_goals first |exact h |exact ha
theorem kK.fetched {x:jQ} (B:kK x) (hj:JobOk True x.v x.job) (hn:1≤x.v.need∧x.v.need<x.v.sz∧zj x.v.need x.v.K=none) (hc:x.c=none) (hw:0≤x.f.word∧x.f.word<18446744073709551616):zl (yg x):=by
 unfold yg
 split
 ·exact B.later hc (.inl rfl) λ_=>⟨hj,hn⟩
 ·have hx:=KQ hw
  split
  ·refine kK.work ?_ (hj.know hx) hc;exact⟨B.set,Xw B.good hx,by show((z6 x.v x.v.need (yy x.f)).2.sz:Int)=_;rw[wN.2];exact B.sz,by show frS (z6 x.v x.v.need (yy x.f)).2.lv<9000;rw[wN.1];exact B.fr,Gv B.r,(hj.know hx).same λh=>h.elim,B.c⟩
  ·split<;>exact B.out
theorem Vf {x:jQ} (O:zl x):zl (z8 x):=by
 unfold z8
 split
 ·split
  ·exact⟨O.set,O.good,O.sz,O.fr,O.r,O.job,O.st,O.f,O.need,O.e,O.c,O.c0,O.c6⟩
  ·exact O
 ·exact O
theorem O0 {x:jQ} (O:zl x) (h3:3≤x.state) (h6:x.state≤6):zl (yG x):=by
 unfold yG
 split
 ·rename_i hs;exact O.b.fetched (O.job.same λ_=>by omega) (O.need omQ omQ) (O.c0 omQ) (O.f hs).2
 ·split
  ·rename_i hs;exact kK.ask (x:={ x with stamp:=gP x.e }) ⟨O.set,O.good,O.sz,O.fr,O.r,O.job.dead not_false,O.c⟩ (O.job.same λ_=>by omega) (O.need omQ omQ) (O.c0 omQ)
  ·split
   ·exact kK.out (x:={ x with stamp:=gP x.e }) ⟨O.set,O.good,O.sz,O.fr,O.r,O.job.dead not_false,O.c⟩
   ·split
    ·exact O.b.out
    ·rename_i hc;exact absurd hc (O.c6 omQ)
def vQ (x:jQ):jQ:=if(xg x).1=0 then x else if(xg x).1=5 then xI x 5 0 (xg x).2 else yG x
theorem NZ {x:jQ} (O:zl x) (h3:3≤x.state) (h6:x.state≤6):zl (vQ x):=by
 unfold vQ
 split
 ·exact O
 ·split
  ·exact O.b.out
  ·exact O0 O h3 h6
theorem Ye {x:jQ} (O:zl x) (h3:3≤x.state) (h6:x.state≤6):zl (xe x):=Vf (NZ O h3 h6)
theorem KV {x:jQ} {a:AnM} (O:zl x) (ha:X8 a):zl (jb x a):=by
 have hst:=O.st;unfold jb
 split
 ·exact O
 ·split
  ·exact O.b.gone
  ·split
   ·exact⟨O.set,O.good,O.sz,O.fr,O.r,O.job.same λ_=>by omega,by show(0:Int)≤1∧(1:Int)≤8;decide,λh=>(by cases h),λh=>absurd h (by show¬(3:Int)≤1;decide),λh=>absurd h (by show¬(4:Int)≤1;decide),O.c,λ_=>O.c0 omQ,λh=>by cases h⟩
   ·split
    ·exact⟨O.set,O.good,O.sz,O.fr,O.r,O.job.same λ_=>by omega,by show(0:Int)≤2∧(2:Int)≤8;decide,λh=>(by cases h),λh=>absurd h (by show¬(3:Int)≤2;decide),λh=>absurd h (by show¬(4:Int)≤2;decide),O.c,λ_=>O.c0 omQ,λh=>by cases h⟩
    ·split
     ·exact O.b.work (O.job.same λ_=>by omega) (O.c0 omQ)
     ·split
      ·exact⟨O.set,O.good,O.sz,O.fr,O.r,O.job.dead (by show¬(8:Int)≤4;decide),by show(0:Int)≤8∧(8:Int)≤8;decide,λh=>(by cases h),λ_ h=>(by cases h),λ_ h=>(by cases h),O.c,λh=>(by cases h),λh=>by cases h⟩
      ·split
       ·rename_i hs;have hf:=O.f hs;refine Ye (x:={ x with f:=xT x.f a }) ?_ (by show 3≤x.state;omega) (by show x.state≤6;omega);exact⟨O.set,O.good,O.sz,O.fr,O.r,O.job,O.st,λ_=>⟨YC hf.1,KY hf.2 ha⟩,O.need,O.e,O.c,O.c0,O.c6⟩
       ·split
        ·rename_i hs;refine Ye (x:={ x with c:=x.c.map λc=>zw c a }) ?_ (by show 3≤x.state;omega) (by show x.state≤6;omega);refine⟨O.set,O.good,O.sz,O.fr,O.r,O.job,O.st,O.f,O.need,O.e,λc h=>?_,λh=>absurd h (by show¬x.state≤5;omega),λh hn=>O.c6 h ?_⟩
         ·obtain⟨c',h1,rfl⟩:=Option.map_eq_some_iff.1 h;exact Kz (O.c c' h1) ha
         ·exact Option.map_eq_none_iff.1 hn
        ·refine Ye (x:={ x with e:=x7 x.e a }) ?_ (by show 3≤x.state;omega) (by show x.state≤6;omega);exact⟨O.set,O.good,O.sz,O.fr,O.r,O.job,O.st,O.f,O.need,λh1 h2=>YP (O.e h1 h2),O.c,O.c0,O.c6⟩
theorem KX (w m:Int):jk (QR w m):=⟨qxe w m,λc hc=>(by cases hc),λx hx c hc=>by
 rcases List.mem_cons.1 hx with rfl |hx
 ·cases hc
 ·cases hx⟩
theorem OA {me:Int} {S:xw} {j:Jx} (O:gr S) (hj:JobOk True (QR S.words S.writes) j):zl (G8 me S j):=by have:=O.words;refine⟨O,KX _ _,?_,by show(0:Nat)<9000;decide,Nat.zero_le _,hj.same λ_=>trivial,by show(0:Int)≤0∧(0:Int)≤8;decide,λh=>(by cases h),λh=>absurd h (by show¬(3:Int)≤0;decide),λh=>absurd h (by show¬(4:Int)≤0;decide),λc h=>(by cases h),λ_=>rfl,λh=>by cases h⟩;show((szZ S.words:Nat):Int)=S.words;unfold szZ;omega
theorem U6 {me:Int} {S:xw} {l:List qR} (hs:0≤S.start) (hc:(xB l).2=0) (Q:Quiet l):zl (vh me S l):=by
 have O:=wG hs;refine OA O ?_;have G:=KX (jw S).words (jw S).writes;have hf:zv (jw S).fuel≤400:=by unfold zv;omega
 exact⟨QM hc,Q,(JA (l:=l) rfl G).gb,λ_=>⟨JA rfl G,rfl,rfl,by show(0:Nat)+zv (jw S).fuel<9000;omega⟩,hf⟩
theorem Zf {me:Int} {S:xw} {bs:List Int} (hs:0≤S.start) (hl:bs.length≤100000):zl (gB me S bs):=OA (wG hs) ⟨Nat.zero_le _,hl⟩
end Go.Proofs.YtnalffoigcmnnabGreatDoor
namespace Go.Proofs.YtnalffoigcmnnabGreatDoor
open Go Go.Ae
structure KU where
  thread:Int
  job:Int
  try_:Int
  sweep:Bool
  kind:Int
  err:Int
  begin_:Int
  stamp:Int
  born:Int
  ended:Int
  reads:List Cl
  cells:List Cl
  frees:List Int
  slate:List UInt8
structure KZ where
  kind:Int
  err:Int
  slate:List UInt8
  stamp:Int
abbrev Kv:Type:=Int×Int
structure jE where
  me:Int
  set:xw
  jobs:List (List qR)
  job:Int
  state:Int
  sweep:Bool
  giving:List Kv
  tries:Int
  conf:Int
  now:Option jQ
  born:Int
  alarm:Bool
  past:List KU
  results:List KZ
  rests:List Kv
  slots:List Int
  by_:Int
  since:Int
  yielding:Bool
  pauses:Int
def xc (x:jQ):Int:=if x.state≠8 then 0 else x.err
def QQ (x:jQ):Int:=if x.state≠8 then-1 else x.by_
def zp (t:jE):jE :=
 if t.job=(t.jobs.length:Int)then{ t with born:=0,alarm:=false,state:=6,now:=none }
 else{ t with born:=0,alarm:=false,state:=1,now:=some (if t.sweep=true then gB t.me t.set (t.giving.map (·.1))else vh t.me t.set ((t.jobs[t.job.toNat]?).getD [])) }
def zY (t:jE):jE:=zp { t with job:=t.job+1,sweep:=false,giving:=[],tries:=0,conf:=0 }
def UA (me:Int) (s:xw) (jobs:List (List qR)):jE :=
 zY ⟨max 0 (min me ((jw s).threads-1)),jw s,jobs.take 6,-1,0,false,[],0,0,none,0,false,[],[],[],[],0,0,false,0⟩
def yt (t:jE):Option OpM:=if t.state=1 then t.now.bind xq else if t.state=2 then some (op0 8 t.by_ 0)else if t.state=5 then some (op0 8 t.slots.length 0)else none
def jP (t:jE) (x:jQ) (pick:Int):KU :=
 ⟨t.me,t.job,t.tries,t.sweep,if zP x=true then 2 else jc x,xc x,x.begin_,x.stamp,t.born,pick,x.v.K,Y8 x,zD x,zE x⟩
def vI (conf:Int):Int:=if conf≤0 then 1 else if conf=1 then 2 else if conf=2 then 4 else 8
def xP (t:jE) (draw:Int):jE :=
 if draw%(vI t.conf+1)=0 then zp { t with pauses:=0,state:=3 }else{ t with pauses:=draw%(vI t.conf+1),state:=3 }
def q9 (slots:List Int) (stamp:Int):Bool:=slots.all λx=>decide (x=0∨stamp<x)
def vK (t:jE):jE :=
 if(t.slots.length:Int)<t.set.threads then t
 else if(t.rests.filter λr=>q9 t.slots r.2)=[]then zY { t with rests:=t.rests.filter λr=>!q9 t.slots r.2 }
 else zp { t with rests:=t.rests.filter (λr=>!q9 t.slots r.2),sweep:=true,giving:=t.rests.filter (λr=>q9 t.slots r.2),tries:=0,conf:=0 }
def yr (t:jE):jE:=vK (if(t.slots.length:Int)=t.me then{ t with slots:=t.slots++[0] }else t)
def vy (t:jE):jE:=if t.rests=[]then zY t else yr { t with state:=5,slots:=[] }
def vL (t:jE) (fin:Int):jE:=zY (if fin=4 then{ t with rests:=t.rests++t.giving }else t)
def xJ (t:jE) (x:jQ) (draw pick:Int):jE :=
 let u:={ t with past:=t.past++[jP t x pick],tries:=t.tries+1 }
 if jc x=5 then
  (if 0≤QQ x∧QQ x<t.set.threads then{ u with conf:=u.conf+1,state:=2,by_:=QQ x,yielding:=false }else xP { u with conf:=u.conf+1 } draw)
 else if jc x=3 then(if u.alarm=true then zp u else{ u with state:=4 })
 else if u.sweep=true then vL u (jc x)
 else vy { u with results:=u.results++[⟨jc x,xc x,zE x,x.stamp⟩],rests:=u.rests++(zD x).map λb=>(b,x.stamp) }
def kz (t:jE) (x y:jQ) (draw pick:Int):jE :=
 let u:={ t with now:=some y,born:=if y.begun=true∧x.begun=false then pick else t.born }
 if jc y=0 then u else xJ u y draw pick
def xH (t:jE) (a:AnM) (draw pick:Int):jE :=
 if t.state=1 then(match t.now with
  |none=>t
  |some x=>kz t x (jb x a) draw pick)
 else if t.state=2 then(if a.err=0∧a.word≠0∧(t.yielding=false∨a.word=t.since)then{ t with yielding:=true,since:=a.word }else xP t draw)
 else if t.state=5 then yr { t with slots:=t.slots++[if a.err≠0 then 0 else a.word] }
 else t
structure MacM where
  s:xw
  m:jL
  t:List jE
  picks:Int
  last:OpM
  did:Bool
def Xj (S:xw):jL:=⟨List.replicate S.words.toNat 0,List.replicate S.stripes.toNat lk0,S.start,List.replicate S.threads.toNat 0,0⟩
end Go.Proofs.YtnalffoigcmnnabGreatDoor
