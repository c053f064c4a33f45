/- Lemmas for 'quietus/quietuslaw26.AttemptAlone': Transactions step by step: plain, as the program has them;The memory: by the program;Patience, a fetch: by the program;The memorys operations: by the ... No condition. -/
import Derived.Test.YtnalffoigcmnnaaGreatDoorAttemptAloneM2
import Derived.Test.YtnalffoigcmnnaaGreatDoorAttemptAloneX
namespace Go.Proofs.YtnalffoigcmnnaaGreatDoor
open Go Go.Ae
abbrev LkM:Type:=Int×Bool×Int
structure OpM where
  kind:Int
  at_:Int
  old:Int
  word:Int
  was:LkM
  lk:LkM
structure AnM where
  word:Int
  lk:LkM
  done:Bool
  err:Int
structure js where
  w:List Int
  l:List LkM
  n:Int
  s:List Int
  cnt:Int
def lk0:LkM:=(0,false,0)
def op0 (kind at_ word:Int):OpM:=⟨kind,at_,0,word,lk0,lk0⟩
def an0:AnM:=⟨0,lk0,false,0⟩
def anE (e:Int):AnM:=⟨0,lk0,false,e⟩
def YA (l:LkM):Prop:=l.1<4611686018427387904∧(if l.2.1=true then 0≤l.2.2∧l.2.2<4 else l.2.2=0)
instance {l:LkM}:Decidable (YA l):=by unfold YA;infer_instance
def jh (l:List LkM) (i:Int):LkM:=(l[i.toNat]?).getD lk0
def J5 (m:js) (o:OpM):AnM×js :=
 if o.at_<1∨(m.w.length:Int)≤o.at_ then(anE 2,m)else if o.kind=1 then(⟨qB m.w o.at_,lk0,false,0⟩,m)else(an0,{ m with w:=m.w.set o.at_.toNat o.word })
def kT (m:js) (o:OpM):AnM×js :=
 if o.at_<0∨(m.l.length:Int)≤o.at_ then(anE 2,m)
 else if o.kind=3 then(⟨0,jh m.l o.at_,false,0⟩,m)
 else if¬YA o.lk then(anE 1,m)
 else if o.kind=5 then(an0,{ m with l:=m.l.set o.at_.toNat o.lk })
 else if jh m.l o.at_≠o.was then(an0,m)
 else(⟨0,lk0,true,0⟩,{ m with l:=m.l.set o.at_.toNat o.lk })
def J4 (m:js) (o:OpM):AnM×js :=
 if o.kind=6 then(⟨m.n,lk0,false,0⟩,m)
 else if o.word≤o.old then(anE 1,m)
 else if 4611686018427387904≤o.word then(anE 7,m)
 else if m.n≠o.old then(an0,m)
 else(⟨0,lk0,true,0⟩,{ m with n:=o.word })
def Ys (m:js) (o:OpM):AnM×js :=
 if o.at_<0∨(m.s.length:Int)≤o.at_ then(anE 2,m)else if o.kind=8 then(⟨qB m.s o.at_,lk0,false,0⟩,m)else(an0,{ m with s:=m.s.set o.at_.toNat o.word })
def xW (m:js) (o:OpM):AnM×js :=
 let r:=if o.kind=1∨o.kind=2 then J5 m o else if o.kind=3∨o.kind=4∨o.kind=5 then kT m o else if o.kind=6∨o.kind=7 then J4 m o else if o.kind=8∨o.kind=9 then Ys m o else(anE 1,m)
 if r.1.err=0 then(r.1,{ r.2 with cnt:=r.2.cnt+1 })else r
def ofM (at_ n wide:Int):Int:=if at_<0 then-1 else(at_/max 1 (min wide 16))%max 1 (min n 16)
def zr (cs:List Cl) (n wide:Int):List Int:=((List.range 16).map λi:Nat=>(i:Int)).filter λs=>cs.any λc=>decide (ofM c.1 n wide=s)
structure Qw where
  me:Int
  spins:Int
  fin:Int
  by_:Int
  err:Int
def kR (me spins:Int):Qw:=⟨me,max 0 (min spins 4),0,-1,0⟩
def jS (p:Qw) (l:LkM):Bool×Qw:=if p.me<l.2.2 then(true,p)else(decide (0≤p.spins-1),{ p with spins:=p.spins-1 })
def jn (p:Qw) (fin err by_:Int):Qw:={ p with fin:=fin,err:=err,by_:=by_ }
def qn (p:Qw) (a:AnM):Bool×Qw:=if p.fin=0∧a.err≠0 then(true,jn p 4 a.err (-1))else(decide (p.fin≠0),p)
abbrev xG:Type:=Int×Int
structure ki where
  p:Qw
  at_:Int
  stripe:Int
  stamp:Int
  state:Int
  lk:LkM
  word:Int
def kY (me at_ stripe spins stamp:Int):ki:=⟨kR me spins,at_,stripe,stamp,0,lk0,0⟩
def Gn (f:ki):Option OpM:=if f.p.fin≠0 then none else if f.state=1 then some (op0 1 f.at_ 0)else some (op0 3 f.stripe 0)
def Qs (f:ki) (l:LkM):ki :=
 if l.2.1=true then(if(jS f.p l).1=true then{ f with state:=0,p:=(jS f.p l).2 }else{ f with state:=0,p:=jn (jS f.p l).2 5 0 l.2.2 })
 else if f.stamp<l.1 then{ f with state:=0,p:=jn f.p 6 0 (-1) }
 else{ f with lk:=l,state:=1 }
def xD (f:ki) (a:AnM):ki :=
 if(qn f.p a).1=true then{ f with p:=(qn f.p a).2 }
 else if f.state=1 then{ f with word:=a.word,state:=2 }
 else if f.state=2∧a.lk=f.lk then{ f with p:=jn f.p 2 0 (-1) }
 else Qs f a.lk
def yX (f:ki):Int:=if f.p.fin≠2 then 0 else f.word
def ye (f:ki):xG:=if f.p.fin≠2 then(0,0)else(f.stripe,f.lk.1)
structure kP where
  p:Qw
  seen:List xG
  loaded:Bool
  at_:Int
  stamp:Int
def UA (me spins:Int) (seen:List xG):kP:=⟨kR me spins,seen,false,0,0⟩
def zC (l:List xG) (i:Int):xG:=(l[i.toNat]?).getD (0,0)
def QY (x:kP):Option OpM:=if x.p.fin≠0 then none else if x.loaded=false then some (op0 6 0 0)else some (op0 3 (zC x.seen x.at_).1 0)
def QU (x:kP):kP:=if x.at_=(x.seen.length:Int)then{ x with p:=jn x.p 2 0 (-1) }else x
def xU (x:kP) (a:AnM):kP :=
 if(qn x.p a).1=true then{ x with p:=(qn x.p a).2 }
 else if x.loaded=false then QU { x with loaded:=true,stamp:=a.word }
 else if a.lk.2.1=true then(if(jS x.p a.lk).1=true then{ x with p:=(jS x.p a.lk).2 }else{ x with p:=jn (jS x.p a.lk).2 5 0 a.lk.2.2 })
 else if a.lk.1≠(zC x.seen x.at_).2 then{ x with p:=jn x.p 5 0 (-1) }
 else QU { x with at_:=x.at_+1 }
def ve (x:kP):Int:=if x.p.fin≠2 then 0 else x.stamp
structure ju where
  p:Qw
  me:Int
  stamp:Int
  seen:List xG
  cells:List Cl
  s:List Int
  was:List LkM
  state:Int
  at_:Int
  lk:LkM
  now:Int
  writing:Bool
  fin2:Int
  by2:Int
  err2:Int
def ky (c:ju):ju:={ c with state:=if c.was.length=c.s.length then 2 else 0 }
def Qi (me spins stamp:Int) (seen:List xG) (cells:List Cl) (n wide:Int):ju :=
 ky ⟨kR me spins,me,stamp,seen,cells,zr cells n wide,[],0,0,lk0,0,false,0,0,0⟩
def wz (l:List Cl) (i:Int):Cl:=(l[i.toNat]?).getD (0,0)
def xC (c:ju):Option OpM :=
 if c.p.fin≠0 then none
 else if c.state=0 then some (op0 3 (qB c.s c.was.length) 0)
 else if c.state=1 then some ⟨4,qB c.s c.was.length,0,0,c.lk,(c.lk.1,true,c.me)⟩
 else if c.state=2 then some (op0 6 0 0)
 else if c.state=3 then some ⟨7,0,c.now,c.now+1,lk0,lk0⟩
 else if c.state=4 then some (op0 3 (zC c.seen c.at_).1 0)
 else if c.state=5 then some (op0 2 (wz c.cells c.at_).1 (wz c.cells c.at_).2)
 else if c.state=6 then some ⟨5,qB c.s c.at_,0,0,lk0,(c.now+1,false,0)⟩
 else some ⟨5,qB c.s c.at_,0,0,lk0,jh c.was c.at_⟩
def vh (c:ju):ju:=if c.at_=(c.was.length:Int)then{ c with p:=jn c.p c.fin2 c.err2 c.by2 }else c
def wD (c:ju) (fin err by_:Int):ju:=vh { c with fin2:=fin,err2:=err,by2:=by_,at_:=0,state:=7 }
def kL (c:ju) (l:LkM):ju:=if(jS c.p l).1=true then{ c with p:=(jS c.p l).2 }else wD { c with p:=(jS c.p l).2 } 5 0 l.2.2
def ya (c:ju):ju:=if c.at_=(c.s.length:Int)then{ c with p:=jn c.p 2 0 (-1) }else c
def yE (c:ju):ju:=if c.at_=(c.cells.length:Int)then ya { c with at_:=0,state:=6 }else c
def g9 (c:ju):ju:=yE { c with writing:=true,at_:=0,state:=5 }
def ownM:List Int→List LkM→Int→Option Int
 |s::r,w::q,x=>if s=x then some w.1 else ownM r q x
 |_,_,_=>none
def vy (c:ju):Nat→ju
 | 0=>g9 c
 |n+1=>
  if c.at_<(c.seen.length:Int)then
   (match ownM c.s c.was (zC c.seen c.at_).1 with
   |none=>c
   |some v=>if v≠(zC c.seen c.at_).2 then wD c 5 0 (-1)else vy { c with at_:=c.at_+1 } n)
  else g9 c
def kl (c:ju):ju:=vy { c with state:=4 } (c.seen.length+1)
def wI (c:ju) (a:AnM):ju :=
 if c.state=0∧a.lk.2.1=true then kL c a.lk
 else if c.state=0 then{ c with lk:=a.lk,state:=1 }
 else if a.done=true then ky { c with was:=c.was++[c.lk] }
 else{ c with state:=0 }
def gZ (c:ju) (a:AnM):ju :=
 if c.state=2∧4611686018427387903≤a.word then wD c 4 7 (-1)
 else if c.state=2 then{ c with now:=a.word,state:=3 }
 else if a.done=false then{ c with state:=2 }
 else if c.now=c.stamp then g9 c
 else kl c
def gg (c:ju) (l:LkM):ju :=
 if l.2.1=true then kL c l
 else if l.1≠(zC c.seen c.at_).2 then wD c 5 0 (-1)
 else kl { c with at_:=c.at_+1 }
def zV (c:ju) (a:AnM):ju :=
 if(qn c.p a).1=true then{ c with p:=(qn c.p a).2 }
 else if c.state=0∨c.state=1 then wI c a
 else if c.state=2∨c.state=3 then gZ c a
 else if c.state=4 then gg c a.lk
 else if c.state=5 then yE { c with at_:=c.at_+1 }
 else if c.state=6 then ya { c with at_:=c.at_+1 }
 else vh { c with at_:=c.at_+1 }
def vO (c:ju):Int:=if c.writing=false then 0 else c.now+1
def gC (c:ju):Bool:=c.writing&&decide (c.p.fin=0)
structure yv where
  words:Int
  stripes:Int
  wide:Int
  threads:Int
  start:Int
  spins:Int
  writes:Int
  fuel:Int
def kb (n lo hi:Int):Int:=max lo (min n hi)
def jf (s:yv):yv:=⟨kb s.words 32 256,kb s.stripes 1 16,kb s.wide 1 16,kb s.threads 1 4,min s.start 4611686018427387903,kb s.spins 0 4,kb s.writes 0 96,kb s.fuel 0 400⟩
structure RunS where
  l:List qS
  s:IM
  fin:Int
  err:Int
  left:Nat
inductive Qa where
  |prog (r:RunS)
  |sweep (blocks:List Int) (k:Nat)
structure jG where
  me:Int
  set:yv
  job:Qa
  v:VM
  r:List xG
  state:Int
  f:ki
  e:kP
  c:Option ju
  begun:Bool
  begin_:Int
  stamp:Int
  fin:Int
  by_:Int
  err:Int
  blocking:Bool
def GF (me:Int) (S:yv) (job:Qa):jG:=⟨me,S,job,Xg S.words S.writes,[],0,kY 0 0 0 0 0,UA 0 0 [],none,false,0,0,0,-1,0,false⟩
def Jp (me:Int) (S:yv) (l:List qS):jG:=GF me (jf S) (.prog ⟨l,J7,0,0,jd (jf S).fuel⟩)
def z8 (x:jG):Option OpM :=
 if x.state=0 then some (op0 9 x.me 1)
 else if x.state=1 then some (op0 6 0 0)
 else if x.state=2 then some (op0 9 x.me (j6 .u64 (x.stamp+1)))
 else if x.state=7 then some (op0 9 x.me 0)
 else if x.state=8 then none
 else if x.state=3 then Gn x.f
 else if x.state=6 then x.c.bind xC
 else QY x.e
def xK (x:jG) (fin err by_:Int):jG:={ x with fin:=fin,err:=err,by_:=by_,state:=7 }
def QA (x:jG) (at_:Int):jG:={ x with state:=3,f:=kY x.me at_ (ofM at_ x.set.stripes x.set.wide) x.set.spins x.stamp }
def yY (x:jG) (state:Int):jG:={ x with state:=state,e:=UA x.me x.set.spins x.r }
def jg:VM→List Int→Nat→(Nat×Int)×VM
 |V,[],k=>((k,0),V)
 |V,b::r,k=>if(zv V b).1=0 then jg (zv V b).2 r (k+1)else((k,(zv V b).1),(zv V b).2)
def yR (x:jG):(Int×Int)×jG:=match x.job with
 | .sweep bs k=>(if(jg x.v (bs.drop k) k).1.2=11 then(1,0)else if(jg x.v (bs.drop k) k).1.2=0 then(2,0)else(4,(jg x.v (bs.drop k) k).1.2),{ x with job:=.sweep bs (jg x.v (bs.drop k) k).1.1,v:=(jg x.v (bs.drop k) k).2 })
 | .prog q=>(((jZ q.l (qA q.l) q.left q.s x.v).kind,(jZ q.l (qA q.l) q.left q.s x.v).err),{ x with
   job:=.prog ⟨q.l,(jZ q.l (qA q.l) q.left q.s x.v).s,if(jZ q.l (qA q.l) q.left q.s x.v).kind=1 then 0 else(jZ q.l (qA q.l) q.left q.s x.v).kind,(jZ q.l (qA q.l) q.left q.s x.v).err,(jZ q.l (qA q.l) q.left q.s x.v).left⟩,
   v:=(jZ q.l (qA q.l) q.left q.s x.v).v })
def ge (x:jG) (k e:Int):jG :=
 if k=1 then QA x x.v.need
 else if k=3 then yY { x with blocking:=true } 5
 else if k=4 then xK x 4 e (-1)
 else if jV x.v.lv=[]then xK x 2 0 (-1)
 else{ x with state:=6,c:=some (Qi x.me x.set.spins x.stamp x.r (jV x.v.lv) x.set.stripes x.set.wide) }
def xO (x:jG):jG:=ge (yR x).2 (yR x).1.1 (yR x).1.2
def wk (r:List xG) (x:xG):Int×List xG :=
 if x.1<0∨16≤x.1∨4611686018427387904≤x.2 then(1,r)
 else match r.find? λy=>decide (y.1=x.1)with
  |some y=>if y.2≠x.2 then(14,r)else(0,r)
  |none=>if r.length=16 then(5,r)else(0,r++[x])
def yH (x:jG):jG :=
 if x.f.p.fin=6 then yY x 4
 else if(wk x.r (ye x.f)).1=0 then xO { x with r:=(wk x.r (ye x.f)).2,v:=(zP x.v x.v.need (yX x.f)).2 }
 else if(wk x.r (ye x.f)).1=14 then xK x 5 0 (-1)
 else xK x 4 (wk x.r (ye x.f)).1 (-1)
def zi (x:jG):Int×Int:=if x.state=3 then(x.f.p.fin,x.f.p.by_)else if x.state=6 then(match x.c with |some c=>(c.p.fin,c.p.by_) |none=>(0,0))else(x.e.p.fin,x.e.p.by_)
def xp (x:jG):jG :=
 if x.state=3 then yH x
 else if x.state=4 then QA { x with stamp:=ve x.e } x.v.need
 else if x.state=5 then xK { x with stamp:=ve x.e } 3 0 (-1)
 else match x.c with |some c=>xK x c.p.fin c.p.err (-1) |none=>x
def zm (x:jG):Bool:=decide (x.state≠8)&&(match x.c with |some c=>gC c||decide (c.p.fin=2) |none=>false)
def xV (x:jG):jG:=if zm x=true then(match x.c with |some c=>{ x with stamp:=vO c } |none=>x)else x
def xd (x:jG):jG:=xV (if(zi x).1=0 then x else if(zi x).1=5 then xK x 5 0 (zi x).2 else xp x)
def xB (x:jG) (a:AnM):jG :=
 if x.state=8 then x
 else if a.err≠0 then{ xK x 4 a.err (-1)with state:=8 }
 else if x.state=0 then{ x with state:=1 }
 else if x.state=1 then{ x with begun:=true,begin_:=a.word,stamp:=a.word,state:=2 }
 else if x.state=2 then xO x
 else if x.state=7 then{ x with state:=8 }
 else if x.state=3 then xd { x with f:=xD x.f a }
 else if x.state=6 then xd { x with c:=x.c.map λc=>zV c a }
 else xd { x with e:=xU x.e a }
def YR (x:jG):Int:=if x.state≠8 then 0 else x.fin
def zo (x:jG):Bool:=decide (YR x=2)||zm x
def Q3 (x:jG):List Cl:=if zo x=true then jV x.v.lv else[]
def JX (x:jG):List Int:=if zo x=true then(match x.job with | .sweep bs _=>bs | .prog _=>vz x.v.lv)else[]
def Xt (x:jG):List UInt8:=if zo x=true then(match x.job with | .sweep _ _=>[] | .prog q=>Nv q.s.out)else[]
end Go.Proofs.YtnalffoigcmnnaaGreatDoor
namespace Go.Proofs.YtnalffoigcmnnaaGreatDoor
open Go Go.Ae
set_option maxRecDepth 100000
variable {g h:AH} {L R:List SP}
def ji (l:LkM):List AV:=[.int .u64 l.1,.bool l.2.1,.int .i64 l.2.2]
def ym (o:OpM):List AV:=[.int .i64 o.kind,.int .i64 o.at_,.int .u64 o.old,.int .u64 o.word,.int .u64 o.was.1,.bool o.was.2.1,.int .i64 o.was.2.2,.int .u64 o.lk.1,.bool o.lk.2.1,.int .i64 o.lk.2.2]
def xq (a:AnM):List AV:=[.int .u64 a.word,.int .u64 a.lk.1,.bool a.lk.2.1,.int .i64 a.lk.2.2,.bool a.done,.int .i64 a.err]
theorem qqN {l:List LkM} {k:Nat} (hk:k<l.length):l[k]? =some (jh l (k:Int)):=by unfold jh;rw[Int.toNat_natCast,iW hk];rfl
theorem Ku {l:List LkM} {k:Nat} (hk:k<l.length):((l.flatMap ji).drop (k*3)).take 3=ji (jh l (k:Int)):=kg (sz:=3) (enc:=ji) (λ_=>rfl) (qqN hk)
section
variable {n b m:Nat} {v:AV} {a:Int} {e:TypeId} {xs:List AV} {R2:List SP}
theorem Vo {w o:Int}:YA (w,true,o)↔w<4611686018427387904∧0≤o∧o<4:=by unfold YA;simp
theorem MR {w o:Int}:YA (w,false,o)↔w<4611686018427387904∧o=0:=by unfold YA;simp
theorem qqa {o:Int} (hn:1≤n):t_w n 185 [.int .i64 o] h λr h'=>r=.bool (decide (0≤o∧o<4))∧h'=h:=by
 refine t_e1 (S:=S185) rfl omQ λk hk=>?_;unfold S185;try simp only[iZ]
 refine xT (λc2=>?_) (λc2=>?_)
 ·refine qV ?_;(try dsimp only);refine qR ?_;(try dsimp only)
  refine jt (λc3=>?_) (λc3=>?_)
  ·refine qC ?_;exact qY ⟨by rw[iG omQ],rfl⟩
  ·refine qC ?_;exact qY ⟨by rw[iV omQ],rfl⟩
 ·refine qV ?_;(try dsimp only);refine qT ?_;(try dsimp only);refine qF ?_
  exact qY ⟨by rw[iV omQ],rfl⟩
theorem qxo (hn:2≤n) {l:LkM} (H:HS g h R):t_w n 137 [.agg (ji l)] h λr h'=>r=.bool (decide (YA l))∧HS g h' R:=by
 refine t_e1 (S:=S137) rfl omQ λk hk=>?_;unfold S137;try simp only[iZ]
 obtain⟨w,d,o⟩:=l;refine qM H rfl λb h1 H1=>?_;have H1:HS g h1 (qk b [.int .u64 w,.bool d,.int .i64 o]::R):=H1;refine qQ (qG ‹_› .here rfl ?_);cases d with
 |true=>
  refine qX (qQ (qG ‹_› .here rfl ?_));refine jt (λc1=>?_) (λc1=>?_)
  ·refine qV ?_;(try dsimp only);refine qR ?_;(try dsimp only);refine qQ (qG ‹_› .here rfl ?_)
   refine qW (qqa omQ) ?_;rintro _ _ ⟨rfl,rfl⟩;refine qC (qY ⟨?_,H1.drop⟩);by_cases hc:0≤o∧o<4
   ·rw[iG hc,iG (Vo.2 ⟨by omega,hc⟩)]
   ·rw[iV hc,iV (λh=>hc (Vo.1 h).2)]
  ·refine qV ?_;(try dsimp only);refine qT ?_;(try dsimp only);refine qF ?_
   exact qY ⟨by rw[iV (λh=>by have:=(Vo.1 h).1;omega)],H1.drop⟩
 |false=>
  refine qJ (qQ (qG ‹_› .here rfl ?_));refine jt (λc1=>?_) (λc1=>?_)
  ·refine qV ?_;(try dsimp only);refine qR ?_;(try dsimp only);refine qQ (qG ‹_› .here rfl ?_)
   refine vq (λc2=>?_) (λc2=>?_)
   ·refine qC ?_;exact qY ⟨by rw[iG (MR.2 omQ)],H1.drop⟩
   ·refine qC ?_;exact qY ⟨by rw[iV (λh=>by have:=(MR.1 h).2;omega)],H1.drop⟩
  ·refine qV ?_;(try dsimp only);refine qT ?_;(try dsimp only);refine qF ?_
   exact qY ⟨by rw[iV (λh=>by have:=(MR.1 h).1;omega)],H1.drop⟩
theorem qG3 (hn:1≤n) (H:HS g h L) (s:Sel L (qk b [v]) R) (s2:Sel L (qD e 1 m v xs) R2) :
  t_w n 99 [.ptr b 0,.int .i64 a] h λr h'=>r=.bool (decide (1≤a∧a<m))∧h'=h:=by
 refine t_e2 (S:=S99) rfl omQ λk hk=>?_;unfold S99;try simp only[iZ]
 refine xT (λh1=>?_) (λh1=>?_)
 ·refine qV ?_;(try dsimp only);refine qR ?_;(try dsimp only);refine qq (qQ ?_)
  refine qG H s rfl ?_;refine qs H s2 ?_;refine jt (λh2=>?_) (λh2=>?_)
  ·refine qC ?_;exact qY ⟨by rw[iG omQ],rfl⟩
  ·refine qC ?_;exact qY ⟨by rw[iV omQ],rfl⟩
 ·refine qV ?_;(try dsimp only);refine qT ?_;(try dsimp only);refine qF ?_
  exact qY ⟨by rw[iV omQ],rfl⟩
theorem qVl (hn:1≤n) (H:HS g h L) (s:Sel L (qk b [v]) R) (s2:Sel L (qD e 1 m v xs) R2) :
  t_w n 102 [.ptr b 0,.int .i64 a] h λr h'=>r=.bool (decide (0≤a∧a<m))∧h'=h:=by
 refine t_e2 (S:=S102) rfl omQ λk hk=>?_;unfold S102;try simp only[iZ]
 refine xT (λh1=>?_) (λh1=>?_)
 ·refine qV ?_;(try dsimp only);refine qR ?_;(try dsimp only);refine qq (qQ ?_)
  refine qG H s rfl ?_;refine qs H s2 ?_;refine jt (λh2=>?_) (λh2=>?_)
  ·refine qC ?_;exact qY ⟨by rw[iG omQ],rfl⟩
  ·refine qC ?_;exact qY ⟨by rw[iV omQ],rfl⟩
 ·refine qV ?_;(try dsimp only);refine qT ?_;(try dsimp only);refine qF ?_
  exact qY ⟨by rw[iV omQ],rfl⟩
theorem qKT (hn:1≤n) {wd:AV} (H:HS g h L) (s:Sel L (qk b [v,wd]) R) (s2:Sel L (qD e 3 m v xs) R2) :
  t_w n 100 [.ptr b 0,.int .i64 a] h λr h'=>r=.bool (decide (0≤a∧a<m))∧h'=h:=by
 refine t_e2 (S:=S100) rfl omQ λk hk=>?_;unfold S100;try simp only[iZ]
 refine xT (λh1=>?_) (λh1=>?_)
 ·refine qV ?_;(try dsimp only);refine qR ?_;(try dsimp only);refine qq (qQ ?_)
  refine qG H s rfl ?_;refine qs H s2 ?_;refine jt (λh2=>?_) (λh2=>?_)
  ·refine qC ?_;exact qY ⟨by rw[iG omQ],rfl⟩
  ·refine qC ?_;exact qY ⟨by rw[iV omQ],rfl⟩
 ·refine qV ?_;(try dsimp only);refine qT ?_;(try dsimp only);refine qF ?_
  exact qY ⟨by rw[iV omQ],rfl⟩
theorem qK6 {ws:List Int} (hn:2≤n) (H:HS g h L) (s:Sel L (qk b [v]) R) (s2:Sel L (qD e 1 ws.length v (ws.map (.int .u64))) R2) :
  t_w n 64 [.ptr b 0,.int .i64 a] h λr h'=>r=.tup [.int .u64 (if 1≤a∧a<ws.length then qB ws a else 0),.int .i64 (if 1≤a∧a<ws.length then 0 else 2)]∧h'=h:=by
 refine t_e2 (S:=S64) rfl omQ λk hk=>?_;unfold S64;try simp only[iZ]
 refine qW (qG3 omQ H s s2) ?_;rintro _ _ ⟨rfl,rfl⟩;by_cases hc:1≤a∧a<ws.length
 ·rw[iG hc,iJ hc,iJ hc];obtain⟨k,rfl⟩:∃k:Nat,a=k:=⟨a.toNat,by omega⟩;refine qu (qJ (qq (qQ (qG H s rfl ?_))));refine jA (H.sl s2) (x:=.int .u64 (qB ws k)) (by rw[List.getElem?_map,vU omQ];rfl) ?_;exact qY ⟨rfl,rfl⟩
 ·rw[iV hc,iQ hc,iQ hc];refine jQ (qX ?_);exact qY ⟨rfl,rfl⟩
theorem qWA {ws:List Int} (hn:2≤n) (H:HS g h L) (s:Sel L (qk b [v]) R) (s2:Sel L (qD e 1 ws.length v (ws.map (.int .u64))) R2) :
  t_w n 70 [.ptr b 0,.int .i64 a] h λr h'=>r=.tup [.int .u64 (if 0≤a∧a<ws.length then qB ws a else 0),.int .i64 (if 0≤a∧a<ws.length then 0 else 2)]∧h'=h:=by
 refine t_e2 (S:=S70) rfl omQ λk hk=>?_;unfold S70;try simp only[iZ]
 refine qW (qVl omQ H s s2) ?_;rintro _ _ ⟨rfl,rfl⟩;by_cases hc:0≤a∧a<ws.length
 ·rw[iG hc,iJ hc,iJ hc];obtain⟨k,rfl⟩:∃k:Nat,a=k:=⟨a.toNat,by omega⟩;refine qu (qJ (qq (qQ (qG H s rfl ?_))));refine jA (H.sl s2) (x:=.int .u64 (qB ws k)) (by rw[List.getElem?_map,vU omQ];rfl) ?_;exact qY ⟨rfl,rfl⟩
 ·rw[iV hc,iQ hc,iQ hc];refine jQ (qX ?_);exact qY ⟨rfl,rfl⟩
theorem qJm {ws:List Int} {w:Int} (hn:2≤n) (H:HS g h (qk b [v]::qD e 1 ws.length v (ws.map (.int .u64))::R)) :
  t_w n 65 [.ptr b 0,.int .i64 a,.int .u64 w] h λr h'=>r=.int .i64 (if 1≤a∧a<ws.length then 0 else 2)∧
   HS g h' (qk b [v]::qD e 1 (if 1≤a∧a<ws.length then ws.set a.toNat w else ws).length v ((if 1≤a∧a<ws.length then ws.set a.toNat w else ws).map (.int .u64))::R):=by
 refine t_e3 (S:=S65) rfl omQ λk hk=>?_;unfold S65;try simp only[iZ]
 refine qW (qG3 omQ H .here e_1) ?_;rintro _ _ ⟨rfl,rfl⟩;by_cases hc:1≤a∧a<ws.length
 ·rw[iG hc];simp only[iJ hc];obtain⟨k,rfl⟩:∃k:Nat,a=k:=⟨a.toNat,by omega⟩;refine qu (qJ (qq (qQ (qG ‹_› .here rfl ?_))));refine gH (H.sel e_1) omQ ⟨rfl,rfl⟩ λh2 H2=>?_;rw[← List.map_set]at H2;exact qY ⟨rfl,by rw[List.length_set];exact H2.sub (.cons e_1 (.cons .here .refl))⟩
 ·rw[iV hc];simp only[iQ hc];refine jQ (qX ?_);exact qY ⟨rfl,H⟩
theorem qXR {ws:List Int} {w:Int} (hn:2≤n) (H:HS g h (qk b [v]::qD e 1 ws.length v (ws.map (.int .u64))::R)) :
  t_w n 71 [.ptr b 0,.int .i64 a,.int .u64 w] h λr h'=>r=.int .i64 (if 0≤a∧a<ws.length then 0 else 2)∧
   HS g h' (qk b [v]::qD e 1 (if 0≤a∧a<ws.length then ws.set a.toNat w else ws).length v ((if 0≤a∧a<ws.length then ws.set a.toNat w else ws).map (.int .u64))::R):=by
 refine t_e3 (S:=S71) rfl omQ λk hk=>?_;unfold S71;try simp only[iZ]
 refine qW (qVl omQ H .here e_1) ?_;rintro _ _ ⟨rfl,rfl⟩;by_cases hc:0≤a∧a<ws.length
 ·rw[iG hc];simp only[iJ hc];obtain⟨k,rfl⟩:∃k:Nat,a=k:=⟨a.toNat,by omega⟩;refine qu (qJ (qq (qQ (qG ‹_› .here rfl ?_))));refine gH (H.sel e_1) omQ ⟨rfl,rfl⟩ λh2 H2=>?_;rw[← List.map_set]at H2;exact qY ⟨rfl,by rw[List.length_set];exact H2.sub (.cons e_1 (.cons .here .refl))⟩
 ·rw[iV hc];simp only[iQ hc];refine jQ (qX ?_);exact qY ⟨rfl,H⟩
variable {ls:List LkM} {wd:AV}
theorem qV0 (hn:2≤n) (H:HS g h L) (s:Sel L (qk b [v,wd]) R) (s2:Sel L (qD e 3 ls.length v (ls.flatMap ji)) R2) :
  t_w n 66 [.ptr b 0,.int .i64 a] h λr h'=>r=.tup [.agg (ji (if 0≤a∧a<ls.length then jh ls a else lk0)),.int .i64 (if 0≤a∧a<ls.length then 0 else 2)]∧HS g h' L:=by
 refine t_e2 (S:=S66) rfl omQ λk hk=>?_;unfold S66;try simp only[iZ]
 refine qM H rfl λb0 h1 H1=>?_;refine qW (qKT omQ H1 (.there s) (.there s2)) ?_;rintro _ _ ⟨rfl,rfl⟩;by_cases hc:0≤a∧a<ls.length
 ·rw[iG hc,iJ hc,iJ hc];obtain⟨k,rfl⟩:∃k:Nat,a=k:=⟨a.toNat,by omega⟩;refine qu (qJ (qq (qQ (qG H1 (.there s) rfl ?_))));refine zf (l:=ji (jh ls k)) (H1.sl (.there s2)) omQ omQ (Ku omQ) ?_;refine qc H1 (b:=b0) .here rfl (by show 0+3≤3;omega) rfl λh2 H2=>?_;refine qE H2 (b:=b0) (off:=0) .here rfl omQ (l:=ji (jh ls k)) rfl ?_;exact qY ⟨rfl,H2.drop⟩
 ·rw[iV hc,iQ hc,iQ hc];refine jQ (qX (qI rfl ?_));refine qc H1 (b:=b0) .here rfl (by show 0+3≤3;omega) rfl λh2 H2=>?_;refine qE H2 (b:=b0) (off:=0) .here rfl omQ (l:=ji lk0) rfl ?_;exact qY ⟨rfl,H2.drop⟩
def w4 (n:Nat) (a:Int) (l:LkM):Int:=if 0≤a∧a<n then(if YA l then 0 else 1)else 2
theorem qQE {l:LkM} (hn:3≤n) (H:HS g h L) (s:Sel L (qk b [v,wd]) R) (s2:Sel L (qD e 3 m v xs) R2) :
  t_w n 101 [.ptr b 0,.int .i64 a,.agg (ji l)] h λr h'=>r=.int .i64 (w4 m a l)∧HS g h' L:=by
 refine t_e3 (S:=S101) rfl omQ λk hk=>?_;unfold S101;try simp only[iZ]
 unfold w4;refine qM H rfl λb0 h1 H1=>?_;refine qW (qKT omQ H1 (.there s) (.there s2)) ?_;rintro _ _ ⟨rfl,rfl⟩;by_cases hc:0≤a∧a<m
 ·rw[iG hc,iJ hc];refine qu (qJ (qE H1 (b:=b0) (off:=0) .here rfl omQ (l:=ji l) rfl ?_));refine qW (qxo omQ H1) ?_;rintro _ h2 ⟨rfl,H2⟩;by_cases hl:YA l
  ·rw[iG hl,iJ hl];refine qu (qJ ?_);exact qY ⟨rfl,H2.drop⟩
  ·rw[iV hl,iQ hl];refine jQ (qX ?_);exact qY ⟨rfl,H2.drop⟩
 ·rw[iV hc,iQ hc];refine jQ (qX ?_);exact qY ⟨rfl,H1.drop⟩
theorem qxI (x y:LkM):ze [.bas .int 0,.bas .bool 1,.bas .int 2] (ji x) (ji y)=some (decide (x=y)):=by obtain⟨a,b,c⟩:=x;obtain⟨a',b',c'⟩:=y;show(bif ieq a a' then(bif b==b' then(bif ieq c c' then some true else some false)else some false)else some false)=_;rw[kB,kB];by_cases h1:a=a'<;>by_cases h3:c=c'<;>cases b<;>cases b'<;>simp[h1,h3]
theorem qjb {was l:LkM} (hn:4≤n) (H:HS g h (qk b [v,wd]::qD e 3 ls.length v (ls.flatMap ji)::R)) :
  t_w n 67 [.ptr b 0,.int .i64 a,.agg (ji was),.agg (ji l)] h λr h'=>r=.tup [.bool (decide (w4 ls.length a l=0∧jh ls a=was)),.int .i64 (w4 ls.length a l)]∧
   HS g h' (qk b [v,wd]::qD e 3 (if w4 ls.length a l=0∧jh ls a=was then ls.set a.toNat l else ls).length v ((if w4 ls.length a l=0∧jh ls a=was then ls.set a.toNat l else ls).flatMap ji)::R):=by
 (refine qy (g:=W67) rfl omQ λk hk=>?_;show wp (S67 (callT tab qj k) _ _ _ _ _) _;unfold S67;try simp only[iI,uU,iZ])
 refine qM H rfl λb0 h1 H1=>?_;refine qM H1 rfl λb1 h2 H2=>?_;refine qE H2 (b:=b1) (off:=0) .here rfl omQ (l:=ji l) rfl ?_;refine qW (qQE (l:=l) omQ H2 e_2 e_3) ?_;rintro _ h3 ⟨rfl,H3⟩;by_cases c0:w4 ls.length a l=0
 rotate_left
 ·refine jq c0 ?_;refine qX ?_;rw[iV (λh=>c0 h.1)];simp only[iQ (show¬(w4 ls.length a l=0∧jh ls a=was)from λh=>c0 h.1)];exact qY ⟨rfl,H3.drop.drop⟩
 have hc:0≤a∧a<ls.length:=by
  unfold w4 at c0
  split at c0
  ·assumption
  ·cases c0
 obtain⟨k,rfl⟩:∃k:Nat,a=k:=⟨a.toNat,by omega⟩;refine jk c0 ?_;refine qJ (qq (qQ (qG ‹_› e_2 rfl ?_)));refine zf (l:=ji (jh ls k)) (H3.sl e_3) omQ omQ (Ku omQ) ?_;refine qE H3 (b:=b0) (off:=0) e_1 rfl omQ (l:=ji was) rfl ?_;refine Vh (p:=jh ls k=was) (qxI _ _) (λc1=>?_) (λc1=>?_)
 ·rw[iG ⟨c0,c1⟩];simp only[iJ (show w4 ls.length k l=0∧jh ls k=was from⟨c0,c1⟩)];rw[c0];refine qJ (qq (qQ (qG ‹_› e_2 rfl ?_)));refine qE H3 (b:=b1) (off:=0) .here rfl omQ (l:=ji l) rfl ?_;refine Oo (l:=ji l) (i:=k) (H3.sel e_3) omQ rfl rfl λh4 H4=>?_;rw[V3 (sz:=3) (enc:=ji) (l:=ls) (i:=k) (a:=l) (λ_=>rfl) omQ]at H4;exact qY ⟨rfl,by rw[List.length_set];exact H4.sub (.cons e_3 (.cons .here (.drop (.drop .refl))))⟩
 ·rw[iV (λh=>c1 h.2)];simp only[iQ (show¬(w4 ls.length k l=0∧jh ls k=was)from λh=>c1 h.2)];rw[c0];refine qX ?_;exact qY ⟨rfl,H3.drop.drop⟩
theorem qZu {l:LkM} (hn:4≤n) (H:HS g h (qk b [v,wd]::qD e 3 ls.length v (ls.flatMap ji)::R)) :
  t_w n 68 [.ptr b 0,.int .i64 a,.agg (ji l)] h λr h'=>r=.int .i64 (w4 ls.length a l)∧
   HS g h' (qk b [v,wd]::qD e 3 (if w4 ls.length a l=0 then ls.set a.toNat l else ls).length v ((if w4 ls.length a l=0 then ls.set a.toNat l else ls).flatMap ji)::R):=by
 refine t_e3 (S:=S68) rfl omQ λk hk=>?_;unfold S68;try simp only[iZ]
 refine qM H rfl λb0 h1 H1=>?_;refine qE H1 (b:=b0) (off:=0) .here rfl omQ (l:=ji l) rfl ?_;refine qW (qQE (l:=l) omQ H1 e_1 e_2) ?_;rintro _ h3 ⟨rfl,H3⟩;refine qV ?_
 try dsimp only
 by_cases c0:w4 ls.length a l=0
 rotate_left
 ·refine qZ c0 ?_;refine qJ (qx ?_);simp only[iQ c0];exact qY ⟨rfl,H3.drop⟩
 have hc:0≤a∧a<ls.length:=by
  unfold w4 at c0
  split at c0
  ·assumption
  ·cases c0
 obtain⟨k,rfl⟩:∃k:Nat,a=k:=⟨a.toNat,by omega⟩;refine qz c0 ?_;simp only[iJ c0];refine qX (qq (qQ (qG ‹_› e_1 rfl ?_)));refine qE H3 (b:=b0) (off:=0) .here rfl omQ (l:=ji l) rfl ?_;refine Oo (l:=ji l) (i:=k) (H3.sel e_2) omQ rfl rfl λh4 H4=>?_;rw[V3 (sz:=3) (enc:=ji) (l:=ls) (i:=k) (a:=l) (λ_=>rfl) omQ]at H4;refine qx ?_;exact qY ⟨rfl,by rw[List.length_set];exact H4.sub (.cons e_2 (.cons .here (.drop .refl)))⟩
end
def Z5 (p hb tb cb sb:Nat) (wv lv sv:AV) (S:yv) (M:js) (R:List SP):List SP :=
 qk p [.int .i64 S.words,.int .i64 S.stripes,.int .i64 S.wide,.int .i64 S.threads,.int .u64 S.start,.ptr hb 0,.ptr tb 0,.ptr cb 0,.ptr sb 0,.int .i64 M.cnt]::qk hb [wv]::qD 24 1 M.w.length wv (M.w.map (.int .u64))::
 qk tb [lv,.int .i64 S.wide]::qD 39 3 M.l.length lv (M.l.flatMap ji)::qk cb [.int .u64 M.n]::qk sb [sv]::qD 24 1 M.s.length sv (M.s.map (.int .u64))::R
def MemC (p:Nat) (S:yv) (M:js):SP:=.ex λq:(Nat×Nat×Nat×Nat)×AV×AV×AV=>.all (Z5 p q.1.1 q.1.2.1 q.1.2.2.1 q.1.2.2.2 q.2.1 q.2.2.1 q.2.2.2 S M [])
section
variable {p hb tb cb sb:Nat} {wv lv sv:AV} {S:yv} {M:js}
theorem MemC.E (H:HS g h (MemC p S M::R)):∃hb tb cb sb wv lv sv,HS g h (qk p [.int .i64 S.words,.int .i64 S.stripes,.int .i64 S.wide,.int .i64 S.threads,.int .u64 S.start,.ptr hb 0,.ptr tb 0,.ptr cb 0,.ptr sb 0,.int .i64 M.cnt]::qk hb [wv]::qD 24 1 M.w.length wv (M.w.map (.int .u64))::
  qk tb [lv,.int .i64 S.wide]::qD 39 3 M.l.length lv (M.l.flatMap ji)::qk cb [.int .u64 M.n]::qk sb [sv]::qD 24 1 M.s.length sv (M.s.map (.int .u64))::R):=by
 obtain⟨⟨⟨hb,tb,cb,sb⟩,wv,lv,sv⟩,H⟩:=H.exE;exact⟨hb,tb,cb,sb,wv,lv,sv,H.allE⟩
theorem MemC.I (H:HS g h (Z5 p hb tb cb sb wv lv sv S M R)):HS g h (MemC p S M::R):=HS.exI ((hb,tb,cb,sb),wv,lv,sv) (HS.allI (A:=Z5 p hb tb cb sb wv lv sv S M []) H)
end
end Go.Proofs.YtnalffoigcmnnaaGreatDoor
namespace Go.Proofs.YtnalffoigcmnnaaGreatDoor
open Go Go.Ae
set_option maxRecDepth 100000
variable {g h:AH} {L R:List SP}
def xe (p:Qw) (xs:List AV):List AV:=.int .i64 p.me:: .int .i64 p.spins:: .int .i64 p.fin:: .int .i64 p.by_:: .int .i64 p.err::xs
def opV (o:Option OpM):AV:=.tup [.agg (ym (o.getD (op0 0 0 0))),.bool o.isSome]
def GC (p:Qw):Prop:=p.fin=0→0≤p.spins∧p.spins≤4
section
variable {n b:Nat} {p:Qw} {xs:List AV}
theorem V7 {me sp:Int} (hn:1≤n) (H:HS g h R):t_w n 129 [.int .i64 me,.int .i64 sp] h λr h'=>r=.agg (xe (kR me sp) [])∧HS g h' R:=by
 refine t_e2 (S:=S129) rfl omQ λk hk=>?_;unfold S129;try simp only[iZ]
 refine qM H rfl λb h1 H1=>?_;refine jm (zK (qI rfl ?_));refine qc H1 (b:=b) .here rfl (by show 0+5≤5;omega) rfl λh2 H2=>?_;refine qE H2 (b:=b) (off:=0) .here rfl omQ (l:=xe (kR me sp) []) rfl ?_;exact qY ⟨rfl,H2.drop⟩
theorem JO (hn:1≤n) (H:HS g h L) (s:Sel L (qk b (xe p xs)) R):t_w n 98 [.ptr b 0] h λr h'=>r=.int .i64 p.fin∧h'=h:=by
 refine t_e1 (S:=S98) rfl omQ λk hk=>?_;unfold S98;try simp only[iZ]
 refine qq (qQ ?_);exact qG H s rfl (qY ⟨rfl,rfl⟩)
theorem qYf (hn:1≤n) (H:HS g h L) (s:Sel L (qk b (xe p xs)) R):t_w n 184 [.ptr b 0] h λr h'=>r=.int .i64 p.err∧h'=h:=by
 refine t_e1 (S:=S184) rfl omQ λk hk=>?_;unfold S184;try simp only[iZ]
 refine qq (qQ ?_);exact qG H s rfl (qY ⟨rfl,rfl⟩)
theorem O9 (hn:1≤n) (H:HS g h L) (s:Sel L (qk b (xe p xs)) R):t_w n 327 [.ptr b 0] h λr h'=>r=.int .i64 p.by_∧h'=h:=by
 refine t_e1 (S:=S327) rfl omQ λk hk=>?_;unfold S327;try simp only[iZ]
 refine qq (qQ ?_);exact qG H s rfl (qY ⟨rfl,rfl⟩)
theorem vi {f e y:Int} (hn:1≤n) (H:HS g h (qk b (xe p xs)::R)):t_w n 329 [.ptr b 0,.int .i64 f,.int .i64 e,.int .i64 y] h λ_ h'=>HS g h' (qk b (xe (jn p f e y) xs)::R):=by
 refine t_e4 (S:=S329) rfl omQ λk hk=>?_;unfold S329;try simp only[iZ]
 unfold xe at H;refine qq (qQ (qH H (b:=b) .here ⟨rfl,rfl⟩ osQ λh1 H1=>?_));refine qq (qQ (qH H1 (b:=b) .here ⟨rfl,rfl⟩ osQ λh2 H2=>?_));refine qq (qQ (qH H2 (b:=b) .here ⟨rfl,rfl⟩ osQ λh3 H3=>?_));exact qY H3
theorem Y4 {l:LkM} (hn:1≤n) (hp:0≤p.spins∧p.spins≤4) (H:HS g h (qk b (xe p xs)::R)):t_w n 331 [.ptr b 0,.agg (ji l)] h λr h'=>r=.bool (jS p l).1∧HS g h' (qk b (xe (jS p l).2 xs)::R):=by
 refine t_e2 (S:=S331) rfl omQ λk hk=>?_;unfold S331;try simp only[iZ]
 refine qM H rfl λb0 h1 H1=>?_;have H1:HS g h1 (qk b0 (ji l)::qk b (.int .i64 p.me:: .int .i64 p.spins:: .int .i64 p.fin:: .int .i64 p.by_:: .int .i64 p.err::xs)::R):=H1;unfold ji at H1;refine qQ (qG ‹_› .here rfl ?_);refine qq (qQ (qG ‹_› e_1 rfl ?_));unfold jS;by_cases c:p.me<l.2.2
 ·refine xn c ?_;rw[iJ c];refine qX ?_;exact qY ⟨rfl,H1.drop⟩
 ·refine xc c ?_;rw[iQ c];refine qJ (qq (qQ (qG ‹_› e_1 rfl ?_)));refine jM omQ ?_;refine qq (qQ (qH H1 (b:=b) e_1 ⟨rfl,rfl⟩ osQ λh2 H2=>?_));have H2:HS g h2 (qk b (.int .i64 p.me:: .int .i64 (p.spins-1):: .int .i64 p.fin:: .int .i64 p.by_:: .int .i64 p.err::xs)::qk b0 (ji l)::R):=H2;refine qq (qQ (qG ‹_› .here rfl ?_));refine xT (λc2=>?_) (λc2=>?_)
  ·exact qY ⟨by rw[iG omQ],H2.sub (.cons .here (.drop .refl))⟩
  ·exact qY ⟨by rw[iV omQ],H2.sub (.cons .here (.drop .refl))⟩
theorem Qm {a:AnM} (hn:2≤n) (H:HS g h (qk b (xe p xs)::R)):t_w n 328 [.ptr b 0,.agg (xq a)] h λr h'=>r=.bool (qn p a).1∧HS g h' (qk b (xe (qn p a).2 xs)::R):=by
 refine t_e2 (S:=S328) rfl omQ λk hk=>?_;unfold S328;try simp only[iZ]
 refine qM H rfl λb0 h1 H1=>?_;have H1:HS g h1 (qk b0 (xq a)::qk b (.int .i64 p.me:: .int .i64 p.spins:: .int .i64 p.fin:: .int .i64 p.by_:: .int .i64 p.err::xs)::R):=H1;unfold xq at H1;refine jT [] (λs h'=>s=(.ptr b 0,())∧HS g h' (qk b (xe (if p.fin=0∧a.err≠0 then jn p 4 a.err (-1)else p) xs)::R)) ?_ ?_
 rotate_left
 ·rintro s h2 ⟨rfl,H2⟩;unfold xe at H2;refine qq (qQ (qG ‹_› .here rfl ?_));by_cases c:p.fin=0∧a.err≠0
  ·rw[iJ c]at H2;rw[show qn p a=(true,jn p 4 a.err (-1))from iJ c];rw[iJ c];refine jq (by show(4:Int)≠0;decide) ?_;refine qx ?_;exact qY ⟨rfl,H2⟩
  ·rw[iQ c]at H2;rw[show qn p a=(decide (p.fin≠0),p)from iQ c];rw[iQ c];refine xA (λc2=>?_) (λc2=>?_)
   ·refine qx ?_;exact qY ⟨congrArg AV.bool (iG (p:=p.fin≠0) c2).symm,H2⟩
   ·refine qx ?_;exact qY ⟨congrArg AV.bool (iV (p:=p.fin≠0) (λh=>h c2)).symm,H2⟩
 intro j hj;refine qq (qQ (qG ‹_› e_1 rfl ?_));by_cases c:p.fin=0
 ·refine qz c ?_;refine qV ?_;(try dsimp only);refine qR ?_;(try dsimp only);refine qQ (qG ‹_› .here rfl ?_)
  by_cases c2:a.err=0
  ·refine jk c2 ?_;refine qC (qJ ?_);exact hj _ _ ⟨rfl,by rw[iQ (λh=>h.2 c2)];exact H1.drop⟩
  ·refine jq c2 ?_;refine qC (qX (qQ (qG ‹_› .here rfl ?_)));refine qW (vi (p:=p) omQ (H1.sel e_1)) λ_ h2 H2=>?_;exact hj _ _ ⟨rfl,by rw[iJ ⟨c,c2⟩];exact H2.sub (.cons .here (.drop .refl))⟩
 ·refine qZ c ?_;refine qV ?_;(try dsimp only);refine qT ?_;(try dsimp only);refine qF (qJ ?_)
  exact hj _ _ ⟨rfl,by rw[iQ (λh=>c h.1)];exact H1.drop⟩
end
def gX (f:ki):List AV:=xe f.p [.int .i64 f.at_,.int .i64 f.stripe,.int .u64 f.stamp,.int .i64 f.state,.int .u64 f.lk.1,.bool f.lk.2.1,.int .i64 f.lk.2.2,.int .u64 f.word]
section
variable {n b:Nat} {f:ki}
theorem qjS {me at_ st sp t:Int} (hn:2≤n) (H:HS g h R):t_w n 126 [.int .i64 me,.int .i64 at_,.int .i64 st,.int .i64 sp,.int .u64 t] h λr h'=>∃b,r=.ptr b 0∧HS g h' (qk b (gX (kY me at_ st sp t))::R):=by
 refine t_e5 (S:=S126) rfl omQ λk hk=>?_;unfold S126;try simp only[iZ]
 refine qW (V7 omQ H) ?_;rintro _ h1 ⟨rfl,H1⟩;unfold xe;refine qI rfl ?_;refine qM H1 rfl λb h2 H2=>qY ⟨b,rfl,H2⟩
theorem qWt (hn:2≤n) (H:HS g h (qk b (gX f)::R)):t_w n 325 [.ptr b 0] h λr h'=>r=opV (Gn f)∧HS g h' (qk b (gX f)::R):=by
 refine t_e1 (S:=S325) rfl omQ λk hk=>?_;unfold S325;try simp only[iZ]
 refine qM H rfl λb0 h1 H1=>?_;refine qq (qQ (qW (JO omQ H1 e_1) ?_));rintro _ _ ⟨rfl,rfl⟩;unfold Gn;have H2:=H1;unfold gX xe at H2;by_cases c:f.p.fin=0
 ·refine jk c ?_;rw[iQ (λh=>h c)];refine qJ (qq (qQ (qG ‹_› e_1 rfl ?_)));by_cases c2:f.state=1
  ·refine qz c2 ?_;rw[iJ c2];refine qX (qq (qQ (qG ‹_› e_1 rfl ?_)));refine qI rfl ?_;refine qc H1 (b:=b0) .here rfl (by show 0+10≤10;omega) rfl λh3 H3=>?_;refine qE H3 (b:=b0) (off:=0) .here rfl omQ (l:=ym (op0 1 f.at_ 0)) rfl ?_;exact qY ⟨rfl,H3.drop⟩
  ·refine qZ c2 ?_;rw[iQ c2];refine qJ (qq (qQ (qG ‹_› e_1 rfl ?_)));refine qI rfl ?_;refine qc H1 (b:=b0) .here rfl (by show 0+10≤10;omega) rfl λh3 H3=>?_;refine qE H3 (b:=b0) (off:=0) .here rfl omQ (l:=ym (op0 3 f.stripe 0)) rfl ?_;exact qY ⟨rfl,H3.drop⟩
 ·refine jq c ?_;rw[iJ c];refine qX (qI rfl ?_);refine qc H1 (b:=b0) .here rfl (by show 0+10≤10;omega) rfl λh3 H3=>?_;refine qE H3 (b:=b0) (off:=0) .here rfl omQ (l:=ym (op0 0 0 0)) rfl ?_;exact qY ⟨rfl,H3.drop⟩
theorem Vj {l:LkM} (hn:2≤n) (hp:0≤f.p.spins∧f.p.spins≤4) (H:HS g h (qk b (gX f)::R)):t_w n 330 [.ptr b 0,.agg (ji l)] h λ_ h'=>HS g h' (qk b (gX (Qs f l))::R):=by
 refine t_e2 (S:=S330) rfl omQ λk hk=>?_;unfold S330;try simp only[iZ]
 refine qM H rfl λb0 h1 H1=>?_;unfold gX xe ji at H1;refine qq (qQ (qH H1 (b:=b) e_1 ⟨rfl,rfl⟩ osQ λh2 H2=>?_));have H2:HS g h2 (qk b (gX { f with state:=0 })::qk b0 (ji l)::R):=H2;have H3:=H2;unfold gX xe ji at H3;refine qV ?_;(try dsimp only);refine qQ (qG ‹_› e_1 rfl ?_)
 unfold Qs;obtain⟨w,d,o⟩:=l;cases d with
 |true=>
  rw[iJ rfl];refine qX (qq (qQ (qE H2 (b:=b0) (off:=0) e_1 rfl omQ (l:=ji (w,true,o)) rfl ?_)));refine qW (Y4 (l:=(w,true,o)) omQ hp H2) ?_;rintro _ h4 ⟨rfl,H4⟩;cases hw:(jS f.p (w,true,o)).1 with
  |true=>rw[iJ rfl];refine qu (qJ (qx ?_));exact qY (H4.sub (.cons .here (.drop .refl)))
  |false=>rw[iQ osQ];have H5:=H4;unfold ji at H5;refine jQ (qX (qq (qQ (qQ (qG ‹_› e_1 rfl ?_)))));refine qW (vi omQ H4) λ_ h5 H5=>?_;refine qx ?_;exact qY (H5.sub (.cons .here (.drop .refl)))
 |false=>
  rw[iQ osQ];refine qJ (qQ (qG ‹_› e_1 rfl ?_));refine qq (qQ (qG ‹_› .here rfl ?_));by_cases c:f.stamp<w
  ·refine xn c ?_;rw[iJ c];refine qX (qq (qQ (qW (vi omQ H2) λ_ h5 H5=>?_)));refine qx ?_;exact qY (H5.sub (.cons .here (.drop .refl)))
  ·refine xc c ?_;rw[iQ c];refine qJ (qE H3 (b:=b0) (off:=0) e_1 rfl omQ (l:=ji (w,false,o)) rfl ?_);refine qq (qQ (qc H3 (b:=b) .here rfl (by show 9+3≤13;omega) rfl λh5 H5=>?_));refine qq (qQ (qH H5 (b:=b) .here ⟨rfl,rfl⟩ (by simp[gp]) λh6 H6=>?_));refine qx ?_;exact qY (H6.sub (.cons .here (.drop .refl)))
theorem qK4 {a:AnM} (hn:3≤n) (hp:GC f.p) (H:HS g h (qk b (gX f)::R)):t_w n 326 [.ptr b 0,.agg (xq a)] h λ_ h'=>HS g h' (qk b (gX (xD f a))::R):=by
 (refine qy (g:=W326) rfl omQ λk hk=>?_;show wp (S326 (callT tab qj k) _ _ _) _;unfold S326;try simp only[iI,uU,iZ])
 generalize hF:xD f a=F;refine qM H rfl λb0 h1 H1=>?_;refine jT [] (λ_ h'=>HS g h' (qk b (gX F)::R)) (λj hj=>?_) λ_ h' H'=>?_
 rotate_left
 ·refine qx ?_;exact qY H'
 refine qq (qQ (qE H1 (b:=b0) (off:=0) .here rfl omQ (l:=xq a) rfl ?_));refine qW (Qm omQ (H1.sel e_1)) ?_;rintro _ h2 ⟨rfl,H2⟩;unfold xD at hF;cases hs:(qn f.p a).1 with
 |true=>rw[iJ hs]at hF;refine qX ?_;exact hj _ _ (by rw[← hF];exact H2.sub (.cons .here (.drop .refl)))
 |false=>
  rw[iQ (by rw[hs];simp)]at hF;have hsp:(qn f.p a).2=f.p∧f.p.fin=0:=by
   unfold qn at hs ⊢
   split at hs
   ·cases hs
   ·rename_i c;rw[iQ c];exact⟨rfl,by simpa using hs⟩
  rw[hsp.1]at H2;have H3:HS g h2 (qk b (gX f)::qk b0 (xq a)::R):=H2;have H4:=H3;unfold gX xe xq at H4;refine qJ (qq (qQ (qG ‹_› .here rfl ?_)));by_cases c1:f.state=1
  ·refine qz c1 ?_;rw[iJ c1]at hF;refine qX (qQ (qG ‹_› e_1 rfl ?_));refine qq (qQ (qH H4 (b:=b) .here ⟨rfl,rfl⟩ osQ λh5 H5=>?_));refine qq (qQ (qH H5 (b:=b) .here ⟨rfl,rfl⟩ osQ λh6 H6=>?_));exact hj _ _ (by rw[← hF];exact H6.sub (.cons .here (.drop .refl)))
  refine qZ c1 ?_;rw[iQ c1]at hF;refine qJ (qq (qQ (qG ‹_› .here rfl ?_)));by_cases c2:f.state=2
  ·refine qz c2 ?_;refine qV ?_;(try dsimp only);refine qR ?_;(try dsimp only);refine qQ ?_
   refine qE H4 (b:=b0) (off:=1) e_1 rfl omQ (l:=ji a.lk) rfl ?_;refine qq (qQ (qE H4 (b:=b) (off:=9) .here rfl omQ (l:=ji f.lk) rfl ?_));refine Vh (p:=a.lk=f.lk) (qxI _ _) (λc3=>?_) (λc3=>?_)
   ·rw[iJ ⟨c2,c3⟩]at hF;show wp (yJ (.bool true) (.bool true) (.bool false) _) _;refine qC (qX (qq (qQ (qW (vi omQ H3) λ_ h5 H5=>?_))));exact hj _ _ (by rw[← hF];exact H5.sub (.cons .here (.drop .refl)))
   ·rw[iQ (λh=>c3 h.2)]at hF;refine qC (qJ (qQ (qE H4 (b:=b0) (off:=1) e_1 rfl omQ (l:=ji a.lk) rfl ?_)));refine qW (Vj omQ (hp hsp.2) H3) λ_ h5 H5=>?_;exact hj _ _ (by rw[← hF];exact H5.sub (.cons .here (.drop .refl)))
  ·refine qZ c2 ?_;rw[iQ (λh=>c2 h.1)]at hF;refine qV ?_;(try dsimp only);refine qT ?_;(try dsimp only);refine qF (qJ (qQ ?_))
   refine qE H4 (b:=b0) (off:=1) e_1 rfl omQ (l:=ji a.lk) rfl ?_;refine qW (Vj omQ (hp hsp.2) H3) λ_ h5 H5=>?_;exact hj _ _ (by rw[← hF];exact H5.sub (.cons .here (.drop .refl)))
theorem GS (hn:2≤n) (H:HS g h L) (s:Sel L (qk b (gX f)) R):t_w n 179 [.ptr b 0] h λr h'=>r=.int .i64 f.p.fin∧h'=h:=by
 refine t_e1 (S:=S179) rfl omQ λk hk=>?_;unfold S179;try simp only[iZ]
 refine qq (qQ (qW (JO omQ H s) ?_));rintro _ _ ⟨rfl,rfl⟩;exact qY ⟨rfl,rfl⟩
theorem qxt (hn:2≤n) (H:HS g h L) (s:Sel L (qk b (gX f)) R):t_w n 324 [.ptr b 0] h λr h'=>r=.int .i64 f.p.by_∧h'=h:=by
 refine t_e1 (S:=S324) rfl omQ λk hk=>?_;unfold S324;try simp only[iZ]
 refine qq (qQ (qW (O9 omQ H s) ?_));rintro _ _ ⟨rfl,rfl⟩;exact qY ⟨rfl,rfl⟩
theorem qWO (hn:3≤n) (H:HS g h L) (s:Sel L (qk b (gX f)) R):t_w n 182 [.ptr b 0] h λr h'=>r=.int .u64 (yX f)∧h'=h:=by
 refine t_e1 (S:=S182) rfl omQ λk hk=>?_;unfold S182;try simp only[iZ]
 refine qW (GS omQ H s) ?_;rintro _ _ ⟨rfl,rfl⟩;unfold yX;by_cases c:f.p.fin=2
 ·refine jk c ?_;rw[iQ (λh=>h c)];refine qJ (qq (qQ ?_));exact qG H s rfl (qY ⟨rfl,rfl⟩)
 ·refine jq c ?_;rw[iJ c];refine qX ?_;exact qY ⟨rfl,rfl⟩
def vM (x:xG):List AV:=[.int .i64 x.1,.int .u64 x.2]
theorem qVi (hn:3≤n) (H:HS g h L) (s:Sel L (qk b (gX f)) R):t_w n 181 [.ptr b 0] h λr h'=>r=.agg (vM (ye f))∧HS g h' L:=by
 refine t_e1 (S:=S181) rfl omQ λk hk=>?_;unfold S181;try simp only[iZ]
 refine qM H rfl λb0 h1 H1=>?_;refine qW (GS omQ H1 (.there s)) ?_;rintro _ _ ⟨rfl,rfl⟩;unfold ye;by_cases c:f.p.fin=2
 ·refine jk c ?_;rw[iQ (λh=>h c)];refine qJ (qq (qQ (qG H1 (.there s) rfl ?_)));refine qq (qQ (qG H1 (.there s) rfl ?_));refine qI rfl ?_;refine qc H1 (b:=b0) .here rfl (by show 0+2≤2;omega) rfl λh3 H3=>?_;refine qE H3 (b:=b0) (off:=0) .here rfl omQ (l:=vM (f.stripe,f.lk.1)) rfl ?_;exact qY ⟨rfl,H3.drop⟩
 ·refine jq c ?_;rw[iJ c];refine qX (qI rfl ?_);refine qc H1 (b:=b0) .here rfl (by show 0+2≤2;omega) rfl λh3 H3=>?_;refine qE H3 (b:=b0) (off:=0) .here rfl omQ (l:=vM (0,0)) rfl ?_;exact qY ⟨rfl,H3.drop⟩
end
end Go.Proofs.YtnalffoigcmnnaaGreatDoor
namespace Go.Proofs.YtnalffoigcmnnaaGreatDoor
open Go Go.Ae
set_option maxRecDepth 100000
variable {g h:AH} {L R:List SP}
section
variable {n m:Nat} {v:AV} {xs:List AV}
theorem VX (hn:1≤n) (H:HS g h L) (s:Sel L (qD 24 1 m v xs) R) (ha:ql xs=true) (hm:m≤1000000) :
  t_w n 72 [v] h λr h'=>HS g h' (qD 24 1 m r xs::L):=by
 refine t_e1 (S:=S72) rfl omQ λk hk=>?_;unfold S72;try simp only[iZ]
 refine Je H s (λh1 h2=>?_) (qJ ?_)
 ·subst h1 h2;obtain rfl:xs=[]:=iA (by simpa using H.sl_len s);exact qX (qY H.nils)
 ·refine qr (n:=0) (l:=[]) (sz:=1) H rfl rfl rfl rfl λv2 h2 H2=>?_;refine zT H2 (H2.sl (.there s)) omQ omQ ha λv3 h3 H3=>?_;rw[Nat.zero_add,List.nil_append]at H3;exact qY H3
theorem qZa (hn:1≤n) (H:HS g h L) (s:Sel L (qD 39 3 m v xs) R) (ha:ql xs=true) (hm:m≤1000000) :
  t_w n 88 [v] h λr h'=>HS g h' (qD 39 3 m r xs::L):=by
 refine t_e1 (S:=S88) rfl omQ λk hk=>?_;unfold S88;try simp only[iZ]
 refine Je H s (λh1 h2=>?_) (qJ ?_)
 ·subst h1 h2;obtain rfl:xs=[]:=iA (by simpa using H.sl_len s);exact qX (qY H.nils)
 ·refine qr (n:=0) (l:=[]) (sz:=3) H rfl rfl rfl rfl λv2 h2 H2=>?_;refine zT H2 (H2.sl (.there s)) omQ omQ ha λv3 h3 H3=>?_;rw[Nat.zero_add,List.nil_append]at H3;exact qY H3
theorem Xk (hn:1≤n) (H:HS g h L) (s:Sel L (qD 211 2 m v xs) R) (ha:ql xs=true) (hm:m≤1000000) :
  t_w n 130 [v] h λr h'=>HS g h' (qD 211 2 m r xs::L):=by
 refine t_e1 (S:=S130) rfl omQ λk hk=>?_;unfold S130;try simp only[iZ]
 refine Je H s (λh1 h2=>?_) (qJ ?_)
 ·subst h1 h2;obtain rfl:xs=[]:=iA (by simpa using H.sl_len s);exact qX (qY H.nils)
 ·refine qr (n:=0) (l:=[]) (sz:=2) H rfl rfl rfl rfl λv2 h2 H2=>?_;refine zT H2 (H2.sl (.there s)) omQ omQ ha λv3 h3 H3=>?_;rw[Nat.zero_add,List.nil_append]at H3;exact qY H3
end
theorem Mb {f:Int→AV} (hf:∀x,(f x).one=true):∀l:List Int,ql (l.map f)=true:=by intro l;unfold ql;rw[List.all_map,List.all_eq_true];intro x _;exact hf x
theorem YZ {α:Type} {f:α→List AV} (hf:∀x,ql (f x)=true):∀l:List α,ql (l.flatMap f)=true:=by
 intro l
 induction l with
 |nil=>rfl
 |cons x l ih=>rw[List.flatMap_cons];unfold ql at*;rw[List.all_append,hf,ih];rfl
section
variable {n b m:Nat} {v wd:AV} {e:TypeId} {xs:List AV} {R2:List SP}
theorem qYT (hn:2≤n) (H:HS g h L) (s:Sel L (qk b [v]) R) (s2:Sel L (qD 24 1 m v xs) R2) (ha:ql xs=true) (hm:m≤1000000) :
  t_w n 39 [.ptr b 0] h λr h'=>HS g h' (qD 24 1 m r xs::L):=by
 refine t_e1 (S:=S39) rfl omQ λk hk=>?_;unfold S39;try simp only[iZ]
 refine qq (qQ (qG H s rfl ?_));exact qW (VX omQ H s2 ha hm) λ_ _ H1=>qY H1
theorem qjD (hn:2≤n) (H:HS g h L) (s:Sel L (qk b [v]) R) (s2:Sel L (qD 24 1 m v xs) R2) (ha:ql xs=true) (hm:m≤1000000) :
  t_w n 54 [.ptr b 0] h λr h'=>HS g h' (qD 24 1 m r xs::L):=by
 refine t_e1 (S:=S54) rfl omQ λk hk=>?_;unfold S54;try simp only[iZ]
 refine qq (qQ (qG H s rfl ?_));exact qW (VX omQ H s2 ha hm) λ_ _ H1=>qY H1
theorem qjR (hn:2≤n) (H:HS g h L) (s:Sel L (qk b [v,wd]) R) (s2:Sel L (qD 39 3 m v xs) R2) (ha:ql xs=true) (hm:m≤1000000) :
  t_w n 53 [.ptr b 0] h λr h'=>HS g h' (qD 39 3 m r xs::L):=by
 refine t_e1 (S:=S53) rfl omQ λk hk=>?_;unfold S53;try simp only[iZ]
 refine qq (qQ (qG H s rfl ?_));exact qW (qZa omQ H s2 ha hm) λ_ _ H1=>qY H1
end
section
variable {n p hb tb cb sb:Nat} {wv lv sv:AV} {S:yv} {M:js} {o:OpM}
theorem MemC.I1 {X:SP} (H:HS g h (X::Z5 p hb tb cb sb wv lv sv S M R)):HS g h (X::MemC p S M::R):=HS.unsel e_1 (MemC.I (HS.back (A:=Z5 p hb tb cb sb wv lv sv S M []) H))
theorem Up (hn:3≤n) (hw:M.w.length≤1000000) (H:HS g h (MemC p S M::R)) :
  t_w n 9 [.ptr p 0] h λr h'=>HS g h' (qD 24 1 M.w.length r (M.w.map (.int .u64))::MemC p S M::R):=by
 refine t_e1 (S:=S9) rfl omQ λk hk=>?_;unfold S9;try simp only[iZ]
 obtain⟨hb,tb,cb,sb,wv,lv,sv,H⟩:=MemC.E H;refine qq (qQ (qG ‹_› .here rfl ?_));exact qW (qYT omQ H e_1 e_2 (Mb (λ_=>rfl) _) hw) λ_ _ H1=>qY (MemC.I1 H1)
theorem qZ8 (hn:3≤n) (hw:M.s.length≤1000000) (H:HS g h (MemC p S M::R)) :
  t_w n 15 [.ptr p 0] h λr h'=>HS g h' (qD 24 1 M.s.length r (M.s.map (.int .u64))::MemC p S M::R):=by
 refine t_e1 (S:=S15) rfl omQ λk hk=>?_;unfold S15;try simp only[iZ]
 obtain⟨hb,tb,cb,sb,wv,lv,sv,H⟩:=MemC.E H;refine qq (qQ (qG ‹_› .here rfl ?_));exact qW (qjD omQ H e_6 e_7 (Mb (λ_=>rfl) _) hw) λ_ _ H1=>qY (MemC.I1 H1)
theorem qXe (hn:3≤n) (hw:M.l.length≤1000000) (H:HS g h (MemC p S M::R)) :
  t_w n 14 [.ptr p 0] h λr h'=>HS g h' (qD 39 3 M.l.length r (M.l.flatMap ji)::MemC p S M::R):=by
 refine t_e1 (S:=S14) rfl omQ λk hk=>?_;unfold S14;try simp only[iZ]
 obtain⟨hb,tb,cb,sb,wv,lv,sv,H⟩:=MemC.E H;refine qq (qQ (qG ‹_› .here rfl ?_));exact qW (qjR omQ H e_3 e_4 (YZ (λ_=>rfl) _) hw) λ_ _ H1=>qY (MemC.I1 H1)
theorem Np {b:Nat} {x:Int} (hn:1≤n) (H:HS g h L) (s:Sel L (qk b [.int .u64 x]) R):t_w n 57 [.ptr b 0] h λr h'=>r=.int .u64 x∧h'=h:=by
 refine t_e1 (S:=S57) rfl omQ λk hk=>?_;unfold S57;try simp only[iZ]
 refine qq (qQ ?_);exact qG H s rfl (qY ⟨rfl,rfl⟩)
theorem qqh (hn:2≤n) (H:HS g h (MemC p S M::R)):t_w n 25 [.ptr p 0] h λr h'=>r=.int .u64 M.n∧h'=h:=by
 refine t_e1 (S:=S25) rfl omQ λk hk=>?_;unfold S25;try simp only[iZ]
 obtain⟨hb,tb,cb,sb,wv,lv,sv,H⟩:=MemC.E H;refine qq (qQ (qG ‹_› .here rfl ?_));refine qW (Np omQ H e_5) ?_;rintro _ _ ⟨rfl,rfl⟩;exact qY ⟨rfl,rfl⟩
theorem qjN {b:Nat} (hn:1≤n) (H:HS g h (qk b [.int .u64 M.n]::R)):t_w n 69 [.ptr b 0,.int .u64 o.old,.int .u64 o.word] h λr h'=>
  r=.tup [.bool (J4 M { o with kind:=7 }).1.done,.int .i64 (J4 M { o with kind:=7 }).1.err]∧HS g h' (qk b [.int .u64 (J4 M { o with kind:=7 }).2.n]::R):=by
 refine t_e3 (S:=S69) rfl omQ λk hk=>?_;unfold S69;try simp only[iZ]
 unfold J4;rw[iQ (show¬(7:Int)=6 by decide)];refine gd (λc1=>?_) (λc1=>?_)
 ·rw[iJ c1];refine qX ?_;exact qY ⟨rfl,H⟩
 rw[iQ c1];refine qJ (xT (λc2=>?_) (λc2=>?_))
 ·rw[iJ (by dsimp only;omega)];refine qX ?_;exact qY ⟨rfl,H⟩
 rw[iQ (by dsimp only;omega)];refine qJ (qq (qQ (qG ‹_› .here rfl ?_)));refine xA (λc3=>?_) (λc3=>?_)
 ·rw[iJ c3];refine qX ?_;exact qY ⟨rfl,H⟩
 ·rw[iQ (λh=>h c3)];refine qJ (qq (qQ (qH H (b:=b) .here ⟨rfl,rfl⟩ osQ λh2 H2=>?_)));exact qY ⟨rfl,H2⟩
def yS (M:js) (o:OpM):AnM×js:=if o.kind=1∨o.kind=2 then J5 M o else if o.kind=3∨o.kind=4∨o.kind=5 then kT M o else if o.kind=6∨o.kind=7 then J4 M o else if o.kind=8∨o.kind=9 then Ys M o else(anE 1,M)
theorem wh:xW M o=if(yS M o).1.err=0 then((yS M o).1,{ (yS M o).2 with cnt:=(yS M o).2.cnt+1 })else yS M o:=rfl
theorem OR:(yS M o).2.cnt=M.cnt:=by
 unfold yS J5 kT J4 Ys
 repeat' split
 all_goals rfl
theorem qxp (hn:6≤n) (H:HS g h (MemC p S M::R)) :
  t_w n 38 [.ptr p 0,.agg (ym o)] h λr h'=>r=.agg (xq (yS M o).1)∧HS g h' (MemC p S (yS M o).2::R):=by
 refine t_e2 (S:=S38) rfl omQ λk hk=>?_;unfold S38;try simp only[iZ]
 generalize hr:yS M o=r;obtain⟨hb,tb,cb,sb,wv,lv,sv,H⟩:=MemC.E H;refine qM H rfl λb0 h1 H1=>?_;refine qM H1 rfl λb1 h2 H2=>?_;refine qM H2 rfl λb2 h3 H3=>?_;clear H1 H2;unfold ym at H3;refine qQ (qG H3 (b:=b0) e_2 rfl ?_);refine jT [] (λs h'=>s=(.ptr b2 0,.ptr b1 0,())∧HS g h' (qk b2 (xq r.1)::qk b1 (xq an0)::Z5 p hb tb cb sb wv lv sv S r.2 R)) ?_ ?_
 rotate_left
 ·rintro s h4 ⟨rfl,H4⟩;dsimp only;refine qE H4 (b:=b2) (off:=0) .here rfl omQ (l:=xq r.1) rfl ?_;refine qc H4 (b:=b1) e_1 rfl (by show 0+6≤6;omega) rfl λh5 H5=>?_;refine qx (qE H5 (b:=b1) (off:=0) .here rfl omQ (l:=xq r.1) rfl ?_);exact qY ⟨rfl,MemC.I (H5.drop.drop)⟩
 intro j hj;by_cases k1:o.kind=1
 ·refine qz k1 ?_;refine qX (qq (qQ (qG ‹_› e_3 rfl ?_)));refine qQ (qG ‹_› e_2 rfl ?_);have e:r=(⟨(if 1≤o.at_∧o.at_<M.w.length then qB M.w o.at_ else 0),lk0,false,(if 1≤o.at_∧o.at_<M.w.length then 0 else 2)⟩,M):=by
   rw[← hr];unfold yS J5 anE;rw[iJ (.inl k1)];by_cases c:1≤o.at_∧o.at_<M.w.length
   ·rw[iQ omQ,iJ k1,iJ c,iJ c]
   ·rw[iJ omQ,iQ c,iQ c]
  subst e;refine qW (qK6 omQ H3 e_4 e_5) ?_;rintro _ _ ⟨rfl,rfl⟩;refine qw rfl ?_;refine qw rfl ?_;refine qQ (qH H3 (b:=b2) .here ⟨rfl,rfl⟩ (by show 0<6;omega) λh4 H4=>?_);refine qQ (qH H4 (b:=b2) .here ⟨rfl,rfl⟩ (by show 5<6;omega) λh5 H5=>?_);exact hj _ _ ⟨rfl,H5.sub (.cons .here (.cons .here (.drop .refl)))⟩
 refine qZ k1 ?_;refine qJ ?_;by_cases k2:o.kind=2
 ·refine qz k2 ?_;refine qX (qq (qQ (qG ‹_› e_3 rfl ?_)));refine qQ (qG ‹_› e_2 rfl ?_);refine qQ (qG ‹_› e_2 rfl ?_);have e:r=(⟨0,lk0,false,(if 1≤o.at_∧o.at_<M.w.length then 0 else 2)⟩,{ M with w:=(if 1≤o.at_∧o.at_<M.w.length then M.w.set o.at_.toNat o.word else M.w) }):=by
   rw[← hr];unfold yS J5 anE;rw[iJ (.inr k2)];by_cases c:1≤o.at_∧o.at_<M.w.length
   ·rw[iQ omQ,iQ k1,iJ c,iJ c];rfl
   ·rw[iJ omQ,iQ c,iQ c]
  subst e;refine qW (qJm omQ (H3.sub (.cons e_4 (.cons e_4 .refl)))) ?_;rintro _ h4 ⟨rfl,H4⟩;refine qQ (qH H4 (b:=b2) e_2 ⟨rfl,rfl⟩ (by show 5<6;omega) λh5 H5=>?_);exact hj _ _ ⟨rfl,H5.sub (.cons .here (.cons e_2 (.cons e_3 (.cons .here (.cons .here (.drop .refl))))))⟩
 refine qZ k2 ?_;refine qJ ?_;by_cases k3:o.kind=3
 ·refine qz k3 ?_;refine qX (qq (qQ (qG ‹_› e_3 rfl ?_)));refine qQ (qG ‹_› e_2 rfl ?_);have e:r=(⟨0,(if 0≤o.at_∧o.at_<M.l.length then jh M.l o.at_ else lk0),false,(if 0≤o.at_∧o.at_<M.l.length then 0 else 2)⟩,M):=by
   rw[← hr];unfold yS kT anE;rw[iQ omQ,iJ (.inl k3)];by_cases c:0≤o.at_∧o.at_<M.l.length
   ·rw[iQ omQ,iJ k3,iJ c,iJ c]
   ·rw[iJ omQ,iQ c,iQ c]
  subst e;refine qW (qV0 omQ H3 e_6 e_7) ?_;rintro _ h4 ⟨rfl,H4⟩;refine qw rfl ?_;refine qw rfl ?_;refine qQ (qc H4 (b:=b2) .here rfl (by show 1+3≤6;omega) rfl λh5 H5=>?_);refine qQ (qH H5 (b:=b2) .here ⟨rfl,rfl⟩ (by show 5<6;omega) λh6 H6=>?_);exact hj _ _ ⟨rfl,H6.sub (.cons .here (.cons .here (.drop .refl)))⟩
 refine qZ k3 ?_;refine qJ ?_;by_cases k4:o.kind=4
 ·refine qz k4 ?_;refine qX (qq (qQ (qG ‹_› e_3 rfl ?_)));refine qQ (qG ‹_› e_2 rfl ?_);refine qQ ?_;have e:r=(⟨0,lk0,decide (w4 M.l.length o.at_ o.lk=0∧jh M.l o.at_=o.was),w4 M.l.length o.at_ o.lk⟩,{ M with l:=if w4 M.l.length o.at_ o.lk=0∧jh M.l o.at_=o.was then M.l.set o.at_.toNat o.lk else M.l }):=by
   rw[← hr];unfold yS kT w4 anE an0;rw[iQ omQ,iJ (.inr (.inl k4))];by_cases c:0≤o.at_∧o.at_<M.l.length
   ·rw[iQ omQ,iQ k3,iJ c];by_cases c2:YA o.lk
    ·rw[iQ (λh=>h c2),iQ omQ,iJ c2];by_cases c3:jh M.l o.at_=o.was
     ·rw[iQ (λh=>h c3),iG ⟨rfl,c3⟩,iJ ⟨rfl,c3⟩]
     ·rw[iJ c3,iV (λh=>c3 h.2),iQ (λh=>c3 h.2)]
    ·rw[iJ c2,iQ c2,iV osQ,iQ osQ]
   ·rw[iJ omQ,iQ c,iV osQ,iQ osQ]
  subst e;refine qE H3 (b:=b0) (off:=4) e_2 rfl omQ (l:=ji o.was) rfl ?_;refine qQ (qE H3 (b:=b0) (off:=7) e_2 rfl omQ (l:=ji o.lk) rfl ?_);refine qW (qjb omQ (H3.sub (.cons e_6 (.cons e_6 .refl)))) ?_;rintro _ h4 ⟨rfl,H4⟩;refine qw rfl ?_;refine qw rfl ?_;refine qQ (qH H4 (b:=b2) e_2 ⟨rfl,rfl⟩ (by show 4<6;omega) λh5 H5=>?_);refine qQ (qH H5 (b:=b2) .here ⟨rfl,rfl⟩ (by show 5<6;omega) λh6 H6=>?_);exact hj _ _ ⟨rfl,H6.sub (.cons .here (.cons e_2 (.cons e_3 (.cons e_3 (.cons e_3 (.cons .here (.cons .here (.drop .refl))))))))⟩
 refine qZ k4 ?_;refine qJ ?_;by_cases k5:o.kind=5
 ·refine qz k5 ?_;refine qX (qq (qQ (qG ‹_› e_3 rfl ?_)));refine qQ (qG ‹_› e_2 rfl ?_);refine qQ ?_;have e:r=(⟨0,lk0,false,w4 M.l.length o.at_ o.lk⟩,{ M with l:=if w4 M.l.length o.at_ o.lk=0 then M.l.set o.at_.toNat o.lk else M.l }):=by
   rw[← hr];unfold yS kT w4 anE an0;rw[iQ omQ,iJ (.inr (.inr k5))];by_cases c:0≤o.at_∧o.at_<M.l.length
   ·rw[iQ omQ,iQ k3,iJ c];by_cases c2:YA o.lk
    ·rw[iQ (λh=>h c2),iJ k5,iJ c2,iJ rfl]
    ·rw[iJ c2,iQ c2,iQ od]
   ·rw[iJ omQ,iQ c,iQ od]
  subst e;refine qE H3 (b:=b0) (off:=7) e_2 rfl omQ (l:=ji o.lk) rfl ?_;refine qW (qZu omQ (H3.sub (.cons e_6 (.cons e_6 .refl)))) ?_;rintro _ h4 ⟨rfl,H4⟩;refine qQ (qH H4 (b:=b2) e_2 ⟨rfl,rfl⟩ (by show 5<6;omega) λh5 H5=>?_);exact hj _ _ ⟨rfl,H5.sub (.cons .here (.cons e_2 (.cons e_3 (.cons e_3 (.cons e_3 (.cons .here (.cons .here (.drop .refl))))))))⟩
 refine qZ k5 ?_;refine qJ ?_;by_cases k6:o.kind=6
 ·refine qz k6 ?_;refine qX (qq (qQ (qG ‹_› e_3 rfl ?_)));have e:r=(⟨M.n,lk0,false,0⟩,M):=by
   rw[← hr];unfold yS J4;rw[iQ omQ,iQ omQ,iJ (.inl k6),iJ k6]
  subst e;refine qW (Np omQ H3 e_8) ?_;rintro _ _ ⟨rfl,rfl⟩;refine qQ (qH H3 (b:=b2) .here ⟨rfl,rfl⟩ (by show 0<6;omega) λh4 H4=>?_);exact hj _ _ ⟨rfl,H4.sub (.cons .here (.cons .here (.drop .refl)))⟩
 refine qZ k6 ?_;refine qJ ?_;by_cases k7:o.kind=7
 ·refine qz k7 ?_;refine qX (qq (qQ (qG ‹_› e_3 rfl ?_)));refine qQ (qG ‹_› e_2 rfl ?_);refine qQ (qG ‹_› e_2 rfl ?_);have e:r=(⟨0,lk0,(J4 M { o with kind:=7 }).1.done,(J4 M { o with kind:=7 }).1.err⟩,{ M with n:=(J4 M { o with kind:=7 }).2.n }):=by
   rw[← hr];unfold yS J4 anE an0;rw[iQ omQ,iQ omQ,iJ (.inr k7),iQ k6,iQ (show¬(7:Int)=6 by decide)];dsimp only
   repeat' split
   all_goals rfl
  subst e;refine qW (qjN (o:=o) omQ (H3.sub (.cons e_8 .refl))) ?_;rintro _ h4 ⟨rfl,H4⟩;refine qw rfl ?_;refine qw rfl ?_;refine qQ (qH H4 (b:=b2) e_1 ⟨rfl,rfl⟩ (by show 4<6;omega) λh5 H5=>?_);refine qQ (qH H5 (b:=b2) .here ⟨rfl,rfl⟩ (by show 5<6;omega) λh6 H6=>?_);exact hj _ _ ⟨rfl,H6.sub (.cons .here (.cons e_1 (.cons e_2 (.cons e_2 (.cons e_2 (.cons e_2 (.cons e_2 (.cons .here (.drop .refl)))))))))⟩
 refine qZ k7 ?_;refine qJ ?_;by_cases k8:o.kind=8
 ·refine qz k8 ?_;refine qX (qq (qQ (qG ‹_› e_3 rfl ?_)));refine qQ (qG ‹_› e_2 rfl ?_);have e:r=(⟨(if 0≤o.at_∧o.at_<M.s.length then qB M.s o.at_ else 0),lk0,false,(if 0≤o.at_∧o.at_<M.s.length then 0 else 2)⟩,M):=by
   rw[← hr];unfold yS Ys anE;rw[iQ omQ,iQ omQ,iQ omQ,iJ (.inl k8)];by_cases c:0≤o.at_∧o.at_<M.s.length
   ·rw[iQ omQ,iJ k8,iJ c,iJ c]
   ·rw[iJ omQ,iQ c,iQ c]
  subst e;refine qW (qWA omQ H3 e_9 e_10) ?_;rintro _ _ ⟨rfl,rfl⟩;refine qw rfl ?_;refine qw rfl ?_;refine qQ (qH H3 (b:=b2) .here ⟨rfl,rfl⟩ (by show 0<6;omega) λh4 H4=>?_);refine qQ (qH H4 (b:=b2) .here ⟨rfl,rfl⟩ (by show 5<6;omega) λh5 H5=>?_);exact hj _ _ ⟨rfl,H5.sub (.cons .here (.cons .here (.drop .refl)))⟩
 refine qZ k8 ?_;refine qJ ?_;by_cases k9:o.kind=9
 ·refine qz k9 ?_;refine qX (qq (qQ (qG ‹_› e_3 rfl ?_)));refine qQ (qG ‹_› e_2 rfl ?_);refine qQ (qG ‹_› e_2 rfl ?_);have e:r=(⟨0,lk0,false,(if 0≤o.at_∧o.at_<M.s.length then 0 else 2)⟩,{ M with s:=(if 0≤o.at_∧o.at_<M.s.length then M.s.set o.at_.toNat o.word else M.s) }):=by
   rw[← hr];unfold yS Ys anE;rw[iQ omQ,iQ omQ,iQ omQ,iJ (.inr k9)];by_cases c:0≤o.at_∧o.at_<M.s.length
   ·rw[iQ omQ,iQ k8,iJ c,iJ c];rfl
   ·rw[iJ omQ,iQ c,iQ c]
  subst e;refine qW (qXR omQ (H3.sub (.cons e_9 (.cons e_9 .refl)))) ?_;rintro _ h4 ⟨rfl,H4⟩;refine qQ (qH H4 (b:=b2) e_2 ⟨rfl,rfl⟩ (by show 5<6;omega) λh5 H5=>?_);exact hj _ _ ⟨rfl,H5.sub (.cons .here (.cons e_2 (.cons e_3 (.cons e_3 (.cons e_3 (.cons e_3 (.cons e_3 (.cons e_3 (.cons .here (.cons .here (.drop .refl)))))))))))⟩
 refine qZ k9 ?_;refine qJ (qQ ?_);have e:r=(anE 1,M):=by rw[← hr];unfold yS;rw[iQ omQ,iQ omQ,iQ omQ,iQ omQ]
 subst e;refine qH H3 (b:=b2) .here ⟨rfl,rfl⟩ (by show 5<6;omega) λh4 H4=>?_;exact hj _ _ ⟨rfl,H4.sub (.cons .here (.cons .here (.drop .refl)))⟩
theorem qVh (hn:7≤n) (hc:0≤M.cnt∧M.cnt<1000000000) (H:HS g h (MemC p S M::R)) :
  t_w n 8 [.ptr p 0,.agg (ym o)] h λr h'=>r=.agg (xq (xW M o).1)∧HS g h' (MemC p S (xW M o).2::R):=by
 refine t_e2 (S:=S8) rfl omQ λk hk=>?_;unfold S8;try simp only[iZ]
 refine qM H rfl λb0 h1 H1=>?_;refine qM H1 rfl λb1 h2 H2=>?_;refine qE H2 (b:=b0) (off:=0) e_1 rfl omQ (l:=ym o) rfl ?_;refine qW (qxp (o:=o) omQ (H2.sel e_2)) ?_;rintro _ h3 ⟨rfl,H3⟩;have ec:(yS M o).2.cnt=M.cnt:=OR;rw[wh];generalize yS M o=r at*;obtain⟨r,M'⟩:=r;dsimp only at ec H3 ⊢;refine qM H3 rfl λb2 h4 H4=>?_;refine qc H4 (b:=b2) .here rfl (by show 0+6≤6;omega) rfl λh5 H5=>?_;have H5:HS g h5 (qk b2 (xq r)::MemC p S M'::qk b1 (xq an0)::qk b0 (ym o)::R):=H5;clear H3 H4;have H6:=H5;unfold xq at H6;refine jT [] (λs h'=>s=(.ptr b2 0,.ptr b1 0,())∧HS g h' (qk b2 (xq r)::qk b1 (xq an0)::MemC p S (if r.err=0 then(r,{ M' with cnt:=M'.cnt+1 })else(r,M')).2::R)) ?_ ?_
 rotate_left
 ·rintro s h4 ⟨rfl,H4⟩;dsimp only;refine qE H4 (b:=b2) (off:=0) .here rfl omQ (l:=xq r) rfl ?_;refine qc H4 (b:=b1) e_1 rfl (by show 0+6≤6;omega) rfl λh5 H5=>?_;refine qx (qE H5 (b:=b1) (off:=0) .here rfl omQ (l:=xq r) rfl ?_);refine qY ⟨by split<;>rfl,?_⟩;exact H5.drop.drop
 intro j hj;refine qQ (qG ‹_› .here rfl ?_);by_cases c:r.err=0
 ·refine qz c ?_;rw[iJ c]at hj ⊢;refine qX (qq (qQ ?_));obtain⟨hb,tb,cb,sb,wv,lv,sv,H7⟩:=MemC.E (H5.sel e_1);refine qG ‹_› .here rfl ?_;refine qU omQ ?_;refine qq (qQ (qH H7 (b:=p) .here ⟨rfl,rfl⟩ (by show 9<10;omega) λh8 H8=>?_));have H9:HS g h8 (MemC p S { M' with cnt:=M'.cnt+1 }::_):=MemC.I (hb:=hb) (tb:=tb) (cb:=cb) (sb:=sb) (wv:=wv) (lv:=lv) (sv:=sv) H8;exact hj _ _ ⟨rfl,H9.sub (.cons e_1 (.cons e_1 (.cons .here (.drop .refl))))⟩
 ·refine qZ c ?_;rw[iQ c]at hj ⊢;refine qJ ?_;exact hj _ _ ⟨rfl,H5.sub (.cons .here (.cons e_1 (.cons .here (.drop .refl))))⟩
end
end Go.Proofs.YtnalffoigcmnnaaGreatDoor
namespace Go.Proofs.YtnalffoigcmnnaaGreatDoor
open Go Go.Ae
set_option maxRecDepth 100000
variable {g h:AH} {L R:List SP}
theorem qWf:∀{a b:List Int},a.Pairwise (· < ·)→b.Pairwise (· < ·)→(∀x,x∈a↔x∈b)→a=b:=by
 intro a
 induction a with
 |nil=>
  intro b _ _ h;cases b with
  |nil=>rfl
  |cons y b=>have:=(h y).2 (iK ..);cases this
 |cons x a ih=>
  intro b ha hb h;cases b with
  |nil=>have:=(h x).1 (iK ..);cases this
  |cons y b=>
   have ha':=List.pairwise_cons.1 ha;have hb':=List.pairwise_cons.1 hb;have e:x=y:=by
    rcases List.mem_cons.1 ((h x).1 (iK ..))with e |e
    ·exact e
    ·rcases List.mem_cons.1 ((h y).2 (iK ..))with e2 |e2
     ·exact e2.symm
     ·have h1:=hb'.1 x e;have h2:=ha'.1 y e2;omega
   subst e
   congr 1
   refine ih ha'.2 hb'.2 λz=>⟨λhz=>?_,λhz=>?_⟩
   ·rcases List.mem_cons.1 ((h z).1 (iX _ hz))with e |e
    ·have:=ha'.1 z hz;omega
    ·exact e
   ·rcases List.mem_cons.1 ((h z).2 (iX _ hz))with e |e
    ·have:=hb'.1 z hz;omega
    ·exact e
theorem qXt {d:Array Int} (hs:∀i j,i≤j→j<d.size→d[i]! ≤d[j]!):∀m,m≤d.size→(Lib.compactUpTo d m).Pairwise (· < ·)∧∀x,x∈Lib.compactUpTo d m↔∃j,j<m∧d[j]! =x:=by
 intro m
 induction m with
 |zero=>intro _;exact⟨List.Pairwise.nil,λx=>⟨(λh=>by cases h),λ⟨j,h,_⟩=>by omega⟩⟩
 |succ m ih=>
  intro hm;obtain⟨p,q⟩:=ih omQ;rw[Lib.compactUpTo_succ];by_cases hk:Lib.keeps d m=true
  ·rw[iJ hk];refine⟨?_,λx=>?_⟩
   ·rw[List.pairwise_append];refine⟨p,List.pairwise_singleton ..,λa ha b hb=>?_⟩;rw[List.mem_singleton]at hb;subst hb;obtain⟨j,hj,rfl⟩:=(q a).1 ha;have h1:=hs j (m-1) omQ omQ;have h2:=hs (m-1) m omQ omQ;have h3:d[m]! ≠d[m-1]!:=by
     intro e;rw[Lib.keeps_neg omQ e]at hk;cases hk
    omega
   ·rw[List.mem_append,q x,List.mem_singleton];refine⟨λh=>?_,λ⟨j,hj,e⟩=>?_⟩
    ·rcases h with⟨j,hj,e⟩ |e
     ·exact⟨j,by omega,e⟩
     ·exact⟨m,by omega,e.symm⟩
    ·by_cases hjm:j=m
     ·subst hjm;exact .inr e.symm
     ·exact .inl ⟨j,by omega,e⟩
  ·rw[iQ hk,List.append_nil];refine⟨p,λx=>?_⟩;rw[q x];refine⟨λ⟨j,hj,e⟩=>⟨j,by omega,e⟩,λ⟨j,hj,e⟩=>?_⟩;by_cases hjm:j=m
   ·subst hjm;have h0:0<j:=by
     rcases Nat.eq_zero_or_pos j with h |h
     ·subst h;exact absurd (Lib.keeps_lt_one d 0 omQ) hk
     ·exact h
    refine⟨j-1,by omega,?_⟩;refine Decidable.byContradiction λhne=>hk (Lib.keeps_pos λh=>hne ?_);rw[← h,e]
   ·exact⟨j,by omega,e⟩
theorem qjE {zs:List Int} (h:zs.Pairwise (· ≤ ·)):(Lib.compact zs).Pairwise (· < ·)∧∀x,x∈Lib.compact zs↔x∈zs:=by
 have hg:∀i:Nat,i<zs.length→zs.toArray[i]! =zs[i]!:=λi hi=>by simp
 obtain⟨p,q⟩:=qXt (d:=zs.toArray) (λi j hij hj=>by
  have hj:j<zs.length:=by simpa using hj
  rw[hg i omQ,hg j hj,getElem!_pos zs i omQ,getElem!_pos zs j hj];by_cases e:i=j
  ·subst e;exact Int.le_refl _
  ·exact List.pairwise_iff_getElem.1 h i j omQ hj omQ) zs.length osQ
 refine⟨p,λx=>?_⟩;refine(q x).trans ⟨λ⟨j,hj,e⟩=>?_,λhx=>?_⟩
 ·rw[hg j hj,getElem!_pos zs j hj]at e;rw[← e];exact List.getElem_mem hj
 ·obtain⟨j,hj,e⟩:=List.mem_iff_getElem.1 hx;exact⟨j,hj,by rw[hg j hj,getElem!_pos zs j hj];exact e⟩
theorem Nr {p n w:Int} (h:0≤p):0≤ofM p n w∧ofM p n w<16:=by unfold ofM;rw[iQ omQ];have h1:=Int.emod_nonneg (p/max 1 (min w 16)) (show max 1 (min n 16)≠0 by omega);have h2:=Int.emod_lt_of_pos (p/max 1 (min w 16)) (show 0<max 1 (min n 16) by omega);omega
theorem Qg {cs:List Cl} {n w:Int}:(zr cs n w).Pairwise (· < ·):=by unfold zr;refine List.Pairwise.filter _ ?_;rw[List.pairwise_map];exact List.pairwise_lt_range.imp λh=>by omega
theorem Qe {cs:List Cl} {n w:Int} (h:∀c∈cs,0≤c.1) {x:Int}:x∈zr cs n w↔x∈cs.map λc=>ofM c.1 n w:=by unfold zr;rw[List.mem_filter,List.any_eq_true,List.mem_map,List.mem_map];refine⟨λ⟨_,c,hc,e⟩=>⟨c,hc,by simpa using e⟩,λ⟨c,hc,e⟩=>⟨?_,c,hc,by simpa using e⟩⟩;have:=Nr (n:=n) (w:=w) (h c hc);exact⟨x.toNat,List.mem_range.2 omQ,by omega⟩
theorem Oi {cs:List Cl} {n w:Int} (h:∀c∈cs,0≤c.1):Lib.compact (kZ (cs.map λc=>ofM c.1 n w))=zr cs n w:=by obtain⟨p,q⟩:=qjE (XG (cs.map λc=>ofM c.1 n w));exact qWf p Qg λx=>by rw[q,(Ql _).mem_iff,Qe h]
section
variable {n m:Nat} {v:AV} {zs:List Int}
theorem qWe {e:TypeId} (hn:1≤n) (H:HS g h (qD e 1 m v (zs.map (.int .i64))::R)) (h0:0<m) (hm:m≤1000000) :
  t_w n 177 [v] h λ_ h'=>HS g h' (qD e 1 m v ((kZ zs).map (.int .i64))::R):=by
 have hl:zs.length=m:=by have:=H.sl_len .here;simpa using this
 obtain⟨b,cp,o,ys,rfl,HC,q1,q2,q3⟩:=H.slE h0;rw[Nat.mul_one]at q1 q2;refine qy (g:=W177) rfl omQ λk hk=>?_;show wp (OJ _ [.slice b 0 m cp o] h) _;obtain⟨D,⟨hD,A⟩,hb2,kk⟩:=HC.act;obtain⟨c,c1,c2,c3⟩:=A.blk;unfold OJ;simp only[c1,c2];rw[q2,MH];simp only[];rw[show Nat.beq zs.length m=true from by rw[hl];exact Nat.beq_refl _,iY hm];simp only[Bool.and_self,cond_true];refine⟨_,_,rfl,?_⟩;have HC':=kk _ (Cell b ((kZ zs).map (.int .i64)++ys.drop m) e o) D ⟨by simp,λa ha hn=>AH.get_put_ne h _ λe=>hn ((hD a).2 e.symm)⟩ ⟨hD,by simpa using A.lt,CT.ofList _,AH.get_put_same ..,CT.ofList_ok _,CT.full_ofList _⟩ λa ha=>⟨.inl ha,by have:=(hb2 a ha).2;simpa using this⟩;have hlen:((kZ zs).map (AV.int .i64)).length=m:=by rw[List.length_map,K3,hl]
 have:=HS.slI (n:=m) (sz:=1) (cp:=cp) HC' (by rw[List.length_append,hlen];omega) (by
  rw[List.length_append,hlen,List.length_drop,show m+(ys.length-m)=ys.length by omega];exact q3)
 rw[Nat.mul_one,List.take_append_of_le_length omQ,List.take_of_length_le omQ]at this;exact this
theorem qKt (hn:1≤n) (H:HS g h (qD 3 1 m v (zs.map (.int .i64))::R)) (h0:0<m) (hm:m≤1000000) :
  t_w n 178 [v] h λr h'=>HS g h' (qD 3 1 (Lib.compact zs).length r ((Lib.compact zs).map (.int .i64))::R):=by
 have hl:zs.length=m:=by have:=H.sl_len .here;simpa using this
 obtain⟨b,cp,o,ys,rfl,HC,q1,q2,q3⟩:=H.slE h0;rw[Nat.mul_one]at q1 q2;refine qy (g:=W178) rfl omQ λk hk=>?_;show wp (Oj 3 _ [.slice b 0 m cp o] h) _;obtain⟨D,⟨hD,A⟩,hb2,kk⟩:=HC.act;obtain⟨c,c1,c2,c3⟩:=A.blk;have hle:=qQ6 zs;unfold Oj;simp only[c1,c2];rw[q2,MH];simp only[];have hc:(Nat.beq zs.length m&&(Nat.ble m 1000000&&(bif o then Nat.beq cp 0&&(o&&Nat.beq 3 3)else Nat.ble m cp)))=true:=by
  rw[show Nat.beq zs.length m=true from by rw[hl];exact Nat.beq_refl _,iY hm];cases o with
  |true=>rw[iJ rfl]at q3;subst q3;rfl
  |false=>rw[iQ osQ]at q3;simp only[Bool.true_and,cond_false];exact iY q3.2
 rw[hc];simp only[cond_true];refine⟨_,_,rfl,?_⟩;have HC':=kk _ (Cell b ((Lib.compact zs++List.replicate (zs.length-(Lib.compact zs).length) 0).map (.int .i64)++ys.drop m) 3 o) D ⟨by simp,λa ha hn=>AH.get_put_ne h _ λe=>hn ((hD a).2 e.symm)⟩ ⟨hD,by simpa using A.lt,CT.ofList _,AH.get_put_same ..,CT.ofList_ok _,CT.full_ofList _⟩ λa ha=>⟨.inl ha,by have:=(hb2 a ha).2;simpa using this⟩;have hlen:((Lib.compact zs++List.replicate (zs.length-(Lib.compact zs).length) 0).map (AV.int .i64)).length=m:=by simp;omega
 have:=HS.slI (n:=(Lib.compact zs).length) (sz:=1) (cp:=cp) HC' (by rw[List.length_append,hlen];omega) (by
  rw[List.length_append,hlen,List.length_drop,show m+(ys.length-m)=ys.length by omega];cases o with
  |true=>exact q3
  |false=>rw[iQ osQ]at q3 ⊢;exact⟨q3.1,by omega⟩)
 have tk:((Lib.compact zs++List.replicate (zs.length-(Lib.compact zs).length) 0).map (AV.int .i64)++ys.drop m).take (Lib.compact zs).length=(Lib.compact zs).map (AV.int .i64):=by rw[List.take_append_of_le_length omQ,List.map_append,List.take_append_of_le_length osQ,List.take_of_length_le osQ]
 rw[Nat.mul_one,tk]at this;exact this
theorem qW7:∀{l:List Int},l.Pairwise (· ≤ ·)→Ks l=true:=by
 intro l
 induction l with
 |nil=>intro _;rfl
 |cons x r ih=>
  intro h;cases r with
  |nil=>rfl
  |cons y r=>have h1:=List.pairwise_cons.1 h;unfold Ks;rw[ih h1.2,iG (h1.1 y (iK ..))];rfl
theorem qKU {e:TypeId} {x:Int} (hn:1≤n) (H:HS g h L) (s:Sel L (qD e 1 m v (zs.map (.int .i64))) R) (h0:0<m) (hm:m≤1000000) (hs:zs.Pairwise (· ≤ ·)) :
  t_w n 348 [v,.int .i64 x] h λr h'=>r=.tup [.int .i64 (zs.countP (· <x):Nat),.bool (zs.contains x)]∧h'=h:=by
 have hl:zs.length=m:=by have:=H.sl_len s;simpa using this
 obtain⟨b,cp,o,ys,rfl,HC,q1,q2,q3⟩:=(H.sel s).slE h0;rw[Nat.mul_one]at q1 q2;refine qy (g:=W348) rfl omQ λk hk=>?_;show wp (Mu _ [.slice b 0 m cp o,.int .i64 x] h) _;obtain⟨D,⟨hD,A⟩,hb2,kk⟩:=HC.act;obtain⟨c,c1,c2,c3⟩:=A.blk;unfold Mu;simp only[c1,c2];rw[q2,MH];simp only[];rw[show Nat.beq zs.length m=true from by rw[hl];exact Nat.beq_refl _,iY hm,qW7 hs];exact⟨_,_,rfl,rfl,rfl⟩
end
theorem Gd {n:Nat} {a b:Int} (hn:1≤n):t_w n 63 [.int .i64 a,.int .i64 b] h λr h'=>r=.int .i64 (max 1 (min a b))∧h'=h:=by
 refine t_e2 (S:=S63) rfl omQ λk hk=>?_;unfold S63;try simp only[iZ]
 refine jm (zK ?_);exact qY ⟨rfl,rfl⟩
theorem qGo {n:Nat} {p a w:Int} (hn:2≤n) (hp:p<4611686018427387904):t_w n 127 [.int .i64 p,.int .i64 a,.int .i64 w] h λr h'=>r=.int .i64 (ofM p a w)∧h'=h:=by
 refine t_e3 (S:=S127) rfl omQ λk hk=>?_;unfold S127;try simp only[iZ]
 unfold ofM;by_cases c:p<0
 ·refine zq c ?_;rw[iJ c];refine qX ?_;exact qY ⟨rfl,rfl⟩
 ·refine jo c ?_;rw[iQ c];refine qJ (qW (Gd omQ) ?_);rintro _ _ ⟨rfl,rfl⟩;refine qkS omQ ?_;have h1:p.tdiv (max 1 (min w ((16:Nat):Int)))=p/max 1 (min w 16):=Int.tdiv_eq_ediv_of_nonneg omQ;have h2:0≤p/max 1 (min w 16):=Int.ediv_nonneg omQ omQ;have h3:p/max 1 (min w 16)≤p:=Int.ediv_le_self _ omQ;rw[h1,NA omQ];refine qW (Gd omQ) ?_;rintro _ _ ⟨rfl,rfl⟩;refine kM omQ ?_;rw[Int.tmod_eq_emod_of_nonneg h2];exact qY ⟨rfl,rfl⟩
theorem Zu {n:Nat} {cv:AV} {cs:List Cl} {a w:Int} (hn:4≤n) (H:HS g h R) (S:Rd g R 2 cs.length cv (cs.flatMap jU)) (h0:0<cs.length) (hl:cs.length≤1000) (hc:∀c∈cs,0≤c.1∧c.1<100000) :
  t_w n 132 [cv,.int .i64 a,.int .i64 w] h λr h'=>HS g h' (qD 3 1 (zr cs a w).length r ((zr cs a w).map (.int .i64))::R):=by
 refine t_e3 (S:=S132) rfl omQ λk hk=>?_;unfold S132;try simp only[iZ]
 have hLV:=(S.sl H).lenV;refine xl ‹_› ?_
 refine jP (λm s h'=>∃(i:Nat) (v:AV),s=(.int .i64 (i:Int),.int .i64 (cs.length:Int),cv,v,.int .i64 w,.int .i64 a,())∧i≤cs.length∧m=cs.length-i∧
  HS g h' (qD 3 1 i v (((cs.take i).map λc=>ofM c.1 a w).map (.int .i64))::R))
  ?_ (m:=cs.length) (by show _<1000000000;omega) ⟨0,.nils,rfl,by omega,by omega,H.nils⟩
 clear H hLV;rintro m ih s h2 hih ⟨i,v,rfl,hi,rfl,H⟩;dsimp only;by_cases hlt:i<cs.length
 ·refine zq omQ (qX ?_);have hci:=hc _ (List.getElem_mem hlt);have hr:=Nr (n:=a) (w:=w) hci.1;refine qV ?_
  try dsimp only
  refine zf (l:=jU cs[i]) (S.sl H.drop) hlt omQ (kg (sz:=2) (enc:=jU) (λ_=>rfl) (iW hlt)) ?_;refine qM H rfl λb h3 H3=>?_;refine qc H3 (b:=b) .here rfl (by show 0+2≤2;omega) rfl λh4 H4=>?_;have H4:HS g h4 (qk b [.int .i64 cs[i].1,.int .u64 cs[i].2]::qD 3 1 i v (((cs.take i).map λc=>ofM c.1 a w).map (.int .i64))::R):=H4;refine qQ (qG ‹_› .here rfl ?_);refine qW (qGo omQ omQ) ?_;rintro _ _ ⟨rfl,rfl⟩;refine zz omQ (qX ?_);refine qr (n:=1) (l:=[.int .i64 (ofM cs[i].1 a w)]) (sz:=1) H4 rfl rfl rfl rfl λv2 h5 H5=>?_;refine zT (H5.sel e_2) (H5.sl .here) omQ omQ rfl λv3 h6 H6=>?_;refine qU omQ ?_;refine hih (cs.length-(i+1)) _ _ omQ ⟨i+1,v3,rfl,by omega,rfl,?_⟩;have e:(cs.take (i+1)).map (λc=>ofM c.1 a w)=(cs.take i).map (λc=>ofM c.1 a w)++[ofM cs[i].1 a w]:=by rw[List.take_add_one,iW hlt,List.map_append];rfl
  rw[e,List.map_append];exact H6.sub (.cons .here (.drop (.drop .refl)))
 ·obtain rfl:i=cs.length:=by omega
  refine jo omQ (qJ ?_);rw[List.take_of_length_le (Nat.le_refl _)]at H;refine qW (qWe omQ H h0 omQ) λ_ h3 H3=>?_;refine qW (qKt omQ H3 h0 omQ) λr h4 H4=>?_;rw[Oi λc hc'=>(hc c hc').1]at H4;refine qx ?_;exact qY H4
end Go.Proofs.YtnalffoigcmnnaaGreatDoor
namespace Go.Proofs.YtnalffoigcmnnaaGreatDoor
open Go Go.Ae
set_option maxRecDepth 100000
variable {g h:AH} {L R:List SP}
theorem Oe {l:List xG} {k:Nat} (hk:k<l.length):((l.flatMap vM).drop (k*2)).take 2=vM (zC l (k:Int)):=kg (sz:=2) (enc:=vM) (λ_=>rfl) (by unfold zC;rw[Int.toNat_natCast,iW hk];rfl)
theorem ko {l:List xG} {k:Nat} (hk:k<l.length):(l.flatMap vM)[k*2+0]? =some (.int .i64 (zC l (k:Int)).1)∧(l.flatMap vM)[k*2+1]? =some (.int .u64 (zC l (k:Int)).2):=by
 have e:=Oe hk;have hl:(l.flatMap vM).length=l.length*2:=wo (sz:=2) vM (λ_=>rfl) (l:=l);constructor
 ·have:=congrArg (·[0]?) e;simp only[List.getElem?_take_of_lt (show 0<2 by omega),List.getElem?_drop]at this;exact this
 ·have:=congrArg (·[1]?) e;simp only[List.getElem?_take_of_lt (show 1<2 by omega),List.getElem?_drop]at this;exact this
def RdsC (b:Nat) (r:List xG):SP:=.ex λsv=>.all [qk b [.int .i64 16,sv],qD 211 2 r.length sv (r.flatMap vM)]
section
variable {n b:Nat} {r:List xG} {x:xG}
theorem RdsC.E (H:HS g h (RdsC b r::R)):∃sv,HS g h (qk b [.int .i64 16,sv]::qD 211 2 r.length sv (r.flatMap vM)::R):=by obtain⟨sv,H⟩:=H.exE;exact⟨sv,H.allE⟩
theorem RdsC.I {sv:AV} (H:HS g h (qk b [.int .i64 16,sv]::qD 211 2 r.length sv (r.flatMap vM)::R)):HS g h (RdsC b r::R):=HS.exI sv H.allI
theorem qze (hn:1≤n) (H:HS g h R):t_w n 75 [.int .i64 ((16:Nat):Int)] h λv h'=>∃b,v=.ptr b 0∧HS g h' (RdsC b []::R):=by
 refine t_e1 (S:=S75) rfl omQ λk hk=>?_;unfold S75;try simp only[iZ]
 refine jm (zK (qI rfl ?_));refine qM H rfl λb h1 H1=>qY ⟨b,rfl,RdsC.I (sv:=.nils) ?_⟩;have:=(H1.nils (e:=211) (sz:=2));exact this.sub (.cons e_1 (.cons .here .refl))
theorem qY5 {r:List xG} {i:Nat} {st:Int} {y:xG} (hb:∀z∈r.take i,z.1≠st) (hi:r[i]? =some y) (hy:y.1=st):r.find? (λz=>decide (z.1=st))=some y:=by
 obtain⟨hlt,e⟩:=List.getElem?_eq_some_iff.1 hi;have h1:(r.take i).find? (λz=>decide (z.1=st))=none:=List.find?_eq_none.2 λz hz=>by simpa using hb z hz
 have h2:r=r.take i++y::r.drop (i+1):=by rw[← e,← List.drop_eq_getElem_cons hlt,List.take_append_drop]
 rw[h2,List.find?_append,h1,List.find?_cons,iG hy];rfl
theorem qqC {st:Int} (hn:1≤n) (hr:r.length≤1000) (H:HS g h (RdsC b r::R)) :
  t_w n 246 [.ptr b 0,.int .i64 st] h λv h'=>v=.tup [.int .u64 ((r.find? λz=>decide (z.1=st)).getD (0,0)).2,.bool (r.find? λz=>decide (z.1=st)).isSome]∧HS g h' (RdsC b r::R):=by
 refine t_e2 (S:=S246) rfl omQ λk hk=>?_;unfold S246;try simp only[iZ]
 obtain⟨sv,H⟩:=RdsC.E H;refine qq (qQ (qG ‹_› .here rfl ?_));refine qs ‹_› e_1 ?_;refine jP (λm s h'=>∃i:Nat,s=(.int .i64 (i:Int),.int .i64 (r.length:Int),sv,.int .i64 st,())∧i≤r.length∧m=r.length-i∧(∀z∈r.take i,z.1≠st)∧HS g h' (qk b [.int .i64 16,sv]::qD 211 2 r.length sv (r.flatMap vM)::R))
  ?_ (m:=r.length) (by show _<1000000000;omega) ⟨0,rfl,by omega,by omega,by simp,H⟩
 clear H;rintro m ih s h2 hih ⟨i,rfl,hi,rfl,hb,H⟩;dsimp only;by_cases hlt:i<r.length
 ·refine zq omQ (qX ?_);refine zf (l:=vM (zC r i)) (H.sl e_1) hlt omQ (Oe hlt) ?_;refine qM H rfl λc h3 H3=>?_;refine qc H3 (b:=c) .here rfl (by show 0+2≤2;omega) rfl λh4 H4=>?_;have H4:HS g h4 (qk c [.int .i64 (zC r i).1,.int .u64 (zC r i).2]::qk b [.int .i64 16,sv]::qD 211 2 r.length sv (r.flatMap vM)::R):=H4;have hg:r[i]? =some (zC r i):=by unfold zC;rw[Int.toNat_natCast,iW hlt];rfl
  refine qQ (qG ‹_› .here rfl ?_);by_cases hy:(zC r i).1=st
  ·refine qz hy ?_;refine qX (qQ (qG ‹_› .here rfl ?_));refine qx ?_;rw[qY5 hb hg hy];exact qY ⟨rfl,RdsC.I H4.drop⟩
  ·refine qZ hy ?_;refine qJ (qU omQ ?_);refine hih (r.length-(i+1)) _ _ omQ ⟨i+1,rfl,by omega,rfl,?_,H4.drop⟩;intro z hz;rw[List.take_add_one,hg]at hz;rcases List.mem_append.1 hz with hz |hz
   ·exact hb z hz
   ·simp only[Option.toList_some,List.mem_singleton]at hz;subst hz;exact hy
 ·obtain rfl:i=r.length:=by omega
  refine jo omQ (qJ ?_);rw[List.take_of_length_le (Nat.le_refl _)]at hb;rw[List.find?_eq_none.2 λz hz=>by simpa using hb z hz];refine qx ?_;exact qY ⟨rfl,RdsC.I H⟩
theorem qjP (hn:2≤n) (hr:r.length≤16) (H:HS g h (RdsC b r::R)) :
  t_w n 180 [.ptr b 0,.agg (vM x)] h λv h'=>v=.int .i64 (wk r x).1∧HS g h' (RdsC b (wk r x).2::R):=by
 refine t_e2 (S:=S180) rfl omQ λk hk=>?_;unfold S180;try simp only[iZ]
 generalize hA:wk r x=A;refine qM H rfl λb0 h1 H1=>?_;have H1:HS g h1 (qk b0 [.int .i64 x.1,.int .u64 x.2]::RdsC b r::R):=H1;unfold wk at hA;refine qQ (qG ‹_› .here rfl ?_);by_cases c1:x.1<0
 ·refine zq c1 ?_;refine qV ?_;(try dsimp only);refine qf ?_;(try dsimp only);refine qC (qV ?_);(try dsimp only);refine qf ?_;(try dsimp only);refine qC (qX ?_)
  rw[iJ (.inl c1)]at hA;subst hA;exact qY ⟨rfl,H1.drop⟩
 refine jo c1 ?_;refine qV ?_;(try dsimp only);refine qa ?_;(try dsimp only);refine qQ (qG ‹_› .here rfl ?_)
 by_cases c2:16≤x.1
 ·refine zz omQ ?_;refine qF (qV ?_);(try dsimp only);refine qf ?_;(try dsimp only);refine qC (qX ?_)
  rw[iJ (.inr (.inl c2))]at hA;subst hA;exact qY ⟨rfl,H1.drop⟩
 refine zB omQ ?_;refine qF (qV ?_);(try dsimp only);refine qa ?_;(try dsimp only);refine qQ (qG ‹_› .here rfl ?_)
 by_cases c3:4611686018427387904≤x.2
 ·refine zz omQ ?_;refine qF (qX ?_);rw[iJ (.inr (.inr c3))]at hA;subst hA;exact qY ⟨rfl,H1.drop⟩
 refine zB omQ ?_;refine qF (qJ (qQ (qG ‹_› .here rfl ?_)));rw[iQ omQ]at hA;refine qW (qqC omQ omQ (H1.sel e_1)) ?_;rintro _ h2 ⟨rfl,H2⟩;have H3:=H2.sel e_1;refine qw rfl ?_;refine qw rfl ?_;cases hf:r.find? λz=>decide (z.1=x.1)with
 |some y=>
  rw[hf]at hA;dsimp only at hA;refine qX (qQ (qG ‹_› .here rfl ?_));by_cases c4:y.2=x.2
  ·refine jk c4 ?_;rw[iQ (λh=>h c4)]at hA;subst hA;refine qJ ?_;exact qY ⟨rfl,H3.drop⟩
  ·refine jq c4 ?_;rw[iJ c4]at hA;subst hA;refine qX ?_;exact qY ⟨rfl,H3.drop⟩
 |none=>
  rw[hf]at hA;dsimp only at hA;refine qJ ?_;obtain⟨sv,H4⟩:=RdsC.E H2;refine qq (qQ (qG ‹_› .here rfl ?_));refine qs ‹_› e_1 ?_;refine qq (qQ (qG ‹_› .here rfl ?_));by_cases c4:r.length=16
  ·refine qz omQ ?_;rw[iJ c4]at hA;subst hA;refine qX ?_;exact qY ⟨rfl,H3.drop⟩
  ·refine qZ omQ ?_;rw[iQ c4]at hA;subst hA;refine qJ (qq (qQ (qG ‹_› .here rfl ?_)));refine qE H4 (b:=b0) (off:=0) e_2 rfl omQ (l:=vM x) rfl ?_;refine qr (n:=1) (l:=vM x) (sz:=2) H4 rfl rfl rfl rfl λv2 h5 H5=>?_;refine zT (H5.sel e_2) (H5.sl .here) omQ omQ rfl λv3 h6 H6=>?_;have o6:=H6.one .here;refine qq (qQ (qH H6 (b:=b) e_2 o6 osQ λh7 H7=>?_));refine qY ⟨rfl,RdsC.I (sv:=v3) ?_⟩;rw[List.length_append,List.flatMap_append];exact H7.sub (.cons .here (.cons .here (.drop (.drop .refl))))
theorem qQH (hn:2≤n) (hr:r.length≤1000) (H:HS g h (RdsC b r::R)):t_w n 94 [.ptr b 0] h λv h'=>HS g h' (qD 211 2 r.length v (r.flatMap vM)::RdsC b r::R):=by
 refine t_e1 (S:=S94) rfl omQ λk hk=>?_;unfold S94;try simp only[iZ]
 obtain⟨sv,H⟩:=RdsC.E H;refine qq (qQ (qG ‹_› .here rfl ?_));refine qW (Xk omQ H e_1 (YZ (λ_=>rfl) _) omQ) λv h1 H1=>qY ?_;exact HS.unsel e_1 (RdsC.I (sv:=sv) (H1.sub (.cons e_1 (.cons e_1 (.cons .here .refl)))))
end
def KD (x:kP) (sv:AV):List AV:=xe x.p [sv,.bool x.loaded,.int .i64 x.at_,.int .u64 x.stamp]
def ExtC (b:Nat) (x:kP):SP:=.ex λsv=>.all [qk b (KD x sv),qD 211 2 x.seen.length sv (x.seen.flatMap vM)]
structure KB (x:kP):Prop where
  p:GC x.p
  lo:0≤x.at_
  hi:x.at_≤1000
  len:x.seen.length≤16
  le:x.at_≤x.seen.length
  in_:x.p.fin=0→x.loaded=true→x.at_<x.seen.length
section
variable {n b:Nat} {x:kP}
theorem ExtC.E (H:HS g h (ExtC b x::R)):∃sv,HS g h (qk b (KD x sv)::qD 211 2 x.seen.length sv (x.seen.flatMap vM)::R):=by obtain⟨sv,H⟩:=H.exE;exact⟨sv,H.allE⟩
theorem ExtC.I {sv:AV} (H:HS g h (qk b (KD x sv)::qD 211 2 x.seen.length sv (x.seen.flatMap vM)::R)):HS g h (ExtC b x::R):=HS.exI sv H.allI
theorem qj1 {me sp:Int} {v:AV} {r:List xG} (hn:2≤n) (hr:r.length≤1000) (H:HS g h (qD 211 2 r.length v (r.flatMap vM)::R)) :
  t_w n 128 [.int .i64 me,.int .i64 sp,v] h λv h'=>∃b,v=.ptr b 0∧HS g h' (ExtC b (UA me sp r)::R):=by
 refine t_e3 (S:=S128) rfl omQ λk hk=>?_;unfold S128;try simp only[iZ]
 refine qW (V7 omQ H) ?_;rintro _ h1 ⟨rfl,H1⟩;refine qW (Xk omQ H1 .here (YZ (λ_=>rfl) _) omQ) λv h2 H2=>?_;unfold xe;have o2:=H2.one .here;refine qI (l:=KD (UA me sp r) v) (by simp only[vB,o2.1];rfl) ?_;refine qM H2 (by show ql [_,_,_,_,_,v,_,_,_]=true;simp only[ql,List.all_cons,o2.2];rfl) λb h3 H3=>qY ⟨b,rfl,?_⟩;exact ExtC.I (sv:=v) (H3.sub (.cons .here (.cons .here (.drop .refl))))
theorem qQn (hn:2≤n) {sv:AV} (H:HS g h L) (s:Sel L (qk b (KD x sv)) R):t_w n 183 [.ptr b 0] h λr h'=>r=.int .i64 x.p.fin∧h'=h:=by
 refine t_e1 (S:=S183) rfl omQ λk hk=>?_;unfold S183;try simp only[iZ]
 refine qq (qQ (qW (JO omQ H s) ?_));rintro _ _ ⟨rfl,rfl⟩;exact qY ⟨rfl,rfl⟩
theorem qkd (hn:2≤n) {sv:AV} (H:HS g h L) (s:Sel L (qk b (KD x sv)) R):t_w n 332 [.ptr b 0] h λr h'=>r=.int .i64 x.p.by_∧h'=h:=by
 refine t_e1 (S:=S332) rfl omQ λk hk=>?_;unfold S332;try simp only[iZ]
 refine qq (qQ (qW (O9 omQ H s) ?_));rintro _ _ ⟨rfl,rfl⟩;exact qY ⟨rfl,rfl⟩
theorem Ut (hn:3≤n) {sv:AV} (H:HS g h L) (s:Sel L (qk b (KD x sv)) R):t_w n 135 [.ptr b 0] h λr h'=>r=.int .u64 (ve x)∧h'=h:=by
 refine t_e1 (S:=S135) rfl omQ λk hk=>?_;unfold S135;try simp only[iZ]
 refine qW (qQn omQ H s) ?_;rintro _ _ ⟨rfl,rfl⟩;unfold ve;by_cases c:x.p.fin=2
 ·refine jk c ?_;rw[iQ (λh=>h c)];refine qJ (qq (qQ ?_));exact qG H s rfl (qY ⟨rfl,rfl⟩)
 ·refine jq c ?_;rw[iJ c];refine qX ?_;exact qY ⟨rfl,rfl⟩
theorem qK5 (hn:2≤n) (O:KB x) (H:HS g h (ExtC b x::R)):t_w n 333 [.ptr b 0] h λr h'=>r=opV (QY x)∧HS g h' (ExtC b x::R):=by
 refine t_e1 (S:=S333) rfl omQ λk hk=>?_;unfold S333;try simp only[iZ]
 obtain⟨sv,H⟩:=ExtC.E H;refine qM H rfl λb0 h1 H1=>?_;refine qq (qQ (qW (JO omQ H1 e_1) ?_));rintro _ _ ⟨rfl,rfl⟩;unfold QY;have H2:=H1;unfold KD xe at H2;by_cases c:x.p.fin=0
 ·refine jk c ?_;rw[iQ (λh=>h c)];refine qJ (qq (qQ (qG ‹_› e_1 rfl ?_)));cases hl:x.loaded with
  |false=>rw[iJ rfl];refine jQ (qX (qI rfl ?_));refine qc H1 (b:=b0) .here rfl (by show 0+10≤10;omega) rfl λh3 H3=>?_;refine qE H3 (b:=b0) (off:=0) .here rfl omQ (l:=ym (op0 6 0 0)) rfl ?_;exact qY ⟨rfl,ExtC.I H3.drop⟩
  |true=>rw[iQ osQ];refine qu (qJ (qq (qQ (qG ‹_› e_1 rfl ?_))));refine qq (qQ (qG ‹_› e_1 rfl ?_));have hin:=O.in_ c hl;have hlo:=O.lo;obtain⟨k,hk⟩:∃k:Nat,x.at_=k:=⟨x.at_.toNat,by omega⟩;rw[hk]at hin ⊢;refine vj (H1.sl e_2) omQ omQ (ko omQ).1 ?_;refine qI rfl ?_;refine qc H1 (b:=b0) .here rfl (by show 0+10≤10;omega) rfl λh3 H3=>?_;refine qE H3 (b:=b0) (off:=0) .here rfl omQ (l:=ym (op0 3 (zC x.seen k).1 0)) rfl ?_;exact qY ⟨rfl,ExtC.I H3.drop⟩
 ·refine jq c ?_;rw[iJ c];refine qX (qI rfl ?_);refine qc H1 (b:=b0) .here rfl (by show 0+10≤10;omega) rfl λh3 H3=>?_;refine qE H3 (b:=b0) (off:=0) .here rfl omQ (l:=ym (op0 0 0 0)) rfl ?_;exact qY ⟨rfl,ExtC.I H3.drop⟩
theorem Jx {p:Qw} {a:AnM} (hs:(qn p a).1=false):(qn p a).2=p∧p.fin=0:=by
 unfold qn at hs ⊢
 split at hs
 ·cases hs
 ·rename_i c;rw[iQ c];exact⟨rfl,by simpa using hs⟩
theorem qVs {a:AnM} (hn:3≤n) (O:KB x) (H:HS g h (ExtC b x::R)):t_w n 334 [.ptr b 0,.agg (xq a)] h λ_ h'=>HS g h' (ExtC b (xU x a)::R):=by
 refine t_e2 (S:=S334) rfl omQ λk hk=>?_;unfold S334;try simp only[iZ]
 generalize hF:xU x a=F;obtain⟨sv,H⟩:=ExtC.E H;refine qM H rfl λb0 h1 H1=>?_;refine jT [] (λs h'=>s=(.ptr b 0,())∧∃y,F=QU y∧y.seen.length≤16∧HS g h' (ExtC b y::R)) (λj hj=>?_) ?_
 rotate_left
 ·rintro s h2 ⟨rfl,y,rfl,hy,H2⟩;obtain⟨sv,H2⟩:=ExtC.E H2;have H3:=H2;unfold KD xe at H3;unfold QU;refine qq (qQ (qG ‹_› .here rfl ?_));refine qq (qQ (qG ‹_› .here rfl ?_));refine qs ‹_› e_1 ?_;by_cases c:y.at_=(y.seen.length:Int)
  ·refine qz c ?_;rw[iJ c];refine qX (qq (qQ (qW (vi omQ H2) λ_ h4 H4=>?_)));refine qx ?_;exact qY (ExtC.I H4)
  ·refine qZ c ?_;rw[iQ c];refine qJ (qx ?_);exact qY (ExtC.I H2)
 refine qq (qQ (qE H1 (b:=b0) (off:=0) .here rfl omQ (l:=xq a) rfl ?_));refine qW (Qm omQ (H1.sel e_1)) ?_;rintro _ h2 ⟨rfl,H2⟩;unfold xU at hF;cases hs:(qn x.p a).1 with
 |true=>rw[iJ hs]at hF;subst hF;refine qX ?_;exact qY (ExtC.I (x:={ x with p:=(qn x.p a).2 }) (sv:=sv) (H2.sub (.cons .here (.cons e_1 (.drop .refl)))))
 |false=>
  rw[iQ (by rw[hs];simp)]at hF;have hsp:=Jx hs;rw[hsp.1]at H2;have H3:HS g h2 (qk b (KD x sv)::qk b0 (xq a)::qD 211 2 x.seen.length sv (x.seen.flatMap vM)::R):=H2;have H4:=H3;unfold KD xe xq at H4;have hlo:=O.lo;have hhi:=O.hi;have hlen:=O.len;refine qJ (qq (qQ (qG ‹_› .here rfl ?_)));cases hl:x.loaded with
  |false=>
   rw[iJ hl]at hF;refine jQ (qX (qV ?_));(try dsimp only);refine qQ (qG ‹_› e_1 rfl ?_);refine qq (qQ ?_)
   refine qH H4 (b:=b) .here ⟨rfl,rfl⟩ osQ λh5 H5=>?_;refine qq (qQ (qH H5 (b:=b) .here ⟨rfl,rfl⟩ osQ λh6 H6=>?_));refine qp ‹_› e_1 rfl ‹_› e_1 rfl (HS.lt ‹_› e_1) ?_;exact hj _ _ ⟨rfl,{ x with loaded:=true,stamp:=a.word },hF.symm,hlen,ExtC.I (sv:=sv) (H6.sub (.cons .here (.cons e_1 (.drop .refl))))⟩
  |true=>
   rw[iQ (by rw[hl];simp)]at hF;refine qu (qJ (qQ (jN (qG H4 (b:=b0) e_1 rfl ?_))));cases hd:a.lk.2.1 with
   |true=>
    rw[iJ hd]at hF;refine qX (qV ?_);(try dsimp only);refine qq (qQ (qQ ?_))
    refine qE H4 (b:=b0) (off:=1) e_1 rfl omQ (l:=ji a.lk) rfl ?_;refine qW (Y4 (l:=a.lk) omQ (O.p hsp.2) H3) ?_;rintro _ h5 ⟨rfl,H5⟩;cases hw:(jS x.p a.lk).1 with
    |true=>rw[iJ hw]at hF;subst hF;refine qu (qJ (qx ?_));exact qY (ExtC.I (x:={ x with p:=(jS x.p a.lk).2 }) (sv:=sv) (H5.sub (.cons .here (.cons e_1 (.drop .refl)))))
    |false=>rw[iQ (by rw[hw];simp)]at hF;subst hF;have H6:=H5;unfold xq at H6;refine jQ (qX (qq (qQ (qQ (jN (qG H6 (b:=b0) e_1 rfl ?_))))));refine qW (vi omQ H5) λ_ h7 H7=>?_;refine qx ?_;exact qY (ExtC.I (x:={ x with p:=jn (jS x.p a.lk).2 5 0 a.lk.2.2 }) (sv:=sv) (H7.sub (.cons .here (.cons e_1 (.drop .refl)))))
   |false=>
    rw[iQ (by rw[hd];simp)]at hF;refine qJ (qQ (jN (qG H4 (b:=b0) e_1 rfl ?_)));refine qq (qQ (qG ‹_› .here rfl ?_));refine qq (qQ (qG ‹_› .here rfl ?_));have hin:=O.in_ hsp.2 hl;obtain⟨k,hk⟩:∃k:Nat,x.at_=k:=⟨x.at_.toNat,by omega⟩;rw[hk]at hin ⊢;rw[hk]at hF;refine vj (H3.sl e_2) omQ omQ (ko omQ).2 ?_;by_cases c:a.lk.1=(zC x.seen k).2
    ·refine jk c ?_;rw[iQ (λh=>h c)]at hF;refine qJ (qq (qQ (qG ‹_› .here rfl ?_)));refine qU omQ ?_;refine qq (qQ ?_);rw[hk]
     skip
     refine qH H4 (b:=b) .here ⟨rfl,rfl⟩ osQ λh5 H5=>?_;exact hj _ _ ⟨rfl,{ x with at_:=(k:Int)+1 },hF.symm,hlen,ExtC.I (sv:=sv) (H5.sub (.cons .here (.cons e_1 (.drop .refl))))⟩
    ·refine jq c ?_;rw[iJ c,← hk]at hF;subst hF;refine qX (qq (qQ (qW (vi omQ H3) λ_ h7 H7=>?_)));exact qY (ExtC.I (x:={ x with p:=jn x.p 5 0 (-1) }) (sv:=sv) (H7.sub (.cons .here (.cons e_1 (.drop .refl)))))
end
end Go.Proofs.YtnalffoigcmnnaaGreatDoor
namespace Go.Proofs.YtnalffoigcmnnaaGreatDoor
open Go Go.Ae
set_option maxRecDepth 100000
variable {g h:AH} {L R:List SP}
structure ComL (c:ju):Prop where
  seen:c.seen.length≤16
  cells:c.cells.length≤1000
  s:c.s.length≤16
  was:c.was.length≤c.s.length
  pos:0<c.s.length
  rise:c.s.Pairwise (· < ·)
  lo:0≤c.at_
  hi:c.at_≤1000
  now:0≤c.now∧c.now<9223372036854775807
def zZ (fin spins state at_ now fin2:Int) (sl cl tl wl:Nat):Prop :=
 (sl≤16∧cl≤1000∧tl≤16∧wl≤tl∧0<tl∧0≤at_∧at_≤1000∧0≤now∧now<9223372036854775807∧0≤state∧state≤7)∧(fin=0→state≤6→0≤spins∧spins≤4)∧(fin=0→state≤1→wl<tl)∧(state≤4→at_≤sl)∧
 (2≤state→state≤6→wl=tl)∧(fin=0→state=4→at_<sl)∧(fin=0→state=5→at_<cl)∧(fin=0→state=6→at_<tl)∧(fin=0→state=7→at_<wl)∧(state=7→fin2≠0)
structure zc (c:ju):Prop where
  rise:c.s.Pairwise (· < ·)
  ar:zZ c.p.fin c.p.spins c.state c.at_ c.now c.fin2 c.seen.length c.cells.length c.s.length c.was.length
section
variable {c:ju} (O:zc c)
include O
theorem zc.toComL:ComL c:=by have h:=O.ar;unfold zZ at h;exact⟨by omega,by omega,by omega,by omega,by omega,O.rise,by omega,by omega,by omega⟩
theorem zc.p (hg:c.p.fin=0) (hs:c.state≤6):0≤c.p.spins∧c.p.spins≤4:=by have h:=O.ar;unfold zZ at h;omega
theorem zc.st0 (hg:c.p.fin=0) (hs:c.state≤1):c.was.length<c.s.length:=by have h:=O.ar;unfold zZ at h;omega
theorem zc.st3 (h1:2≤c.state) (h2:c.state≤4):c.was.length=c.s.length∧c.at_≤c.seen.length:=by have h:=O.ar;unfold zZ at h;omega
theorem zc.st4 (hg:c.p.fin=0) (hs:c.state=4):c.at_<c.seen.length:=by have h:=O.ar;unfold zZ at h;omega
theorem zc.st5 (hg:c.p.fin=0) (hs:c.state=5):c.at_<c.cells.length:=by have h:=O.ar;unfold zZ at h;omega
theorem zc.st6 (hg:c.p.fin=0) (hs:c.state=6):c.at_<c.s.length:=by have h:=O.ar;unfold zZ at h;omega
theorem zc.st7 (hg:c.p.fin=0) (hs:c.state=7):c.at_<c.was.length:=by have h:=O.ar;unfold zZ at h;omega
theorem zc.st:0≤c.state∧c.state≤7:=by have h:=O.ar;unfold zZ at h;omega
theorem zc.s:c.s.length≤16:=O.toComL.s
theorem zc.was:c.was.length≤c.s.length:=O.toComL.was
theorem zc.seen:c.seen.length≤16:=O.toComL.seen
theorem zc.lo:0≤c.at_:=O.toComL.lo
theorem zc.hi:c.at_≤1000:=O.toComL.hi
theorem zc.now:0≤c.now∧c.now<9223372036854775807:=O.toComL.now
end
theorem qV6:∀{s:List Int} {was:List LkM} {x:Int},s.Pairwise (· < ·)→was.length=s.length→ownM s was x=if x∈s then some (jh was (s.countP (· <x):Nat)).1 else none:=by
 intro s
 induction s with
 |nil=>intro was x _ _;cases was<;>rfl
 |cons y s ih=>
  intro was x hp hl;cases was with
  |nil=>cases hl
  |cons w was=>
   have h1:=List.pairwise_cons.1 hp;unfold ownM;by_cases e:y=x
   ·subst e;rw[iJ rfl,iJ (iK ..),List.countP_cons,List.countP_eq_zero.2 (λa ha=>by have:=h1.1 a ha;simp;omega),iV omQ];rfl
   ·rw[iQ e,ih h1.2 (by simpa using hl)];by_cases hm:x∈s
    ·rw[iJ hm,iJ (iX _ hm),List.countP_cons,iG (h1.1 x hm)];unfold jh;simp
    ·rw[iQ hm,iQ (λh=>by rcases List.mem_cons.1 h with h |h;exact e h.symm;exact hm h)]
theorem qzM {s:List Int} {x:Int} (hp:s.Pairwise (· < ·)) (h:x∈s):s.countP (· <x)<s.length:=by
 rcases Nat.lt_or_ge (s.countP (· <x)) s.length with h' |h'
 ·exact h'
 ·have:=List.countP_eq_length.1 (Nat.le_antisymm List.countP_le_length h') x h;simp at this
def kq (c:ju) (sv cv tv wv:AV):List AV:=xe c.p [.int .i64 c.me,.int .u64 c.stamp,sv,cv,tv,wv,.int .i64 c.state,.int .i64 c.at_,.int .u64 c.lk.1,.bool c.lk.2.1,.int .i64 c.lk.2.2,.int .u64 c.now,.bool c.writing,.int .i64 c.fin2,.int .i64 c.by2,.int .i64 c.err2]
def ComC (b:Nat) (c:ju):SP:=.ex λq:AV×AV×AV×AV=>.all [qk b (kq c q.1 q.2.1 q.2.2.1 q.2.2.2),qD 211 2 c.seen.length q.1 (c.seen.flatMap vM),qD 66 2 c.cells.length q.2.1 (c.cells.flatMap jU),
 qD 3 1 c.s.length q.2.2.1 (c.s.map (.int .i64)),qD 39 3 c.was.length q.2.2.2 (c.was.flatMap ji)]
section
variable {n b:Nat} {c:ju} {sv cv tv wv:AV}
theorem ComC.E (H:HS g h (ComC b c::R)):∃sv cv tv wv,HS g h (qk b (kq c sv cv tv wv)::qD 211 2 c.seen.length sv (c.seen.flatMap vM)::qD 66 2 c.cells.length cv (c.cells.flatMap jU)::
  qD 3 1 c.s.length tv (c.s.map (.int .i64))::qD 39 3 c.was.length wv (c.was.flatMap ji)::R):=by
 obtain⟨⟨sv,cv,tv,wv⟩,H⟩:=H.exE;exact⟨sv,cv,tv,wv,H.allE⟩
theorem ComC.I (H:HS g h (qk b (kq c sv cv tv wv)::qD 211 2 c.seen.length sv (c.seen.flatMap vM)::qD 66 2 c.cells.length cv (c.cells.flatMap jU)::
  qD 3 1 c.s.length tv (c.s.map (.int .i64))::qD 39 3 c.was.length wv (c.was.flatMap ji)::R)):HS g h (ComC b c::R):=HS.exI (sv,cv,tv,wv) H.allI
theorem OI (hn:2≤n) (H:HS g h (ComC b c::R)):t_w n 343 [.ptr b 0] h λ_ h'=>HS g h' (ComC b (ya c)::R):=by
 refine t_e1 (S:=S343) rfl omQ λk hk=>?_;unfold S343;try simp only[iZ]
 obtain⟨sv,cv,tv,wv,H⟩:=ComC.E H;have H1:=H;unfold kq xe at H1;unfold ya;refine qq (qQ (qG ‹_› .here rfl ?_));refine qq (qQ (qG ‹_› .here rfl ?_));refine qs ‹_› e_3 ?_;by_cases c0:c.at_=(c.s.length:Int)
 ·refine qz c0 ?_;rw[iJ c0];refine qX (qq (qQ (qW (vi omQ H) λ_ h2 H2=>?_)));exact qY (ComC.I (c:={ c with p:=jn c.p 2 0 (-1) }) H2)
 ·refine qZ c0 ?_;rw[iQ c0];refine qJ ?_;exact qY (ComC.I H)
theorem U7 (hn:3≤n) (H:HS g h (ComC b c::R)):t_w n 342 [.ptr b 0] h λ_ h'=>HS g h' (ComC b (yE c)::R):=by
 refine t_e1 (S:=S342) rfl omQ λk hk=>?_;unfold S342;try simp only[iZ]
 obtain⟨sv,cv,tv,wv,H⟩:=ComC.E H;have H1:=H;unfold kq xe at H1;unfold yE;refine qq (qQ (qG ‹_› .here rfl ?_));refine qq (qQ (qG ‹_› .here rfl ?_));refine qs ‹_› e_2 ?_;by_cases c0:c.at_=(c.cells.length:Int)
 ·refine qz c0 ?_;rw[iJ c0];refine qX (qq (qQ (qH H1 (b:=b) .here ⟨rfl,rfl⟩ osQ λh2 H2=>?_)));refine qq (qQ (qH H2 (b:=b) .here ⟨rfl,rfl⟩ osQ λh3 H3=>?_));refine qW (OI (c:={ c with at_:=0,state:=6 }) omQ (ComC.I H3)) λ_ h4 H4=>qY H4
 ·refine qZ c0 ?_;rw[iQ c0];refine qJ ?_;exact qY (ComC.I H)
theorem Vy (hn:4≤n) (H:HS g h (ComC b c::R)):t_w n 338 [.ptr b 0] h λ_ h'=>HS g h' (ComC b (g9 c)::R):=by
 refine t_e1 (S:=S338) rfl omQ λk hk=>?_;unfold S338;try simp only[iZ]
 obtain⟨sv,cv,tv,wv,H⟩:=ComC.E H;unfold kq xe at H;refine qq (qQ (qH H (b:=b) .here ⟨rfl,rfl⟩ osQ λh2 H2=>?_));refine qq (qQ (qH H2 (b:=b) .here ⟨rfl,rfl⟩ osQ λh3 H3=>?_));refine qq (qQ (qH H3 (b:=b) .here ⟨rfl,rfl⟩ osQ λh4 H4=>?_));refine qW (U7 (c:={ c with writing:=true,at_:=0,state:=5 }) omQ (ComC.I H4)) λ_ h5 H5=>qY H5
theorem Uf (hn:2≤n) (H:HS g h (ComC b c::R)):t_w n 344 [.ptr b 0] h λ_ h'=>HS g h' (ComC b (vh c)::R):=by
 refine t_e1 (S:=S344) rfl omQ λk hk=>?_;unfold S344;try simp only[iZ]
 obtain⟨sv,cv,tv,wv,H⟩:=ComC.E H;have H1:=H;unfold kq xe at H1;unfold vh;refine qq (qQ (qG ‹_› .here rfl ?_));refine qq (qQ (qG ‹_› .here rfl ?_));refine qs ‹_› e_4 ?_;by_cases c0:c.at_=(c.was.length:Int)
 ·refine qz c0 ?_;rw[iJ c0];refine qX (qq (qQ (qq (qQ (qG ‹_› .here rfl ?_)))));refine qq (qQ (qG ‹_› .here rfl ?_));refine qq (qQ (qG ‹_› .here rfl ?_));refine qW (vi omQ H) λ_ h2 H2=>?_;exact qY (ComC.I (c:={ c with p:=jn c.p c.fin2 c.err2 c.by2 }) H2)
 ·refine qZ c0 ?_;rw[iQ c0];refine qJ ?_;exact qY (ComC.I H)
theorem YV {f e y:Int} (hn:3≤n) (H:HS g h (ComC b c::R)):t_w n 346 [.ptr b 0,.int .i64 f,.int .i64 e,.int .i64 y] h λ_ h'=>HS g h' (ComC b (wD c f e y)::R):=by
 refine t_e4 (S:=S346) rfl omQ λk hk=>?_;unfold S346;try simp only[iZ]
 obtain⟨sv,cv,tv,wv,H⟩:=ComC.E H;unfold kq xe at H;refine qq (qQ (qH H (b:=b) .here ⟨rfl,rfl⟩ osQ λh2 H2=>?_));refine qq (qQ (qH H2 (b:=b) .here ⟨rfl,rfl⟩ osQ λh3 H3=>?_));refine qq (qQ (qH H3 (b:=b) .here ⟨rfl,rfl⟩ osQ λh4 H4=>?_));refine qq (qQ (qH H4 (b:=b) .here ⟨rfl,rfl⟩ osQ λh5 H5=>?_));refine qq (qQ (qH H5 (b:=b) .here ⟨rfl,rfl⟩ osQ λh6 H6=>?_));refine qW (Uf (c:={ c with fin2:=f,err2:=e,by2:=y,at_:=0,state:=7 }) omQ (ComC.I H6)) λ_ h5 H5=>qY H5
theorem Mf (hn:1≤n) (H:HS g h (ComC b c::R)):t_w n 133 [.ptr b 0] h λ_ h'=>HS g h' (ComC b (ky c)::R):=by
 refine t_e1 (S:=S133) rfl omQ λk hk=>?_;unfold S133;try simp only[iZ]
 obtain⟨sv,cv,tv,wv,H⟩:=ComC.E H;unfold kq xe at H;unfold ky;refine qq (qQ (qH H (b:=b) .here ⟨rfl,rfl⟩ osQ λh2 H2=>?_));refine qq (qQ (qG ‹_› .here rfl ?_));refine qs ‹_› e_4 ?_;refine qq (qQ (qG ‹_› .here rfl ?_));refine qs ‹_› e_3 ?_;by_cases c0:c.was.length=c.s.length
 ·refine qz omQ ?_;rw[iJ c0];refine qX (qq (qQ (qH H2 (b:=b) .here ⟨rfl,rfl⟩ osQ λh3 H3=>?_)));exact qY (ComC.I (c:={ c with state:=2 }) H3)
 ·refine qZ omQ ?_;rw[iQ c0];refine qJ ?_;exact qY (ComC.I (c:={ c with state:=0 }) H2)
theorem Mn {l:LkM} (hn:4≤n) (hp:0≤c.p.spins∧c.p.spins≤4) (H:HS g h (ComC b c::R)):t_w n 345 [.ptr b 0,.agg (ji l)] h λ_ h'=>HS g h' (ComC b (kL c l)::R):=by
 refine t_e2 (S:=S345) rfl omQ λk hk=>?_;unfold S345;try simp only[iZ]
 obtain⟨sv,cv,tv,wv,H⟩:=ComC.E H;refine qM H rfl λb0 h1 H1=>?_;unfold kL;refine qq (qQ (qE H1 (b:=b0) (off:=0) .here rfl omQ (l:=ji l) rfl ?_));refine qW (Y4 (l:=l) omQ hp (H1.sel e_1)) ?_;rintro _ h2 ⟨rfl,H2⟩;have H3:HS g h2 (ComC b { c with p:=(jS c.p l).2 }::qk b0 (ji l)::R):=ComC.I (sv:=sv) (cv:=cv) (tv:=tv) (wv:=wv) (H2.sub (.cons .here (.cons e_1 (.cons e_1 (.cons e_1 (.cons e_1 .refl))))));cases hw:(jS c.p l).1 with
 |true=>rw[iJ rfl];refine qu (qJ ?_);exact qY (H3.sub (.cons .here (.drop .refl)))
 |false=>rw[iQ osQ];unfold ji at H3;refine jQ (qX (qQ (qG ‹_› e_1 rfl ?_)));refine qW (YV omQ H3) λ_ h4 H4=>?_;exact qY (H4.sub (.cons .here (.drop .refl)))
theorem U3 (hn:5≤n) (O:ComL c) (hw:c.was.length=c.s.length) (ha:c.at_≤c.seen.length) (H:HS g h (ComC b c::R)):t_w n 347 [.ptr b 0] h λ_ h'=>HS g h' (ComC b (kl c)::R):=by
 refine t_e1 (S:=S347) rfl omQ λk hk=>?_;unfold S347;try simp only[iZ]
 generalize hF:kl c=F;unfold kl at hF;obtain⟨sv,cv,tv,wv,H⟩:=ComC.E H;unfold kq xe at H;have l1:=O.seen;have l2:=O.s;have l3:=O.pos;have l4:=O.lo;refine qq (qQ (qH H (b:=b) .here ⟨rfl,rfl⟩ osQ λh2 H2=>?_));have H2:HS g h2 (ComC b { c with state:=4 }::R):=ComC.I H2;refine jP (λm s h'=>s=(.ptr b 0,())∧∃a:Int,vy { c with state:=4,at_:=a } m=F∧0≤a∧a≤c.seen.length∧c.seen.length<a+m∧HS g h' (ComC b { c with state:=4,at_:=a }::R))
  ?_ (m:=c.seen.length+1) (by show _<1000000000;omega) ⟨rfl,c.at_,hF,l4,ha,by omega,H2⟩
 clear H H2 hF;rintro m ih s h3 hih ⟨rfl,a,hF,ha0,ha,hm,H⟩;dsimp only;obtain⟨m,rfl⟩:∃k,m=k+1:=⟨m-1,by omega⟩;unfold vy at hF;dsimp only at hF;obtain⟨sv,cv,tv,wv,H⟩:=ComC.E H;have H1:=H;unfold kq xe at H1;dsimp only at H1;refine qq (qQ (qG ‹_› .here rfl ?_));refine qq (qQ (qG ‹_› .here rfl ?_));refine qs ‹_› e_1 ?_;by_cases hlt:a<c.seen.length
 ·refine zq hlt ?_;rw[iJ hlt]at hF;obtain⟨k,rfl⟩:∃k:Nat,a=k:=⟨a.toNat,by omega⟩;refine qX (qq (qQ (qG ‹_› .here rfl ?_)));refine qq (qQ (qG ‹_› .here rfl ?_));refine qq (qQ (qG ‹_› .here rfl ?_));refine vj (H.sl e_1) omQ (by show k<c.seen.length;omega) (ko (by show k<c.seen.length;omega)).1 ?_;refine qW (qKU omQ H1 e_3 l3 omQ (O.rise.imp λh=>by omega)) ?_;rintro _ _ ⟨rfl,rfl⟩;rw[qV6 O.rise hw]at hF;by_cases hc:(zC c.seen k).1∈c.s
  ·rw[iJ hc]at hF;dsimp only at hF;rw[show c.s.contains (zC c.seen k).1=true from List.contains_iff_mem.2 hc];have hfl:=qzM O.rise hc;refine qw rfl ?_;refine qw rfl ?_;refine qu (qJ (qq (qQ (qG ‹_› .here rfl ?_))));refine vj (f:=0) (x:=.int .u64 (jh c.was (c.s.countP (· <(zC c.seen k).1):Nat)).1) (H.sl e_4) omQ (Nat.lt_of_lt_of_eq hfl hw.symm) ?_ ?_
   ·have:=congrArg (·[0]?) (Ku (l:=c.was) (k:=c.s.countP (· <(zC c.seen k).1)) omQ);simp only[List.getElem?_take_of_lt (show 0<3 by omega),List.getElem?_drop]at this;exact this
   refine qq (qQ (qG ‹_› .here rfl ?_));refine qq (qQ (qG ‹_› .here rfl ?_));refine vj (H.sl e_1) omQ (by show k<c.seen.length;omega) (ko (by show k<c.seen.length;omega)).2 ?_;by_cases hv:(jh c.was (c.s.countP (· <(zC c.seen k).1):Nat)).1=(zC c.seen k).2
   ·refine jk hv ?_;rw[iQ (λh=>h hv)]at hF;refine qJ (qq (qQ (qG ‹_› .here rfl ?_)));refine qU omQ ?_;refine qq (qQ (qH H1 (b:=b) .here ⟨rfl,rfl⟩ osQ λh4 H4=>?_));exact hih m _ _ omQ ⟨rfl,(k:Int)+1,hF,by omega,by omega,by omega,ComC.I (c:={ c with state:=4,at_:=(k:Int)+1 }) H4⟩
   ·refine jq hv ?_;rw[iJ hv]at hF;subst hF;refine qX (qW (YV omQ (ComC.I H)) λ_ h4 H4=>?_);refine qx ?_;exact qY H4
  ·rw[iQ hc]at hF;dsimp only at hF;subst hF;rw[show c.s.contains (zC c.seen k).1=false from by simpa using hc];refine qw rfl ?_;refine qw rfl ?_;refine jQ (qX (qx ?_));exact qY (ComC.I H)
 ·refine jo hlt ?_;rw[iQ hlt]at hF;subst hF;refine qJ (qW (Vy omQ (ComC.I H)) λ_ h4 H4=>?_);refine qx ?_;exact qY H4
end
end Go.Proofs.YtnalffoigcmnnaaGreatDoor
namespace Go.Proofs.YtnalffoigcmnnaaGreatDoor
open Go Go.Ae
set_option maxRecDepth 100000
variable {g h:AH} {L R:List SP}
section
variable {n b:Nat} {c:ju} {sv cv tv wv:AV} {a:AnM}
theorem ZG {l:LkM} (hn:6≤n) (O:zc c) (hg:c.p.fin=0) (h4:c.state=4) (H:HS g h (ComC b c::R)):t_w n 341 [.ptr b 0,.agg (ji l)] h λ_ h'=>HS g h' (ComC b (gg c l)::R):=by
 refine t_e2 (S:=S341) rfl omQ λk hk=>?_;unfold S341;try simp only[iZ]
 generalize hF:gg c l=F;refine qM H rfl λb0 h1 H1=>?_;refine jT [] (λ_ h'=>HS g h' (ComC b F::R)) (λj hj=>?_) λ_ h' H'=>?_
 rotate_left
 ·refine qx ?_;exact qY H'
 unfold gg at hF;have H2:=H1;unfold ji at H2;refine qQ (qG ‹_› .here rfl ?_);cases hd:l.2.1 with
 |true=>rw[iJ hd]at hF;subst hF;refine qX (qE H1 (b:=b0) (off:=0) .here rfl omQ (l:=ji l) rfl ?_);refine qW (Mn omQ (O.p hg omQ) (H1.sel e_1)) λ_ h3 H3=>?_;exact hj _ _ (H3.sub (.cons .here (.drop .refl)))
 |false=>
  rw[iQ (by rw[hd];simp)]at hF;obtain⟨sv,cv,tv,wv,H3⟩:=ComC.E (H2.sel e_1);have H4:=H3;unfold kq xe at H4;have hlt:=O.st4 hg h4;have hlo:=O.lo;have l1:=O.seen;obtain⟨k,hk⟩:∃k:Nat,c.at_=k:=⟨c.at_.toNat,by omega⟩;refine qJ (qQ (qG ‹_› e_5 rfl ?_));refine qq (qQ (qG ‹_› .here rfl ?_));refine qq (qQ (qG ‹_› .here rfl ?_));rw[hk]at hF hlt ⊢;refine vj (H3.sl e_1) omQ omQ (ko omQ).2 ?_;by_cases c0:l.1=(zC c.seen k).2
  ·refine jk c0 ?_;rw[iQ (λh=>h c0)]at hF;subst hF;refine qJ (qq (qQ (qG ‹_› .here rfl ?_)));refine qU omQ ?_;refine qq (qQ ?_);rw[hk]
   skip
   refine qH H4 (b:=b) .here ⟨rfl,rfl⟩ osQ λh5 H5=>?_;refine qW (U3 (c:={ c with at_:=(k:Int)+1 }) omQ { O.toComL with lo:=(by show(0:Int)≤k+1;omega),hi:=(by show(k:Int)+1≤1000;have:=O.seen;omega) } (O.st3 omQ omQ).1 (by show(k:Int)+1≤c.seen.length;omega) (ComC.I H5)) λ_ h6 H6=>?_;exact hj _ _ (H6.sub (.cons .here (.drop .refl)))
  ·refine jq c0 ?_;rw[iJ c0]at hF;subst hF;refine qX (qW (YV omQ (ComC.I H3)) λ_ h6 H6=>?_);exact hj _ _ (H6.sub (.cons .here (.drop .refl)))
theorem OM (hn:5≤n) (O:zc c) (hg:c.p.fin=0) (H:HS g h (ComC b c::R)):t_w n 339 [.ptr b 0,.agg (xq a)] h λ_ h'=>HS g h' (ComC b (wI c a)::R):=by
 refine t_e2 (S:=S339) rfl omQ λk hk=>?_;unfold S339;try simp only[iZ]
 generalize hF:wI c a=F;refine qM H rfl λb0 h1 H1=>?_;refine jT [] (λ_ h'=>HS g h' (ComC b F::R)) (λj hj=>?_) λ_ h' H'=>?_
 rotate_left
 ·refine qx ?_;exact qY H'
 unfold wI at hF;obtain⟨sv,cv,tv,wv,H2⟩:=ComC.E (H1.sel e_1);have H3:=H2;unfold kq xe xq at H3;have l1:=O.s;have l2:=O.was;refine qq (qQ (qG ‹_› .here rfl ?_));by_cases c0:c.state=0
 ·refine qz c0 ?_;refine qV ?_;(try dsimp only);refine qR ?_;(try dsimp only);refine qQ ?_
  refine jN (qG H3 (b:=b0) e_5 rfl ?_);cases hd:a.lk.2.1 with
  |true=>rw[iJ ⟨c0,hd⟩]at hF;subst hF;refine qC (qX (qQ (qE H1 (b:=b0) (off:=1) .here rfl omQ (l:=ji a.lk) rfl ?_)));refine qW (Mn omQ (O.p hg omQ) (H1.sel e_1)) λ_ h3 H3=>?_;exact hj _ _ (H3.sub (.cons .here (.drop .refl)))
  |false=>rw[iQ (λh=>by rw[hd]at h;cases h.2),iJ c0]at hF;subst hF;refine qC (qJ (qq (qQ (qG ‹_› .here rfl ?_))));refine qz omQ ?_;refine qX (qQ (qE H1 (b:=b0) (off:=1) .here rfl omQ (l:=ji a.lk) rfl ?_));refine qq (qQ (qc H3 (b:=b) .here rfl (by show 13+3≤21;omega) rfl λh5 H5=>?_));refine qq (qQ (qH H5 (b:=b) .here ⟨rfl,rfl⟩ (by simp[gp]) λh6 H6=>?_));have H7:HS g h6 (ComC b { c with lk:=a.lk,state:=1 }::qk b0 (xq a)::R):=ComC.I (sv:=sv) (cv:=cv) (tv:=tv) (wv:=wv) H6;exact hj _ _ (H7.sub (.cons .here (.drop .refl)))
 ·refine qZ c0 ?_;rw[iQ (λh=>c0 h.1),iQ c0]at hF;refine qV ?_;(try dsimp only);refine qT ?_;(try dsimp only);refine qF (qJ (qq (qQ (qG ‹_› .here rfl ?_))));refine qZ omQ ?_;refine qJ (qQ (qG ‹_› e_5 rfl ?_))
  cases hd:a.done with
  |true=>
   rw[iJ hd]at hF;subst hF;refine qX (qq (qQ (qG ‹_› .here rfl ?_)));refine qq (qQ (qE H3 (b:=b) (off:=13) .here rfl omQ (l:=ji c.lk) rfl ?_));refine qr (n:=1) (l:=ji c.lk) (sz:=3) H3 rfl rfl rfl rfl λv2 h5 H5=>?_;refine zT (H5.sel e_5) (H5.sl .here) omQ omQ rfl λv3 h6 H6=>?_;have o6:=H6.one .here;refine qq (qQ (qH H6 (b:=b) e_2 o6 osQ λh7 H7=>?_));have H8:HS g h7 (ComC b { c with was:=c.was++[c.lk] }::qk b0 (xq a)::R):=by refine ComC.I (sv:=sv) (cv:=cv) (tv:=tv) (wv:=v3) ?_;rw[List.length_append,List.flatMap_append];exact H7.sub (.cons .here (.cons e_2 (.cons e_2 (.cons e_2 (.cons .here (.drop .refl))))))
   refine qW (Mf omQ H8) λ_ h9 H9=>?_;exact hj _ _ (H9.sub (.cons .here (.drop .refl)))
  |false=>rw[iQ (by rw[hd];simp)]at hF;subst hF;refine qJ (qq (qQ (qH H3 (b:=b) .here ⟨rfl,rfl⟩ osQ λh6 H6=>?_)));have H7:HS g h6 (ComC b { c with state:=0 }::qk b0 (xq a)::R):=ComC.I (sv:=sv) (cv:=cv) (tv:=tv) (wv:=wv) H6;exact hj _ _ (H7.sub (.cons .here (.drop .refl)))
theorem UT (hn:6≤n) (O:zc c) (h23:c.state=2∨c.state=3) (H:HS g h (ComC b c::R)):t_w n 340 [.ptr b 0,.agg (xq a)] h λ_ h'=>HS g h' (ComC b (gZ c a)::R):=by
 refine t_e2 (S:=S340) rfl omQ λk hk=>?_;unfold S340;try simp only[iZ]
 generalize hF:gZ c a=F;refine qM H rfl λb0 h1 H1=>?_;refine jT [] (λ_ h'=>HS g h' (ComC b F::R)) (λj hj=>?_) λ_ h' H'=>?_
 rotate_left
 ·refine qx ?_;exact qY H'
 unfold gZ at hF;obtain⟨sv,cv,tv,wv,H2⟩:=ComC.E (H1.sel e_1);have H3:=H2;unfold kq xe xq at H3;refine qq (qQ (qG ‹_› .here rfl ?_));by_cases c0:c.state=2
 ·refine qz c0 ?_;refine qV ?_;(try dsimp only);refine qR ?_;(try dsimp only);refine qQ (qG ‹_› e_5 rfl ?_)
  by_cases c1:4611686018427387903≤a.word
  ·refine zz omQ ?_;rw[iJ ⟨c0,c1⟩]at hF;subst hF;refine qC (qX (qW (YV omQ (ComC.I H2)) λ_ h6 H6=>?_));exact hj _ _ (H6.sub (.cons .here (.drop .refl)))
  ·refine zB omQ ?_;rw[iQ (λh=>c1 h.2),iJ c0]at hF;subst hF;refine qC (qJ (qq (qQ (qG ‹_› .here rfl ?_))));refine qz omQ ?_;refine qX (qQ (qG ‹_› e_5 rfl ?_));refine qq (qQ (qH H3 (b:=b) .here ⟨rfl,rfl⟩ osQ λh6 H6=>?_));refine qq (qQ (qH H6 (b:=b) .here ⟨rfl,rfl⟩ osQ λh7 H7=>?_));have H8:HS g h7 (ComC b { c with now:=a.word,state:=3 }::qk b0 (xq a)::R):=ComC.I (sv:=sv) (cv:=cv) (tv:=tv) (wv:=wv) H7;exact hj _ _ (H8.sub (.cons .here (.drop .refl)))
 ·refine qZ c0 ?_;rw[iQ (λh=>c0 h.1),iQ c0]at hF;have h3:=O.st3 omQ omQ;refine qV ?_;(try dsimp only);refine qT ?_;(try dsimp only);refine qF (qJ (qq (qQ (qG ‹_› .here rfl ?_))));refine qZ omQ ?_;refine qJ (qQ (qG ‹_› e_5 rfl ?_))
  cases hd:a.done with
  |false=>rw[iJ hd]at hF;subst hF;refine jQ (qX (qq (qQ (qH H3 (b:=b) .here ⟨rfl,rfl⟩ osQ λh6 H6=>?_))));have H7:HS g h6 (ComC b { c with state:=2 }::qk b0 (xq a)::R):=ComC.I (sv:=sv) (cv:=cv) (tv:=tv) (wv:=wv) H6;exact hj _ _ (H7.sub (.cons .here (.drop .refl)))
  |true=>
   rw[iQ (by rw[hd];simp)]at hF;refine qu (qJ (qq (qQ (qG ‹_› .here rfl ?_))));refine qq (qQ (qG ‹_› .here rfl ?_));by_cases c1:c.now=c.stamp
   ·refine qz c1 ?_;rw[iJ c1]at hF;subst hF;refine qX (qW (Vy omQ (ComC.I H2)) λ_ h6 H6=>?_);exact hj _ _ (H6.sub (.cons .here (.drop .refl)))
   ·refine qZ c1 ?_;rw[iQ c1]at hF;subst hF;refine qJ (qW (U3 omQ O.toComL h3.1 h3.2 (ComC.I H2)) λ_ h6 H6=>?_);exact hj _ _ (H6.sub (.cons .here (.drop .refl)))
theorem qGI (hn:7≤n) (O:zc c) (H:HS g h (ComC b c::R)):t_w n 337 [.ptr b 0,.agg (xq a)] h λ_ h'=>HS g h' (ComC b (zV c a)::R):=by
 refine t_e2 (S:=S337) rfl omQ λk hk=>?_;unfold S337;try simp only[iZ]
 generalize hF:zV c a=F;refine qM H rfl λb0 h1 H1=>?_;obtain⟨sv,cv,tv,wv,H2⟩:=ComC.E (H1.sel e_1);have hlo:=O.lo;have hhi:=O.hi;have hst:=O.st;unfold zV at hF;refine qq (qQ (qE H1 (b:=b0) (off:=0) .here rfl omQ (l:=xq a) rfl ?_));refine qW (Qm omQ H2) ?_;rintro _ h2 ⟨rfl,H3⟩;cases hs:(qn c.p a).1 with
 |true=>rw[iJ hs]at hF;subst hF;refine qX ?_;have H4:HS g h2 (ComC b { c with p:=(qn c.p a).2 }::qk b0 (xq a)::R):=ComC.I (sv:=sv) (cv:=cv) (tv:=tv) (wv:=wv) H3;exact qY (H4.sub (.cons .here (.drop .refl)))
 |false=>
  rw[iQ (by rw[hs];simp)]at hF;have hsp:=Jx hs;rw[hsp.1]at H3;have hg:=hsp.2;clear H1 H2 H hsp hs;have H2:HS g h2 (ComC b c::qk b0 (xq a)::R):=ComC.I (sv:=sv) (cv:=cv) (tv:=tv) (wv:=wv) H3
  have H4:HS g h2 (qk b (kq c sv cv tv wv)::qD 211 2 c.seen.length sv (c.seen.flatMap vM)::qD 66 2 c.cells.length cv (c.cells.flatMap jU)::
   qD 3 1 c.s.length tv (c.s.map (.int .i64))::qD 39 3 c.was.length wv (c.was.flatMap ji)::qk b0 (xq a)::R):=H3
  unfold kq xe at H4;refine qJ (qq (jN (qG H4 (b:=b) .here rfl ?_)));refine jT [] (λ_ h'=>HS g h' (ComC b F::R)) (λj hj=>?_) λ_ h' H'=>?_
  rotate_left
  ·refine qx ?_;exact qY H'
  by_cases c0:c.state=0∨c.state=1
  ·rw[iJ c0]at hF;subst hF;rcases c0 with c0 |c0
   ·refine qV ?_;(try dsimp only);refine qz omQ ?_;refine qX (qX ?_)
    refine qE H3 (b:=b0) (off:=0) e_5 rfl omQ (l:=xq a) rfl ?_;refine qW (OM omQ O hg H2) λ_ h6 H6=>?_;exact hj _ _ (H6.sub (.cons .here (.drop .refl)))
   ·refine qV ?_;(try dsimp only);refine qZ omQ ?_;refine qJ (qz omQ ?_);refine qX ?_
    refine qE H3 (b:=b0) (off:=0) e_5 rfl omQ (l:=xq a) rfl ?_;refine qW (OM omQ O hg H2) λ_ h6 H6=>?_;exact hj _ _ (H6.sub (.cons .here (.drop .refl)))
  rw[iQ c0]at hF;by_cases c1:c.state=2∨c.state=3
  ·rw[iJ c1]at hF;subst hF;have c2:=c1;rcases c1 with c1' |c1'
   ·refine qV ?_;(try dsimp only);refine qZ omQ ?_;refine qJ (qZ omQ ?_);refine qJ (qV ?_);(try dsimp only);refine qz omQ ?_;refine qX (qX ?_)
    refine qE H3 (b:=b0) (off:=0) e_5 rfl omQ (l:=xq a) rfl ?_;refine qW (UT omQ O c2 H2) λ_ h6 H6=>?_;exact hj _ _ (H6.sub (.cons .here (.drop .refl)))
   ·refine qV ?_;(try dsimp only);refine qZ omQ ?_;refine qJ (qZ omQ ?_);refine qJ (qV ?_);(try dsimp only);refine qZ omQ ?_;refine qJ (qz omQ ?_);refine qX ?_
    refine qE H3 (b:=b0) (off:=0) e_5 rfl omQ (l:=xq a) rfl ?_;refine qW (UT omQ O c2 H2) λ_ h6 H6=>?_;exact hj _ _ (H6.sub (.cons .here (.drop .refl)))
  rw[iQ c1]at hF;by_cases c4:c.state=4
  ·rw[iJ c4]at hF;subst hF;refine qV ?_;(try dsimp only);refine qZ omQ ?_;refine qJ (qZ omQ ?_);refine qJ (qV ?_);(try dsimp only);refine qZ omQ ?_;refine qJ (qZ omQ ?_);refine qJ (qz omQ ?_);refine qX (qQ ?_)
   refine qE H3 (b:=b0) (off:=1) e_5 rfl omQ (l:=ji a.lk) rfl ?_;refine qW (ZG omQ O hg c4 H2) λ_ h6 H6=>?_;exact hj _ _ (H6.sub (.cons .here (.drop .refl)))
  rw[iQ c4]at hF;by_cases c5:c.state=5
  ·rw[iJ c5]at hF;subst hF;refine qV ?_;(try dsimp only);refine qZ omQ ?_;refine qJ (qZ omQ ?_);refine qJ (qV ?_);(try dsimp only);refine qZ omQ ?_;refine qJ (qZ omQ ?_);refine qJ (qZ omQ ?_);refine qJ (qz omQ ?_);refine qX (qq (qQ (qG ‹_› .here rfl ?_)));refine qU omQ ?_;refine qq (qQ ?_)
   refine qH H4 (b:=b) .here ⟨rfl,rfl⟩ osQ λh5 H5=>?_;have H6:HS g h5 (ComC b { c with at_:=c.at_+1 }::qk b0 (xq a)::R):=ComC.I (sv:=sv) (cv:=cv) (tv:=tv) (wv:=wv) H5;refine qW (U7 omQ H6) λ_ h6 H6=>?_;exact hj _ _ (H6.sub (.cons .here (.drop .refl)))
  rw[iQ c5]at hF;by_cases c6:c.state=6
  ·rw[iJ c6]at hF;subst hF;refine qV ?_;(try dsimp only);refine qZ omQ ?_;refine qJ (qZ omQ ?_);refine qJ (qV ?_);(try dsimp only);refine qZ omQ ?_;refine qJ (qZ omQ ?_);refine qJ (qZ omQ ?_);refine qJ (qZ omQ ?_);refine qJ (qz omQ ?_);refine qX (qq (qQ (qG ‹_› .here rfl ?_)));refine qU omQ ?_;refine qq (qQ ?_)
   refine qH H4 (b:=b) .here ⟨rfl,rfl⟩ osQ λh5 H5=>?_;have H6:HS g h5 (ComC b { c with at_:=c.at_+1 }::qk b0 (xq a)::R):=ComC.I (sv:=sv) (cv:=cv) (tv:=tv) (wv:=wv) H5;refine qW (OI omQ H6) λ_ h6 H6=>?_;exact hj _ _ (H6.sub (.cons .here (.drop .refl)))
  rw[iQ c6]at hF;subst hF;refine qV ?_;(try dsimp only);refine qZ omQ ?_;refine qJ (qZ omQ ?_);refine qJ (qV ?_);(try dsimp only);refine qZ omQ ?_;refine qJ (qZ omQ ?_);refine qJ (qZ omQ ?_);refine qJ (qZ omQ ?_);refine qJ (qZ omQ ?_);refine qJ (qz omQ ?_);refine qX (qq (qQ (qG ‹_› .here rfl ?_)));refine qU omQ ?_;refine qq (qQ ?_)
  refine qH H4 (b:=b) .here ⟨rfl,rfl⟩ osQ λh5 H5=>?_;have H6:HS g h5 (ComC b { c with at_:=c.at_+1 }::qk b0 (xq a)::R):=ComC.I (sv:=sv) (cv:=cv) (tv:=tv) (wv:=wv) H5;refine qW (Uf omQ H6) λ_ h6 H6=>?_;exact hj _ _ (H6.sub (.cons .here (.drop .refl)))
end
end Go.Proofs.YtnalffoigcmnnaaGreatDoor
namespace Go.Proofs.YtnalffoigcmnnaaGreatDoor
open Go Go.Ae
set_option maxRecDepth 100000
variable {g h:AH} {L R:List SP}
theorem Mr {l:List Cl} {k:Nat} (hk:k<l.length):(l.flatMap jU)[k*2+0]? =some (.int .i64 (wz l (k:Int)).1)∧(l.flatMap jU)[k*2+1]? =some (.int .u64 (wz l (k:Int)).2):=by
 have e:((l.flatMap jU).drop (k*2)).take 2=jU (wz l (k:Int)):=kg (sz:=2) (enc:=jU) (λ_=>rfl) (by unfold wz;rw[Int.toNat_natCast,iW hk];rfl);constructor
 ·have:=congrArg (·[0]?) e;simp only[List.getElem?_take_of_lt (show 0<2 by omega),List.getElem?_drop]at this;exact this
 ·have:=congrArg (·[1]?) e;simp only[List.getElem?_take_of_lt (show 1<2 by omega),List.getElem?_drop]at this;exact this
section
variable {n b:Nat} {c:ju} {sv cv tv wv:AV}
theorem Ga (hn:2≤n) (H:HS g h (ComC b c::R)):t_w n 62 [.ptr b 0] h λr h'=>r=.int .i64 c.p.fin∧h'=h:=by
 refine t_e1 (S:=S62) rfl omQ λk hk=>?_;unfold S62;try simp only[iZ]
 obtain⟨sv,cv,tv,wv,H⟩:=ComC.E H;refine qq (qQ (qW (JO omQ H .here) ?_));rintro _ _ ⟨rfl,rfl⟩;exact qY ⟨rfl,rfl⟩
theorem qq0 (hn:2≤n) (H:HS g h (ComC b c::R)):t_w n 136 [.ptr b 0] h λr h'=>r=.int .i64 c.p.err∧h'=h:=by
 refine t_e1 (S:=S136) rfl omQ λk hk=>?_;unfold S136;try simp only[iZ]
 obtain⟨sv,cv,tv,wv,H⟩:=ComC.E H;refine qq (qQ (qW (qYf omQ H .here) ?_));rintro _ _ ⟨rfl,rfl⟩;exact qY ⟨rfl,rfl⟩
theorem qki (hn:2≤n) (H:HS g h (ComC b c::R)):t_w n 335 [.ptr b 0] h λr h'=>r=.int .i64 c.p.by_∧h'=h:=by
 refine t_e1 (S:=S335) rfl omQ λk hk=>?_;unfold S335;try simp only[iZ]
 obtain⟨sv,cv,tv,wv,H⟩:=ComC.E H;refine qq (qQ (qW (O9 omQ H .here) ?_));rintro _ _ ⟨rfl,rfl⟩;exact qY ⟨rfl,rfl⟩
theorem qXb (hn:1≤n) (hw:0≤c.now∧c.now<9223372036854775807) (H:HS g h (ComC b c::R)):t_w n 97 [.ptr b 0] h λr h'=>r=.int .u64 (vO c)∧h'=h:=by
 refine t_e1 (S:=S97) rfl omQ λk hk=>?_;unfold S97;try simp only[iZ]
 obtain⟨sv,cv,tv,wv,H⟩:=ComC.E H;unfold kq xe at H;unfold vO;refine qq (qQ (qG ‹_› .here rfl ?_));cases hd:c.writing with
 |true=>rw[iQ osQ];refine qu (qJ (qq (qQ (qG ‹_› .here rfl ?_))));refine xJ omQ ?_;exact qY ⟨rfl,rfl⟩
 |false=>rw[iJ rfl];refine jQ (qX ?_);exact qY ⟨rfl,rfl⟩
theorem Nq (hn:3≤n) (H:HS g h (ComC b c::R)):t_w n 61 [.ptr b 0] h λr h'=>r=.bool (gC c)∧h'=h:=by
 refine t_e1 (S:=S61) rfl omQ λk hk=>?_;unfold S61;try simp only[iZ]
 obtain⟨sv,cv,tv,wv,H1⟩:=ComC.E H;unfold kq xe at H1;unfold gC;refine qq (qQ (qG ‹_› .here rfl ?_));refine qV ?_;(try dsimp only)
 cases hd:c.writing with
 |true=>
  refine qR ?_;(try dsimp only)
  refine qW (Ga omQ H) ?_;rintro _ _ ⟨rfl,rfl⟩;refine vq (λc1=>?_) (λc1=>?_)
  ·refine qC ?_;exact qY ⟨congrArg AV.bool (by rw[iG (p:=c.p.fin=0) c1];rfl),rfl⟩
  ·refine qC ?_;exact qY ⟨congrArg AV.bool (by rw[iV (p:=c.p.fin=0) c1];rfl),rfl⟩
 |false=>
  refine qT ?_;(try dsimp only);refine qF ?_
  exact qY ⟨rfl,rfl⟩
theorem qVb (hn:2≤n) (O:zc c) (H:HS g h (ComC b c::R)):t_w n 336 [.ptr b 0] h λr h'=>r=opV (xC c)∧HS g h' (ComC b c::R):=by
 refine t_e1 (S:=S336) rfl omQ λk hk=>?_;unfold S336;try simp only[iZ]
 obtain⟨sv,cv,tv,wv,H⟩:=ComC.E H;refine qM H rfl λb0 h1 H1=>?_;have hlo:=O.lo;have hst:=O.st;have hnow:=O.now;have l1:=O.s;have l2:=O.was;refine qq (qQ (qW (JO omQ H1 e_1) ?_));rintro _ _ ⟨rfl,rfl⟩;unfold xC;have H2:=H1;unfold kq xe at H2;by_cases hg:c.p.fin=0
 rotate_left
 ·refine jq hg ?_;rw[iJ hg];refine qX (qI rfl ?_);refine qc H1 (b:=b0) .here rfl (by show 0+10≤10;omega) rfl λh3 H3=>?_;refine qE H3 (b:=b0) (off:=0) .here rfl omQ (l:=ym (op0 0 0 0)) rfl ?_;exact qY ⟨rfl,ComC.I H3.drop⟩
 refine jk hg ?_;rw[iQ (λh=>h hg)];refine qJ (qq (qQ (qG ‹_› e_1 rfl ?_)));by_cases c0:c.state=0
 ·refine qz c0 ?_;rw[iJ c0];refine qX (qq (qQ (qG ‹_› e_1 rfl ?_)));refine qq (qQ (qG ‹_› e_1 rfl ?_));refine qs ‹_› e_5 ?_;have hw:=O.st0 hg omQ;refine jA (H1.sl e_4) (x:=.int .i64 (qB c.s c.was.length)) (by rw[List.getElem?_map,vU hw];rfl) ?_;refine qI rfl ?_;refine qc H2 (b:=b0) .here rfl (by show 0+10≤10;omega) rfl λh3 H3=>?_;refine qE H3 (b:=b0) (off:=0) .here rfl omQ (l:=ym (op0 3 (qB c.s c.was.length) 0)) rfl ?_;exact qY ⟨rfl,ComC.I H3.drop⟩
 refine qZ c0 ?_;rw[iQ c0];refine qJ ?_;by_cases c1:c.state=1
 ·refine qz c1 ?_;rw[iJ c1];refine qX (qq (qQ ?_));have hw:=O.st0 hg omQ;refine jN (qG H2 (b:=b) e_1 rfl ?_);refine qq (qQ (qG ‹_› e_1 rfl ?_));refine qI rfl ?_;refine qM H2 rfl λb1 h3 H3=>?_;refine qc H3 (b:=b1) .here rfl (by show 0+3≤3;omega) rfl λh4 H4=>?_;have H4:HS g h4 (qk b1 (ji (c.lk.1,true,c.me))::qk b0 _::qk b (kq c sv cv tv wv)::_):=H4;have H5:=H4;unfold kq xe at H5;refine qq (qQ (qG ‹_› e_2 rfl ?_));refine qq (qQ (qG ‹_› e_2 rfl ?_));refine qs ‹_› e_6 ?_;refine jA (H4.sl e_5) (x:=.int .i64 (qB c.s c.was.length)) (by rw[List.getElem?_map,vU hw];rfl) ?_;refine qq (qQ (qE H5 (b:=b) (off:=13) e_2 rfl omQ (l:=ji c.lk) rfl ?_));refine qE H5 (b:=b1) (off:=0) .here rfl omQ (l:=ji (c.lk.1,true,c.me)) rfl ?_;refine qI rfl ?_;refine qc H5 (b:=b0) e_1 rfl (by show 0+10≤10;omega) rfl λh6 H6=>?_;refine qE H6 (b:=b0) (off:=0) .here rfl omQ (l:=ym ⟨4,qB c.s c.was.length,0,0,c.lk,(c.lk.1,true,c.me)⟩) rfl ?_;exact qY ⟨rfl,ComC.I H6.drop.drop⟩
 refine qZ c1 ?_;rw[iQ c1];refine qJ ?_;by_cases c2:c.state=2
 ·refine qz c2 ?_;rw[iJ c2];refine qX (qI rfl ?_);refine qc H2 (b:=b0) .here rfl (by show 0+10≤10;omega) rfl λh3 H3=>?_;refine qE H3 (b:=b0) (off:=0) .here rfl omQ (l:=ym (op0 6 0 0)) rfl ?_;exact qY ⟨rfl,ComC.I H3.drop⟩
 refine qZ c2 ?_;rw[iQ c2];refine qJ ?_;by_cases c3:c.state=3
 ·refine qz c3 ?_;rw[iJ c3];refine qX (qq (qQ (qG ‹_› e_1 rfl ?_)));refine qq (qQ (qG ‹_› e_1 rfl ?_));refine xJ omQ ?_;refine qI rfl ?_;refine qc H2 (b:=b0) .here rfl (by show 0+10≤10;omega) rfl λh3 H3=>?_;refine qE H3 (b:=b0) (off:=0) .here rfl omQ (l:=ym (⟨7,0,c.now,c.now+1,lk0,lk0⟩)) rfl ?_;exact qY ⟨rfl,ComC.I H3.drop⟩
 refine qZ c3 ?_;rw[iQ c3];refine qJ ?_;by_cases c4:c.state=4
 ·refine qz c4 ?_;rw[iJ c4];refine qX (qq (qQ (qG ‹_› e_1 rfl ?_)));refine qq (qQ (qG ‹_› e_1 rfl ?_));have hlt:=O.st4 hg c4;obtain⟨k,hk⟩:∃k:Nat,c.at_=k:=⟨c.at_.toNat,by omega⟩;rw[hk]at hlt ⊢;refine vj (H1.sl e_2) omQ omQ (ko omQ).1 ?_;refine qI rfl ?_;refine qc H2 (b:=b0) .here rfl (by show 0+10≤10;omega) rfl λh3 H3=>?_;refine qE H3 (b:=b0) (off:=0) .here rfl omQ (l:=ym (op0 3 (zC c.seen k).1 0)) rfl ?_;exact qY ⟨rfl,ComC.I H3.drop⟩
 refine qZ c4 ?_;rw[iQ c4];refine qJ ?_;by_cases c5:c.state=5
 ·refine qz c5 ?_;rw[iJ c5];refine qX (qq (qQ (qG ‹_› e_1 rfl ?_)));refine qq (qQ (qG ‹_› e_1 rfl ?_));have hlt:=O.st5 hg c5;obtain⟨k,hk⟩:∃k:Nat,c.at_=k:=⟨c.at_.toNat,by omega⟩;rw[hk]at hlt ⊢;refine vj (H1.sl e_3) omQ omQ (Mr omQ).1 ?_;refine qq (qQ (qG ‹_› e_1 rfl ?_));refine qq (qQ (qG ‹_› e_1 rfl ?_));rw[hk];refine vj (H1.sl e_3) omQ omQ (Mr omQ).2 ?_;refine qI rfl ?_;refine qc H2 (b:=b0) .here rfl (by show 0+10≤10;omega) rfl λh3 H3=>?_;refine qE H3 (b:=b0) (off:=0) .here rfl omQ (l:=ym (op0 2 (wz c.cells k).1 (wz c.cells k).2)) rfl ?_;exact qY ⟨rfl,ComC.I H3.drop⟩
 refine qZ c5 ?_;rw[iQ c5];refine qJ ?_;by_cases c6:c.state=6
 ·refine qz c6 ?_;rw[iJ c6];refine qX (qq (qQ (qG ‹_› e_1 rfl ?_)));refine qq (qQ (qG ‹_› e_1 rfl ?_));have hlt:=O.st6 hg c6;obtain⟨k,hk⟩:∃k:Nat,c.at_=k:=⟨c.at_.toNat,by omega⟩;rw[hk]at hlt ⊢;refine jA (H1.sl e_4) (x:=.int .i64 (qB c.s k)) (by rw[List.getElem?_map,vU omQ];rfl) ?_;refine qq (qQ (qG ‹_› e_1 rfl ?_));refine xJ omQ ?_;refine qI rfl ?_;refine qI rfl ?_;refine qc H2 (b:=b0) .here rfl (by show 0+10≤10;omega) rfl λh3 H3=>?_;refine qE H3 (b:=b0) (off:=0) .here rfl omQ (l:=ym (⟨5,qB c.s k,0,0,lk0,(c.now+1,false,0)⟩)) rfl ?_;exact qY ⟨rfl,ComC.I H3.drop⟩
 refine qZ c6 ?_;rw[iQ c6];refine qJ (qq (qQ (qG ‹_› e_1 rfl ?_)));refine qq (qQ (qG ‹_› e_1 rfl ?_));have hlt:=O.st7 hg omQ;obtain⟨k,hk⟩:∃k:Nat,c.at_=k:=⟨c.at_.toNat,by omega⟩;rw[hk]at hlt ⊢;refine jA (H1.sl e_4) (x:=.int .i64 (qB c.s k)) (by rw[List.getElem?_map,vU omQ];rfl) ?_;refine qq (qQ (qG ‹_› e_1 rfl ?_));refine qq (qQ (qG ‹_› e_1 rfl ?_));rw[hk];refine zf (l:=ji (jh c.was k)) (H1.sl e_5) omQ omQ (Ku omQ) ?_;refine qI rfl ?_;refine qc H2 (b:=b0) .here rfl (by show 0+10≤10;omega) rfl λh3 H3=>?_;refine qE H3 (b:=b0) (off:=0) .here rfl omQ (l:=ym (⟨5,qB c.s k,0,0,lk0,jh c.was k⟩)) rfl ?_;exact qY ⟨rfl,ComC.I H3.drop⟩
theorem qzi {me sp st a w:Int} {v1 v2:AV} {r:List xG} {cs:List Cl} (hn:5≤n) (hr:r.length≤1000) (h0:0<cs.length) (hl:cs.length≤1000) (hc:∀c∈cs,0≤c.1∧c.1<100000)
  (H:HS g h (qD 211 2 r.length v1 (r.flatMap vM)::qD 66 2 cs.length v2 (cs.flatMap jU)::R)) :
  t_w n 93 [.int .i64 me,.int .i64 sp,.int .u64 st,v1,v2,.int .i64 a,.int .i64 w] h λv h'=>∃b,v=.ptr b 0∧HS g h' (ComC b (Qi me sp st r cs a w)::R):=by
 refine t_e7 (S:=S93) rfl omQ λk hk=>?_;unfold S93;try simp only[iZ]
 refine qW (V7 omQ H) ?_;rintro _ h1 ⟨rfl,H1⟩;refine qW (Xk omQ H1 .here (YZ (λ_=>rfl) _) omQ) λu1 h2 H2=>?_;refine qW (NX omQ H2 e_2 omQ) λu2 h3 H3=>?_;refine qW (Zu omQ H3 (H3.rd e_3) h0 hl hc) λu3 h4 H4=>?_;have o1:=H4.one e_2;have o2:=H4.one e_1;have o3:=H4.one .here;unfold xe;refine qI (l:=kq ⟨kR me sp,me,st,r,cs,zr cs a w,[],0,0,lk0,0,false,0,0,0⟩ u1 u2 u3 .nils) (by simp only[vB,o1.1,o2.1,o3.1];rfl) ?_;refine qM H4 (by show ql [_,_,_,_,_,_,_,u1,u2,u3,_,_,_,_,_,_,_,_,_,_,_]=true;simp only[ql,List.all_cons,o1.2,o2.2,o3.2];rfl) λb h5 H5=>?_;have H6:=H5.nils (e:=39) (sz:=3);have H7:HS g h5 (ComC b ⟨kR me sp,me,st,r,cs,zr cs a w,[],0,0,lk0,0,false,0,0,0⟩::R) :=
  ComC.I (sv:=u1) (cv:=u2) (tv:=u3) (wv:=.nils) (H6.sub (.cons e_1 (.cons e_3 (.cons e_2 (.cons e_1 (.cons .here (.drop (.drop .refl))))))))
 refine qW (Mf omQ H7) λ_ h6 H8=>qY ⟨b,rfl,H8⟩
end
end Go.Proofs.YtnalffoigcmnnaaGreatDoor
namespace Go.Proofs.YtnalffoigcmnnaaGreatDoor
open Go Go.Ae
def G3 (a:AnM):Prop:=0≤a.word∧a.word<18446744073709551616
theorem kD {p:Qw} {a:AnM} (h:(qn p a).1=true):(qn p a).2.fin≠0:=by
 unfold qn at h ⊢
 split
 ·show(4:Int)≠0;decide
 ·rename_i c;rw[iQ c]at h;simpa using h
theorem Vd {p:Qw} {l:LkM} (hp:0≤p.spins∧p.spins≤4) (h:(jS p l).1=true):(jS p l).2.fin=p.fin∧0≤(jS p l).2.spins∧(jS p l).2.spins≤4:=by
 unfold jS at h ⊢
 split
 ·exact⟨rfl,hp⟩
 ·rename_i c;rw[iQ c]at h;have:0≤p.spins-1:=by simpa using h
  refine⟨rfl,?_⟩;show 0≤p.spins-1∧p.spins-1≤4;omega
theorem qQS {me sp:Int}:GC (kR me sp):=λ_=>by show 0≤max 0 (min sp 4)∧max 0 (min sp 4)≤4;omega
theorem Jb {p:Qw} {f e y:Int} (h:f≠0):GC (jn p f e y):=λhf=>absurd hf h
theorem XO {f:ki} {a:AnM} (hp:GC f.p):GC (xD f a).p:=by
 unfold xD;cases hs:(qn f.p a).1 with
 |true=>rw[iJ rfl];exact λh=>absurd h (kD hs)
 |false=>
  rw[iQ osQ];have hg:=(Jx hs).2;unfold Qs
  split
  ·exact hp
  ·split
   ·exact Jb od
   ·split
    ·split
     ·rename_i hw;exact λ_=>(Vd (hp hg) hw).2
     ·exact Jb od
    ·split
     ·exact Jb od
     ·exact hp
theorem qzt {me sp:Int} {r:List xG} (hr:r.length≤16):KB (UA me sp r):=⟨qQS,Int.le_refl _,by show(0:Int)≤1000;decide,hr,by show(0:Int)≤_;omega,λ_ h=>by cases h⟩
theorem NF {x:kP} (hp:GC x.p) (h0:0≤x.at_) (h1:x.at_≤x.seen.length) (hr:x.seen.length≤16):KB (QU x):=by
 unfold QU
 split
 ·exact⟨Jb od,h0,by show x.at_≤1000;omega,hr,h1,λh=>by cases h⟩
 ·exact⟨hp,h0,by omega,hr,h1,λ_ _=>by omega⟩
theorem Xz {x:kP} {a:AnM} (O:KB x):KB (xU x a):=by
 unfold xU;cases hs:(qn x.p a).1 with
 |true=>rw[iJ rfl];exact⟨λh=>absurd h (kD hs),O.lo,O.hi,O.len,O.le,λh=>absurd h (kD hs)⟩
 |false=>
  rw[iQ osQ];have hg:=(Jx hs).2;have hlo:=O.lo;have hhi:=O.hi;have hlen:=O.len
  split
  ·exact NF (x:={ x with loaded:=true,stamp:=a.word }) O.p hlo O.le hlen
  ·rename_i hl;have hl:x.loaded=true:=by simpa using hl
   have hin:=O.in_ hg hl
   split
   ·split
    ·rename_i hw;have:=Vd (O.p hg) hw;exact⟨λ_=>this.2,hlo,hhi,hlen,O.le,λ_ _=>hin⟩
    ·exact⟨Jb od,hlo,hhi,hlen,O.le,λh=>by cases h⟩
   ·split
    ·exact⟨Jb od,hlo,hhi,hlen,O.le,λh=>by cases h⟩
    ·exact NF (x:={ x with at_:=x.at_+1 }) O.p (by show 0≤x.at_+1;omega) (by show x.at_+1≤(x.seen.length:Int);omega) hlen
section
variable {c:ju}
theorem U6 (r:c.s.Pairwise (· < ·)) (h:zZ 1 c.p.spins 6 c.at_ c.now c.fin2 c.seen.length c.cells.length c.s.length c.was.length) (hs:c.state=6) (hp:0≤c.p.spins∧c.p.spins≤4) (ha:c.at_≤c.s.length):zc (ya c):=by
 unfold ya;unfold zZ at h
 split
 ·refine⟨r,?_⟩;show zZ 2 c.p.spins c.state c.at_ c.now c.fin2 c.seen.length c.cells.length c.s.length c.was.length;unfold zZ;omega
 ·refine⟨r,?_⟩;unfold zZ;omega
theorem G9 (r:c.s.Pairwise (· < ·)) (h:zZ 1 c.p.spins 5 c.at_ c.now c.fin2 c.seen.length c.cells.length c.s.length c.was.length) (hs:c.state=5) (hp:0≤c.p.spins∧c.p.spins≤4) (ha:c.at_≤c.cells.length):zc (yE c):=by
 unfold yE;unfold zZ at h
 split
 ·refine U6 (c:={ c with at_:=0,state:=6 }) r ?_ rfl hp (by show(0:Int)≤_;omega);show zZ 1 c.p.spins 6 0 c.now c.fin2 c.seen.length c.cells.length c.s.length c.was.length;unfold zZ;omega
 ·refine⟨r,?_⟩;unfold zZ;omega
theorem XT (r:c.s.Pairwise (· < ·)) (h:zZ 1 c.p.spins 4 c.at_ c.now c.fin2 c.seen.length c.cells.length c.s.length c.was.length) (hp:0≤c.p.spins∧c.p.spins≤4):zc (g9 c):=by unfold g9;unfold zZ at h;refine G9 (c:={ c with writing:=true,at_:=0,state:=5 }) r ?_ rfl hp (by show(0:Int)≤_;omega);show zZ 1 c.p.spins 5 0 c.now c.fin2 c.seen.length c.cells.length c.s.length c.was.length;unfold zZ;omega
theorem UQ (r:c.s.Pairwise (· < ·)) (h:zZ 1 c.p.spins 7 c.at_ c.now c.fin2 c.seen.length c.cells.length c.s.length c.was.length) (hs:c.state=7) (ha:c.at_≤c.was.length):zc (vh c):=by
 unfold vh;unfold zZ at h
 split
 ·refine⟨r,?_⟩;show zZ c.fin2 c.p.spins c.state c.at_ c.now c.fin2 c.seen.length c.cells.length c.s.length c.was.length;unfold zZ;omega
 ·refine⟨r,?_⟩;unfold zZ;omega
theorem Jn {f e y:Int} (r:c.s.Pairwise (· < ·)) (h:zZ 1 c.p.spins c.state c.at_ c.now c.fin2 c.seen.length c.cells.length c.s.length c.was.length) (hf:f≠0):zc (wD c f e y):=by unfold wD;unfold zZ at h;refine UQ (c:={ c with fin2:=f,err2:=e,by2:=y,at_:=0,state:=7 }) r ?_ rfl (by show(0:Int)≤_;omega);show zZ 1 c.p.spins 7 0 c.now f c.seen.length c.cells.length c.s.length c.was.length;unfold zZ;omega
theorem zc.dead (O:zc c):zZ 1 c.p.spins c.state c.at_ c.now c.fin2 c.seen.length c.cells.length c.s.length c.was.length:=by have h:=O.ar;unfold zZ at h ⊢;omega
theorem Ue {l:LkM} (O:zc c) (hg:c.p.fin=0) (hs:c.state≤6):zc (kL c l):=by
 unfold kL;have h:=O.ar
 split
 ·rename_i hw;have:=Vd (O.p hg hs) hw;refine⟨O.rise,?_⟩;show zZ (jS c.p l).2.fin (jS c.p l).2.spins c.state c.at_ c.now c.fin2 c.seen.length c.cells.length c.s.length c.was.length;unfold zZ at h ⊢;omega
 ·refine Jn (c:={ c with p:=(jS c.p l).2 }) O.rise ?_ od;show zZ 1 (jS c.p l).2.spins c.state c.at_ c.now c.fin2 c.seen.length c.cells.length c.s.length c.was.length;unfold zZ at h ⊢;omega
theorem N3 (r:c.s.Pairwise (· < ·)):∀(m:Nat) (a:Int),zZ 1 c.p.spins 4 a c.now c.fin2 c.seen.length c.cells.length c.s.length c.was.length→(0≤c.p.spins∧c.p.spins≤4)→zc (vy { c with state:=4,at_:=a } m):=by
 intro m
 induction m with
 |zero=>intro a h hp;exact XT (c:={ c with state:=4,at_:=a }) r h hp
 |succ m ih=>
  intro a h hp;unfold vy;dsimp only
  split
  ·rename_i hlt
   split
   ·refine⟨r,?_⟩;show zZ c.p.fin c.p.spins 4 a c.now c.fin2 c.seen.length c.cells.length c.s.length c.was.length;unfold zZ at h ⊢;omega
   ·split
    ·exact Jn (c:={ c with state:=4,at_:=a }) r h od
    ·refine ih (a+1) ?_ hp;unfold zZ at h ⊢;omega
  ·exact XT (c:={ c with state:=4,at_:=a }) r h hp
theorem Kc (r:c.s.Pairwise (· < ·)) (h:zZ 1 c.p.spins 4 c.at_ c.now c.fin2 c.seen.length c.cells.length c.s.length c.was.length) (hp:0≤c.p.spins∧c.p.spins≤4):zc (kl c):=N3 r _ c.at_ h hp
set_option maxHeartbeats 4000000 in
theorem Yc {a:AnM} (O:zc c) (ha:G3 a):zc (zV c a):=by
 have h:=O.ar;have hd:=O.dead;unfold zV;cases hs:(qn c.p a).1 with
 |true=>rw[iJ rfl];have hf:=kD hs;refine⟨O.rise,?_⟩;show zZ (qn c.p a).2.fin (qn c.p a).2.spins c.state c.at_ c.now c.fin2 c.seen.length c.cells.length c.s.length c.was.length;unfold zZ at h ⊢;omega
 |false=>
  rw[iQ osQ];have hg:=(Jx hs).2;have ha:=ha.1;rw[hg]at h
  split
  ·rename_i hst;unfold wI
   split
   ·exact Ue O hg omQ
   ·split
    ·refine⟨O.rise,?_⟩;show zZ c.p.fin c.p.spins 1 c.at_ c.now c.fin2 c.seen.length c.cells.length c.s.length c.was.length;rw[hg];unfold zZ at h ⊢;omega
    ·split
     ·unfold ky;dsimp only;have hl:(c.was++[c.lk]).length=c.was.length+1:=by simp
      split
      ·refine⟨O.rise,?_⟩;show zZ c.p.fin c.p.spins 2 c.at_ c.now c.fin2 c.seen.length c.cells.length c.s.length (c.was++[c.lk]).length;rw[hg];unfold zZ at h ⊢;omega
      ·refine⟨O.rise,?_⟩;show zZ c.p.fin c.p.spins 0 c.at_ c.now c.fin2 c.seen.length c.cells.length c.s.length (c.was++[c.lk]).length;rw[hg];unfold zZ at h ⊢;omega
     ·refine⟨O.rise,?_⟩;show zZ c.p.fin c.p.spins 0 c.at_ c.now c.fin2 c.seen.length c.cells.length c.s.length c.was.length;rw[hg];unfold zZ at h ⊢;omega
  split
  ·unfold gZ
   split
   ·exact Jn O.rise hd od
   ·split
    ·refine⟨O.rise,?_⟩;show zZ c.p.fin c.p.spins 3 c.at_ a.word c.fin2 c.seen.length c.cells.length c.s.length c.was.length;rw[hg];unfold zZ at h ⊢;omega
    ·split
     ·refine⟨O.rise,?_⟩;show zZ c.p.fin c.p.spins 2 c.at_ c.now c.fin2 c.seen.length c.cells.length c.s.length c.was.length;rw[hg];unfold zZ at h ⊢;omega
     ·have h4:zZ 1 c.p.spins 4 c.at_ c.now c.fin2 c.seen.length c.cells.length c.s.length c.was.length:=by unfold zZ at h ⊢;omega
      split
      ·exact XT O.rise h4 (O.p hg omQ)
      ·exact Kc O.rise h4 (O.p hg omQ)
  split
  ·rename_i h4;unfold gg
   split
   ·exact Ue O hg omQ
   ·split
    ·exact Jn O.rise hd od
    ·refine Kc (c:={ c with at_:=c.at_+1 }) O.rise ?_ (O.p hg omQ);show zZ 1 c.p.spins 4 (c.at_+1) c.now c.fin2 c.seen.length c.cells.length c.s.length c.was.length;unfold zZ at h ⊢;omega
  split
  ·rename_i h5;have:=O.st5 hg h5;refine G9 (c:={ c with at_:=c.at_+1 }) O.rise ?_ h5 (O.p hg omQ) (by show c.at_+1≤(c.cells.length:Int);omega);show zZ 1 c.p.spins 5 (c.at_+1) c.now c.fin2 c.seen.length c.cells.length c.s.length c.was.length;unfold zZ at h ⊢;omega
  split
  ·rename_i h6;have:=O.st6 hg h6;refine U6 (c:={ c with at_:=c.at_+1 }) O.rise ?_ h6 (O.p hg omQ) (by show c.at_+1≤(c.s.length:Int);omega);show zZ 1 c.p.spins 6 (c.at_+1) c.now c.fin2 c.seen.length c.cells.length c.s.length c.was.length;unfold zZ at h ⊢;omega
  ·have hst:=O.st;have h7:c.state=7:=by omega
   have:=O.st7 hg h7;refine UQ (c:={ c with at_:=c.at_+1 }) O.rise ?_ h7 (by show c.at_+1≤(c.was.length:Int);omega);show zZ 1 c.p.spins 7 (c.at_+1) c.now c.fin2 c.seen.length c.cells.length c.s.length c.was.length;unfold zZ at h ⊢;omega
theorem qx8 {me sp st a w:Int} {r:List xG} {cs:List Cl} (hr:r.length≤16) (h0:0<cs.length) (hl:cs.length≤1000) (hc:∀c∈cs,0≤c.1):zc (Qi me sp st r cs a w):=by
 have h1:(zr cs a w).length≤16:=by unfold zr;exact Nat.le_trans (List.length_filter_le ..) osQ
 have h2:0<(zr cs a w).length:=by obtain⟨c,hcm⟩:=List.exists_mem_of_length_pos h0;exact List.length_pos_of_mem ((Qe (n:=a) (w:=w) hc).2 (List.mem_map.2 ⟨c,hcm,rfl⟩))
 unfold Qi ky;rw[iQ (by show¬(0:Nat)=(zr cs a w).length;omega)];refine⟨Qg,?_⟩;show zZ 0 (max 0 (min sp 4)) 0 0 0 0 r.length cs.length (zr cs a w).length 0;unfold zZ;omega
end
end Go.Proofs.YtnalffoigcmnnaaGreatDoor
namespace Go.Proofs.YtnalffoigcmnnaaGreatDoor
open Go Go.Ae
theorem qWI {l:List qS} (F:Fit l) (Q:Quiet l):∀(n:Nat) {s:IM} {V:VM},GI l s V→frS V.lv+n<9000→(jZ l (qA l) n s V).kind=1→frS (jZ l (qA l) n s V).v.lv+(jZ l (qA l) n s V).left≤frS V.lv+n:=by
 intro n
 induction n with
 |zero=>
  intro s V G hf;rw[gJ]
  split<;>(intro h;cases h)
 |succ n ih=>
  intro s V G hf;rw[vt]
  split
  ·intro h;cases h
  ·rename_i h0;obtain⟨i,hi,hil⟩:=G.pc;have hlt:i<l.length:=by omega
   rw[hi];have S:=QE F G hi hlt omQ (Q.at hlt).2 (Q.at hlt).1;generalize doM (qA l) s V (qL l i)=D at*
   split
   ·rename_i h1
    split
    ·intro h;cases h
    ·rename_i h2;have hfr:=S.fr;intro h;have:=ih (S.next h1 (by simpa using h2)) omQ h;omega
   ·split
    ·rename_i h11;obtain⟨n1,n2,_⟩:=S.need h11;intro _;show frS D.v.lv+(n+1)≤_;rw[n2];omega
    ·intro h;cases h
theorem qYO {l:List qS} {mt:List Int}:∀(n:Nat) {s:IM} {V:VM},(jZ l mt n s V).kind=1→(jZ l mt n s V).err=0:=by
 intro n
 induction n with
 |zero=>intro s V;rw[gJ];split<;>(intro h;cases h)
 |succ n ih=>
  intro s V;rw[vt];generalize doM mt s V (qL l s.pc)=D
  split
  ·intro h;cases h
  ·split
   ·split
    ·intro h;cases h
    ·exact ih
   ·split
    ·intro _;rfl
    ·intro h;cases h
theorem qVM {V:VM} {p x:Int} (h1:1≤p) (h2:p<V.sz) (h3:j0 p V.K=none):zP V p x=(0,{ V with K:=V.K++[(p,x)] }):=by unfold zP;rw[iJ ⟨h1,h2⟩,h3]
theorem qj9 {l:List qS} {s:IM} {V:VM} {p x:Int} (G:GI l s V) (hx:0≤x∧x<18446744073709551616):GI l s (zP V p x).2:=by
 have hl:(zP V p x).2.lv=V.lv:=by
  unfold zP
  repeat' split
  all_goals rfl
 refine⟨G.gb,G.pc,G.pts,G.told,G.stk,by rw[hl];exact G.lv,⟨Kv G.good.ok,?_⟩⟩;unfold zP
 split
 ·split
  ·exact G.good.wd
  ·refine⟨λc hc=>?_,G.good.wd.l⟩;rcases List.mem_append.1 hc with hc |hc
   ·exact G.good.wd.k c hc
   ·rw[List.mem_singleton]at hc;subst hc;exact hx
 ·exact G.good.wd
theorem qxn {V:VM} (O:OkV V):V.K.length≤V.sz-1:=by
 have hlo:=O.lo;have hu:(V.K.map (·.1)).Nodup:=O.un
 have h:=Xp (V.sz-1) ((V.K.map (·.1)).map λz:Int=>z-1) (by
  rw[List.Nodup,List.pairwise_map]
  exact hu.imp λ{a b} hab=>by omega) (by
  intro a ha;obtain⟨z,hz,rfl⟩:=List.mem_map.1 ha;obtain⟨c,hc,rfl⟩:=List.mem_map.1 hz;have h1:=O.ins c hc
  omega)
 simpa using h
theorem qGB {l:List qS} {mt:List Int}:∀(n:Nat) {s:IM} {V:VM},(jZ l mt n s V).left≤n:=by
 intro n
 induction n with
 |zero=>intro s V;rw[gJ];split<;>exact Nat.le_refl _
 |succ n ih=>
  intro s V;rw[vt];generalize doM mt s V (qL l s.pc)=D
  split
  ·exact Nat.le_refl _
  ·split
   ·split
    ·exact Nat.le_succ n
    ·exact Nat.le_trans ih (Nat.le_succ n)
   ·split<;>exact Nat.le_refl _
end Go.Proofs.YtnalffoigcmnnaaGreatDoor
namespace Go.Proofs.YtnalffoigcmnnaaGreatDoor
open Go Go.Ae
structure we (S:yv):Prop where
  words:32≤S.words∧S.words≤256
  stripes:1≤S.stripes∧S.stripes≤16
  wide:1≤S.wide∧S.wide≤16
  threads:1≤S.threads∧S.threads≤4
  start:0≤S.start∧S.start≤4611686018427387903
  spins:0≤S.spins∧S.spins≤4
  writes:0≤S.writes∧S.writes≤96
  fuel:0≤S.fuel∧S.fuel≤400
theorem Qj {n lo hi:Int} (h:lo≤hi):lo≤kb n lo hi∧kb n lo hi≤hi:=by unfold kb;omega
theorem QJ {n lo hi:Int} (h:lo≤n∧n≤hi):kb n lo hi=n:=by unfold kb;omega
theorem Xd {s:yv} (h:0≤s.start):we (jf s) :=
 ⟨Qj omQ,Qj omQ,Qj omQ,Qj omQ,by show 0≤min s.start 4611686018427387903∧min s.start 4611686018427387903≤4611686018427387903;omega,Qj omQ,Qj omQ,Qj omQ⟩
theorem Yi {M:VM} {b:Int} (h:(zv M b).1=11):QT M (zv M b).2:=by
 have ha:=qqI M b;unfold zv at h ⊢
 split
 ·rename_i h1;rw[iJ h1]at h;have e:=ha.2 h1
  split
  ·rename_i h2;rw[iJ h2]at h;cases h
  ·rename_i h2;rw[iQ h2]at h
   split
   ·rename_i h3;rw[iJ h3]at h;exact(Xo h).elim
   ·rename_i h3;rw[iQ h3]at h;rw[e]at h ⊢;exact wO h
 ·rename_i h1;rw[iQ h1]at h;exact M7 h
theorem YN {M:VM} {b:Int} (O:OkV M):QI M (zv M b).2:=by
 have ha:=Mt M b;unfold zv
 repeat' split
 ·exact ha
 ·exact(ha.trans (zn _ _)).trans (vI (xw (JM O)))
 ·exact ha.trans (zn _ _)
 ·exact ha
theorem NK:∀(bs:List Int) (k:Nat) {V:VM},jX V→jX (jg V bs k).2∧QI V (jg V bs k).2∧frS (jg V bs k).2.lv=frS V.lv∧(jg V bs k).1.1≤k+bs.length∧
  ((jg V bs k).1.2=11→1≤(jg V bs k).2.need∧(jg V bs k).2.need<V.sz∧j0 (jg V bs k).2.need V.K=none):=by
 intro bs
 induction bs with
 |nil=>intro k V G;exact⟨G,.refl V,rfl,Nat.le_refl _,λh=>by cases h⟩
 |cons b r ih=>
  intro k V G;have hg:=G.give (b:=b);have hk:=YN (b:=b) G.ok;by_cases h0:(zv V b).1=0
  ·rw[show jg V (b::r) k=jg (zv V b).2 r (k+1)from iJ h0];obtain⟨a1,a2,a3,a4,a5⟩:=ih (k+1) hg.1;refine⟨a1,hk.trans a2,a3.trans hg.2,by rw[List.length_cons];omega,λh=>?_⟩;have:=a5 h;rw[hk.sz,hk.K]at this;exact this
  ·rw[show jg V (b::r) k=((k,(zv V b).1),(zv V b).2)from iQ h0];exact⟨hg.1,hk,hg.2,by dsimp only;omega,λh=>(Yi h).2⟩
def JobOk (live:Prop) (V:VM):Qa→Prop
 | .prog q=>Fit q.l∧Quiet q.l∧GB q.s∧(live→GI q.l q.s V∧q.fin=0∧q.err=0∧frS V.lv+q.left<9000)∧q.left≤400
 | .sweep bs k=>k≤bs.length∧bs.length≤100000
theorem JobOk.dead {live live':Prop} {V V':VM} {j:Qa} (O:JobOk live V j) (h:¬live'):JobOk live' V' j:=by
 cases j with
 |prog q=>exact⟨O.1,O.2.1,O.2.2.1,λh'=>absurd h' h,O.2.2.2.2⟩
 |sweep bs k=>exact O
theorem JobOk.same {live live':Prop} {V:VM} {j:Qa} (O:JobOk live V j) (h:live'→live):JobOk live' V j:=by
 cases j with
 |prog q=>exact⟨O.1,O.2.1,O.2.2.1,λh'=>O.2.2.2.1 (h h'),O.2.2.2.2⟩
 |sweep bs k=>exact O
structure zM (x:jG):Prop where
  set:we x.set
  good:jX x.v
  sz:(x.v.sz:Int)=x.set.words
  fr:frS x.v.lv<9000
  r:x.r.length≤16
  job:JobOk (x.state≤4) x.v x.job
  st:0≤x.state∧x.state≤8
  f:x.state=3→GC x.f.p∧0≤x.f.word∧x.f.word<18446744073709551616
  need:3≤x.state→x.state≤4→1≤x.v.need∧x.v.need<x.v.sz∧j0 x.v.need x.v.K=none
  e:4≤x.state→x.state≤5→KB x.e
  c:∀c,x.c=some c→zc c
  c0:x.state≤5→x.c=none
  c6:x.state=6→x.c≠none
structure DoneK (x:jG) (k:Int) (y:jG):Prop where
  good:jX y.v
  kept:y.v.sz=x.v.sz∧y.v.K=x.v.K∧y.v.most=x.v.most
  fr:frS y.v.lv<9000
  job:JobOk (k=1) y.v y.job
  need:k=1→1≤y.v.need∧y.v.need<x.v.sz∧j0 y.v.need x.v.K=none
  same:y.me=x.me∧y.set=x.set∧y.r=x.r∧y.stamp=x.stamp∧y.c=x.c
theorem Gs {x:jG} (hg:jX x.v) (hf:frS x.v.lv<9000) (hj:JobOk True x.v x.job):DoneK x (yR x).1.1 (yR x).2:=by
 unfold yR;cases hx:x.job with
 |prog q=>
  rw[hx]at hj;obtain⟨F,Q,gb,h,hl⟩:=hj;obtain⟨G,h0,h1,h2⟩:=h trivial;obtain⟨RB,rfr,_,rn,_⟩:=Y2 F Q q.left G h2;dsimp only;refine⟨RB.good,⟨RB.sz,RB.K,RB.most⟩,by dsimp only;omega,⟨F,Q,RB.gb,λhk=>?_,?_⟩,λhk=>?_,⟨rfl,rfl,rfl,rfl,rfl⟩⟩
  ·have hr:=qWI F Q q.left G h2 hk;exact⟨(rn hk).1,iJ hk,qYO _ hk,by dsimp only;omega⟩
  ·have hr:=qGB (l:=q.l) (mt:=qA q.l) q.left (s:=q.s) (V:=x.v);dsimp only;omega
  ·exact(rn hk).2
 |sweep bs k=>
  rw[hx]at hj;obtain⟨a1,a2,a3,a4,a5⟩:=NK (bs.drop k) k hg;dsimp only;refine⟨a1,⟨a2.sz,a2.K,a2.most⟩,by dsimp only;omega,⟨by rw[List.length_drop]at a4;have:=hj.1;omega,hj.2⟩,λh=>?_,⟨rfl,rfl,rfl,rfl,rfl⟩⟩
  ·refine a5 ?_
   split at h
   ·assumption
   ·split at h<;>cases h
structure wV (x:jG):Prop where
  set:we x.set
  good:jX x.v
  sz:(x.v.sz:Int)=x.set.words
  fr:frS x.v.lv<9000
  r:x.r.length≤16
  job:JobOk False x.v x.job
  c:∀c,x.c=some c→zc c
theorem zM.b {x:jG} (O:zM x):wV x:=⟨O.set,O.good,O.sz,O.fr,O.r,O.job.dead not_false,O.c⟩
theorem wV.out {x:jG} (B:wV x) {f e y:Int}:zM (xK x f e y) :=
 ⟨B.set,B.good,B.sz,B.fr,B.r,B.job.dead (by show¬(7:Int)≤4;decide),by show(0:Int)≤7∧(7:Int)≤8;decide,λh=>(by cases h),λ_ h=>(by cases h),λ_ h=>(by cases h),B.c,λh=>(by cases h),λh=>by cases h⟩
theorem wV.gone {x:jG} (B:wV x) {f e y:Int}:zM { xK x f e y with state:=8 } :=
 ⟨B.set,B.good,B.sz,B.fr,B.r,B.job.dead (by show¬(8:Int)≤4;decide),by show(0:Int)≤8∧(8:Int)≤8;decide,λh=>(by cases h),λ_ h=>(by cases h),λ_ h=>(by cases h),B.c,λh=>(by cases h),λh=>by cases h⟩
theorem wV.ask {x:jG} (B:wV x) (hj:JobOk True x.v x.job) (hn:1≤x.v.need∧x.v.need<x.v.sz∧j0 x.v.need x.v.K=none) (hc:x.c=none):zM (QA x x.v.need) :=
 ⟨B.set,B.good,B.sz,B.fr,B.r,hj.same λ_=>trivial,by show(0:Int)≤3∧(3:Int)≤8;decide,λ_=>⟨qQS,by show(0:Int)≤0;decide,by show(0:Int)<_;decide⟩,λ_ _=>hn,λh=>absurd h (by show¬(4:Int)≤3;decide),B.c,λ_=>hc,λh=>by cases h⟩
theorem wV.later {x:jG} (B:wV x) (hc:x.c=none) {s:Int} (hs:s=4∨s=5) (hj:s=4→JobOk True x.v x.job∧1≤x.v.need∧x.v.need<x.v.sz∧j0 x.v.need x.v.K=none):zM (yY x s):=by
 refine⟨B.set,B.good,B.sz,B.fr,B.r,?_,by show 0≤s∧s≤8;omega,λh=>?_,λ_ h=>(hj ?_).2,λ_ _=>qzt B.r,B.c,λ_=>hc,λh=>?_⟩
 ·show JobOk (s≤4) x.v x.job;rcases hs with rfl |rfl
  ·exact(hj rfl).1.same λ_=>trivial
  ·exact B.job.dead od
 ·have h:s=3:=h;omega
 ·have h:s≤4:=h;omega
 ·have h:s=6:=h;omega
theorem Xl {V:VM} (O:OkV V):(jV V.lv).length≤96∧∀c∈jV V.lv,1≤c.1∧c.1<256:=by have h1:=Xh V.lv [];have h2:=O.lvs.held;have h3:=O.lvs.le;refine⟨by simp at h1;unfold jV;omega,?_⟩;exact Vb V.lv [] (λc hc=>by cases hc) O.lvs.ins
theorem wV.work {x:jG} (B:wV x) (hj:JobOk True x.v x.job) (hc:x.c=none):zM (xO x):=by
 have D:=Gs B.good B.fr hj;unfold xO;generalize(yR x).1.1=k at*;generalize(yR x).1.2=e at*;generalize(yR x).2=y at*;obtain⟨e1,e2,e3,e4,e5⟩:=D.same;have hyc:y.c=none:=by rw[e5,hc]
 have B':wV y:=⟨by rw[e2];exact B.set,D.good,by rw[D.kept.1,e2];exact B.sz,D.fr,by rw[e3];exact B.r,D.job.same λh=>h.elim,λc h=>by rw[hyc]at h;cases h⟩;unfold ge
 split
 ·rename_i h1;exact B'.ask (D.job.same λ_=>h1) (by have:=D.need h1;rw[D.kept.1,D.kept.2.1];exact this) hyc
 ·split
  ·exact wV.later (x:={ y with blocking:=true }) ⟨B'.set,B'.good,B'.sz,B'.fr,B'.r,B'.job,B'.c⟩ hyc (.inr rfl) λh=>by cases h
  ·split
   ·exact B'.out
   ·split
    ·exact B'.out
    ·rename_i hm;have hmo:=Xl D.good.ok;refine⟨B'.set,B'.good,B'.sz,B'.fr,B'.r,B'.job.dead (by show¬(6:Int)≤4;decide),by show(0:Int)≤6∧(6:Int)≤8;decide,λh=>(by cases h),λ_ h=>(by cases h),λ_ h=>(by cases h),λc h=>?_,λh=>(by cases h),λ_ h=>by cases h⟩;cases h;exact qx8 B'.r (List.length_pos_iff.2 hm) omQ λc hc=>by have:=hmo.2 c hc;omega
theorem Xn {r:List xG} {x:xG} (h:r.length≤16):(wk r x).2.length≤16:=by
 unfold wk
 split
 ·exact h
 ·split
  ·split<;>exact h
  ·split
   ·exact h
   ·rw[List.length_append,List.length_singleton];omega
theorem gc {V:VM} {p x:Int}:(zP V p x).2.lv=V.lv∧(zP V p x).2.sz=V.sz:=by
 unfold zP
 repeat' split
 all_goals exact⟨rfl,rfl⟩
theorem J2 {V:VM} {p x:Int} (G:jX V) (hx:0≤x∧x<18446744073709551616):jX (zP V p x).2:=by
 refine⟨Kv G.ok,?_⟩;unfold zP
 split
 ·split
  ·exact G.wd
  ·refine⟨λc hc=>?_,G.wd.l⟩;rcases List.mem_append.1 hc with hc |hc
   ·exact G.wd.k c hc
   ·rw[List.mem_singleton]at hc;subst hc;exact hx
 ·exact G.wd
theorem JobOk.know {V:VM} {j:Qa} {p x:Int} (O:JobOk True V j) (hx:0≤x∧x<18446744073709551616):JobOk True (zP V p x).2 j:=by
 cases j with
 |prog q=>exact⟨O.1,O.2.1,O.2.2.1,λ_=>⟨qj9 (O.2.2.2.1 trivial).1 hx,(O.2.2.2.1 trivial).2.1,(O.2.2.2.1 trivial).2.2.1,by rw[gc.1];exact(O.2.2.2.1 trivial).2.2.2⟩,O.2.2.2.2⟩
 |sweep bs k=>exact O
theorem YO {f:ki} (h:0≤f.word∧f.word<18446744073709551616):0≤yX f∧yX f<18446744073709551616:=by
 unfold yX
 split
 ·omega
 ·exact h
theorem Yo {f:ki} {a:AnM} (h:0≤f.word∧f.word<18446744073709551616) (ha:G3 a):0≤(xD f a).word∧(xD f a).word<18446744073709551616:=by
 unfold xD Qs
 repeat' split
 all_goals first |exact h |exact ha
theorem wV.fetched {x:jG} (B:wV x) (hj:JobOk True x.v x.job) (hn:1≤x.v.need∧x.v.need<x.v.sz∧j0 x.v.need x.v.K=none) (hc:x.c=none) (hw:0≤x.f.word∧x.f.word<18446744073709551616):zM (yH x):=by
 unfold yH
 split
 ·exact B.later hc (.inl rfl) λ_=>⟨hj,hn⟩
 ·have hx:=YO hw
  split
  ·refine wV.work ?_ (hj.know hx) hc;exact⟨B.set,J2 B.good hx,by show((zP x.v x.v.need (yX x.f)).2.sz:Int)=_;rw[gc.2];exact B.sz,by show frS (zP x.v x.v.need (yX x.f)).2.lv<9000;rw[gc.1];exact B.fr,Xn B.r,(hj.know hx).same λh=>h.elim,B.c⟩
  ·split<;>exact B.out
theorem UE {x:jG} (O:zM x):zM (xV x):=by
 unfold xV
 split
 ·split
  ·exact⟨O.set,O.good,O.sz,O.fr,O.r,O.job,O.st,O.f,O.need,O.e,O.c,O.c0,O.c6⟩
  ·exact O
 ·exact O
theorem Ne {x:jG} (O:zM x) (h3:3≤x.state) (h6:x.state≤6):zM (xp x):=by
 unfold xp
 split
 ·rename_i hs;exact O.b.fetched (O.job.same λ_=>by omega) (O.need omQ omQ) (O.c0 omQ) (O.f hs).2
 ·split
  ·rename_i hs;exact wV.ask (x:={ x with stamp:=ve x.e }) ⟨O.set,O.good,O.sz,O.fr,O.r,O.job.dead not_false,O.c⟩ (O.job.same λ_=>by omega) (O.need omQ omQ) (O.c0 omQ)
  ·split
   ·exact wV.out (x:={ x with stamp:=ve x.e }) ⟨O.set,O.good,O.sz,O.fr,O.r,O.job.dead not_false,O.c⟩
   ·split
    ·exact O.b.out
    ·rename_i hc;exact absurd hc (O.c6 omQ)
def yA (x:jG):jG:=if(zi x).1=0 then x else if(zi x).1=5 then xK x 5 0 (zi x).2 else xp x
theorem Ua {x:jG} (O:zM x) (h3:3≤x.state) (h6:x.state≤6):zM (yA x):=by
 unfold yA
 split
 ·exact O
 ·split
  ·exact O.b.out
  ·exact Ne O h3 h6
theorem XY {x:jG} (O:zM x) (h3:3≤x.state) (h6:x.state≤6):zM (xd x):=UE (Ua O h3 h6)
theorem VW {x:jG} {a:AnM} (O:zM x) (ha:G3 a):zM (xB x a):=by
 have hst:=O.st;unfold xB
 split
 ·exact O
 ·split
  ·exact O.b.gone
  ·split
   ·exact⟨O.set,O.good,O.sz,O.fr,O.r,O.job.same λ_=>by omega,by show(0:Int)≤1∧(1:Int)≤8;decide,λh=>(by cases h),λh=>absurd h (by show¬(3:Int)≤1;decide),λh=>absurd h (by show¬(4:Int)≤1;decide),O.c,λ_=>O.c0 omQ,λh=>by cases h⟩
   ·split
    ·exact⟨O.set,O.good,O.sz,O.fr,O.r,O.job.same λ_=>by omega,by show(0:Int)≤2∧(2:Int)≤8;decide,λh=>(by cases h),λh=>absurd h (by show¬(3:Int)≤2;decide),λh=>absurd h (by show¬(4:Int)≤2;decide),O.c,λ_=>O.c0 omQ,λh=>by cases h⟩
    ·split
     ·exact O.b.work (O.job.same λ_=>by omega) (O.c0 omQ)
     ·split
      ·exact⟨O.set,O.good,O.sz,O.fr,O.r,O.job.dead (by show¬(8:Int)≤4;decide),by show(0:Int)≤8∧(8:Int)≤8;decide,λh=>(by cases h),λ_ h=>(by cases h),λ_ h=>(by cases h),O.c,λh=>(by cases h),λh=>by cases h⟩
      ·split
       ·rename_i hs;have hf:=O.f hs;refine XY (x:={ x with f:=xD x.f a }) ?_ (by show 3≤x.state;omega) (by show x.state≤6;omega);exact⟨O.set,O.good,O.sz,O.fr,O.r,O.job,O.st,λ_=>⟨XO hf.1,Yo hf.2 ha⟩,O.need,O.e,O.c,O.c0,O.c6⟩
       ·split
        ·rename_i hs;refine XY (x:={ x with c:=x.c.map λc=>zV c a }) ?_ (by show 3≤x.state;omega) (by show x.state≤6;omega);refine⟨O.set,O.good,O.sz,O.fr,O.r,O.job,O.st,O.f,O.need,O.e,λc h=>?_,λh=>absurd h (by show¬x.state≤5;omega),λh hn=>O.c6 h ?_⟩
         ·obtain⟨c',h1,rfl⟩:=Option.map_eq_some_iff.1 h;exact Yc (O.c c' h1) ha
         ·exact Option.map_eq_none_iff.1 hn
        ·refine XY (x:={ x with e:=xU x.e a }) ?_ (by show 3≤x.state;omega) (by show x.state≤6;omega);exact⟨O.set,O.good,O.sz,O.fr,O.r,O.job,O.st,O.f,O.need,λh1 h2=>Xz (O.e h1 h2),O.c,O.c0,O.c6⟩
theorem Ya (w m:Int):jX (Xg w m):=⟨qzO w m,λc hc=>(by cases hc),λx hx c hc=>by
 rcases List.mem_cons.1 hx with rfl |hx
 ·cases hc
 ·cases hx⟩
theorem qQU {me:Int} {S:yv} {j:Qa} (O:we S) (hj:JobOk True (Xg S.words S.writes) j):zM (GF me S j):=by have:=O.words;refine⟨O,Ya _ _,?_,by show(0:Nat)<9000;decide,Nat.zero_le _,hj.same λ_=>trivial,by show(0:Int)≤0∧(0:Int)≤8;decide,λh=>(by cases h),λh=>absurd h (by show¬(3:Int)≤0;decide),λh=>absurd h (by show¬(4:Int)≤0;decide),λc h=>(by cases h),λ_=>rfl,λh=>by cases h⟩;show((szZ S.words:Nat):Int)=S.words;unfold szZ;omega
theorem Z1 {me:Int} {S:yv} {l:List qS} (hs:0≤S.start) (hc:(yQ l).2=0) (Q:Quiet l):zM (Jp me S l):=by
 have O:=Xd hs;refine qQU O ?_;have G:=Ya (jf S).words (jf S).writes;have hf:jd (jf S).fuel≤400:=by unfold jd;omega
 exact⟨QF hc,Q,(QD (l:=l) rfl G).gb,λ_=>⟨QD rfl G,rfl,rfl,by show(0:Nat)+jd (jf S).fuel<9000;omega⟩,hf⟩
end Go.Proofs.YtnalffoigcmnnaaGreatDoor
namespace Go.Proofs.YtnalffoigcmnnaaGreatDoor
open Go Go.Ae
structure RecM where
  thread:Int
  job:Int
  try_:Int
  sweep:Bool
  kind:Int
  err:Int
  begin_:Int
  stamp:Int
  born:Int
  ended:Int
  reads:List Cl
  cells:List Cl
  frees:List Int
  slate:List UInt8
structure ResM where
  kind:Int
  err:Int
  slate:List UInt8
  stamp:Int
abbrev qz9:Type:=Int×Int
structure qJe where
  me:Int
  set:yv
  jobs:List (List qS)
  job:Int
  state:Int
  sweep:Bool
  giving:List qz9
  tries:Int
  conf:Int
  now:Option jG
  born:Int
  alarm:Bool
  past:List RecM
  results:List ResM
  rests:List qz9
  slots:List Int
  by_:Int
  since:Int
  yielding:Bool
  pauses:Int
def ME (x:jG):Int:=if x.state≠8 then 0 else x.err
structure MacM where
  s:yv
  m:js
  t:List qJe
  picks:Int
  last:OpM
  did:Bool
def Vp (S:yv):js:=⟨List.replicate S.words.toNat 0,List.replicate S.stripes.toNat lk0,S.start,List.replicate S.threads.toNat 0,0⟩
end Go.Proofs.YtnalffoigcmnnaaGreatDoor
namespace Go.Proofs.YtnalffoigcmnnaaGreatDoor
open Go Go.Ae
def isSw:Qa→Bool
 | .prog _=>false
 | .sweep _ _=>true
structure VY (x y:jG):Prop where
  me:y.me=x.me
  set:y.set=x.set
  sw:isSw y.job=isSw x.job
theorem VY.refl (x:jG):VY x x:=⟨rfl,rfl,rfl⟩
theorem VY.trans {x y z:jG} (a:VY x y) (b:VY y z):VY x z:=⟨b.me.trans a.me,b.set.trans a.set,b.sw.trans a.sw⟩
structure ThrB (t:qJe):Prop where
  set:we t.set
  me:0≤t.me∧t.me<t.set.threads
  jobs:∀l∈t.jobs,(yQ l).2=0∧Quiet l
  jl:t.jobs.length≤6
  job:0≤t.job∧t.job≤t.jobs.length
  rests:t.rests.length+t.giving.length≤9000*t.results.length
  slots:t.slots.length≤6
  tries:0≤t.tries∧t.tries≤t.past.length
  conf:0≤t.conf∧t.conf≤t.tries
  giv:t.sweep=false→t.giving=[]
structure ThrC (t:qJe):Prop extends ThrB t where
  now:∀x,t.now=some x→zM x∧x.me=t.me∧x.set=t.set∧isSw x.job=t.sweep
  lt:t.job<t.jobs.length
  some:t.now≠none
structure ThrOk (t:qJe):Prop where
  st:1≤t.state∧t.state≤6
  b:ThrB t
  c:t.state≠6→ThrC t
  fin:t.state=6→t.job=t.jobs.length∧t.now=none
  res:(t.results.length:Int)≤t.job+(if t.state≠6∧(t.sweep=true∨t.state=5)then 1 else 0)
  slo:t.state=5→(t.slots.length:Int)<t.set.threads∧(t.slots.length:Int)≠t.me
  pau:t.state=3→0<t.pauses∧t.pauses≤8
  byy:t.state=2→0≤t.by_∧t.by_<t.set.threads
  sw5:t.state=5→t.sweep=false
variable {t:qJe}
theorem ThrB.len (B:ThrB t) (h:(t.results.length:Int)≤t.job+1):t.rests.length+t.giving.length≤63000:=by have h1:=B.jl;have h2:=B.job;have h3:=B.rests;omega
theorem ThrC.go (C:ThrC t) {u:qJe} (h1:u.set=t.set) (h2:u.me=t.me) (h3:u.jobs=t.jobs) (h4:u.job=t.job) (h5:u.rests=t.rests) (h6:u.giving=t.giving) (h7:u.results=t.results) (h8:u.slots.length≤6) (h9:0≤u.tries∧u.tries≤u.past.length) (h10:0≤u.conf∧u.conf≤u.tries) (h11:u.now=t.now) (h12:u.sweep=t.sweep):ThrC u:=by have B:=C.toThrB;refine⟨⟨by rw[h1];exact B.set,by rw[h1,h2];exact B.me,by rw[h3];exact B.jobs,by rw[h3];exact B.jl,by rw[h3,h4];exact B.job,by rw[h5,h6,h7];exact B.rests,h8,h9,h10,by rw[h12,h6];exact B.giv⟩,by rw[h11,h1,h2,h12];exact C.now,by rw[h3,h4];exact C.lt,by rw[h11];exact C.some⟩
theorem qXO (lv:List LvM):(vz lv).length≤frS lv:=by unfold vz frS;rw[List.length_flatMap,List.map_reverse,List.sum_reverse];exact Nat.le_refl _
end Go.Proofs.YtnalffoigcmnnaaGreatDoor
