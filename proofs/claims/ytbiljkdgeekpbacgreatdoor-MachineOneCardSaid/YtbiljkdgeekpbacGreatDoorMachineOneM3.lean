/- Lemmas for 'quietus/quietuslaw28.MachineOne': Transactions step by step: plain, as the program has them;The memory: by the program;Patience, a fetch: by the program;The memorys operations: by the ... No condition. -/
import Derived.Test.YtbiljkdgeekpbacGreatDoorMachineOneM2
import Derived.Test.YtbiljkdgeekpbacGreatDoorMachineOneX
import Derived.Lib.SlicesCompact
namespace Go.Proofs.YtbiljkdgeekpbacGreatDoor
open Go Go.Ae
set_option maxRecDepth 100000
section
abbrev LkM:Type:=Int×Bool×Int
structure OpM where
  kind:Int
  at_:Int
  old:Int
  word:Int
  was:LkM
  lk:LkM
structure AnM where
  word:Int
  lk:LkM
  done:Bool
  err:Int
structure jC where
  w:List Int
  l:List LkM
  n:Int
  s:List Int
  cnt:Int
def lk0:LkM:=(0,false,0)
def op0 (kind at_ word:Int):OpM:=⟨kind,at_,0,word,lk0,lk0⟩
def an0:AnM:=⟨0,lk0,false,0⟩
def anE (e:Int):AnM:=⟨0,lk0,false,e⟩
def KK (l:LkM):Prop:=l.1<4611686018427387904∧(if l.2.1=true then 0≤l.2.2∧l.2.2<4 else l.2.2=0)
instance {l:LkM}:Decidable (KK l):=by unfold KK;infer_instance
def zx (l:List LkM) (i:Int):LkM:=(l[i.toNat]?).getD lk0
def XI (m:jC) (o:OpM):AnM×jC :=
 if o.at_<1∨(m.w.length:Int)≤o.at_ then(anE 2,m)else if o.kind=1 then(⟨qM m.w o.at_,lk0,false,0⟩,m)else(an0,{ m with w:=m.w.set o.at_.toNat o.word })
def Qb (m:jC) (o:OpM):AnM×jC :=
 if o.at_<0∨(m.l.length:Int)≤o.at_ then(anE 2,m)
 else if o.kind=3 then(⟨0,zx m.l o.at_,false,0⟩,m)
 else if¬KK o.lk then(anE 1,m)
 else if o.kind=5 then(an0,{ m with l:=m.l.set o.at_.toNat o.lk })
 else if zx m.l o.at_≠o.was then(an0,m)
 else(⟨0,lk0,true,0⟩,{ m with l:=m.l.set o.at_.toNat o.lk })
def XV (m:jC) (o:OpM):AnM×jC :=
 if o.kind=6 then(⟨m.n,lk0,false,0⟩,m)
 else if o.word≤o.old then(anE 1,m)
 else if 4611686018427387904≤o.word then(anE 7,m)
 else if m.n≠o.old then(an0,m)
 else(⟨0,lk0,true,0⟩,{ m with n:=o.word })
def Q6 (m:jC) (o:OpM):AnM×jC :=
 if o.at_<0∨(m.s.length:Int)≤o.at_ then(anE 2,m)else if o.kind=8 then(⟨qM m.s o.at_,lk0,false,0⟩,m)else(an0,{ m with s:=m.s.set o.at_.toNat o.word })
def jw (m:jC) (o:OpM):AnM×jC :=
 let r:=if o.kind=1∨o.kind=2 then XI m o else if o.kind=3∨o.kind=4∨o.kind=5 then Qb m o else if o.kind=6∨o.kind=7 then XV m o else if o.kind=8∨o.kind=9 then Q6 m o else(anE 1,m)
 if r.1.err=0 then(r.1,{ r.2 with cnt:=r.2.cnt+1 })else r
def ofM (at_ n wide:Int):Int:=if at_<0 then-1 else(at_/max 1 (min wide 16))%max 1 (min n 16)
def xS (cs:List Cl) (n wide:Int):List Int:=((List.range 16).map λi:Nat=>(i:Int)).filter λs=>cs.any λc=>decide (ofM c.1 n wide=s)
structure Jf where
  me:Int
  spins:Int
  fin:Int
  by_:Int
  err:Int
def JQ (me spins:Int):Jf:=⟨me,max 0 (min spins 4),0,-1,0⟩
def zY (p:Jf) (l:LkM):Bool×Jf:=if p.me<l.2.2 then(true,p)else(decide (0≤p.spins-1),{ p with spins:=p.spins-1 })
def zy (p:Jf) (fin err by_:Int):Jf:={ p with fin:=fin,err:=err,by_:=by_ }
def jK (p:Jf) (a:AnM):Bool×Jf:=if p.fin=0∧a.err≠0 then(true,zy p 4 a.err (-1))else(decide (p.fin≠0),p)
abbrev xP:Type:=Int×Int
structure JV where
  p:Jf
  at_:Int
  stripe:Int
  stamp:Int
  state:Int
  lk:LkM
  word:Int
def Qg (me at_ stripe spins stamp:Int):JV:=⟨JQ me spins,at_,stripe,stamp,0,lk0,0⟩
def US (f:JV):Option OpM:=if f.p.fin≠0 then none else if f.state=1 then some (op0 1 f.at_ 0)else some (op0 3 f.stripe 0)
def XM (f:JV) (l:LkM):JV :=
 if l.2.1=true then(if(zY f.p l).1=true then{ f with state:=0,p:=(zY f.p l).2 }else{ f with state:=0,p:=zy (zY f.p l).2 5 0 l.2.2 })
 else if f.stamp<l.1 then{ f with state:=0,p:=zy f.p 6 0 (-1) }
 else{ f with lk:=l,state:=1 }
def xo (f:JV) (a:AnM):JV :=
 if(jK f.p a).1=true then{ f with p:=(jK f.p a).2 }
 else if f.state=1 then{ f with word:=a.word,state:=2 }
 else if f.state=2∧a.lk=f.lk then{ f with p:=zy f.p 2 0 (-1) }
 else XM f a.lk
def yP (f:JV):Int:=if f.p.fin≠2 then 0 else f.word
def vY (f:JV):xP:=if f.p.fin≠2 then(0,0)else(f.stripe,f.lk.1)
structure Q5 where
  p:Jf
  seen:List xP
  loaded:Bool
  at_:Int
  stamp:Int
def Vu (me spins:Int) (seen:List xP):Q5:=⟨JQ me spins,seen,false,0,0⟩
def z6 (l:List xP) (i:Int):xP:=(l[i.toNat]?).getD (0,0)
def Jn (x:Q5):Option OpM:=if x.p.fin≠0 then none else if x.loaded=false then some (op0 6 0 0)else some (op0 3 (z6 x.seen x.at_).1 0)
def J4 (x:Q5):Q5:=if x.at_=(x.seen.length:Int)then{ x with p:=zy x.p 2 0 (-1) }else x
def yq (x:Q5) (a:AnM):Q5 :=
 if(jK x.p a).1=true then{ x with p:=(jK x.p a).2 }
 else if x.loaded=false then J4 { x with loaded:=true,stamp:=a.word }
 else if a.lk.2.1=true then(if(zY x.p a.lk).1=true then{ x with p:=(zY x.p a.lk).2 }else{ x with p:=zy (zY x.p a.lk).2 5 0 a.lk.2.2 })
 else if a.lk.1≠(z6 x.seen x.at_).2 then{ x with p:=zy x.p 5 0 (-1) }
 else J4 { x with at_:=x.at_+1 }
def wZ (x:Q5):Int:=if x.p.fin≠2 then 0 else x.stamp
structure zE where
  p:Jf
  me:Int
  stamp:Int
  seen:List xP
  cells:List Cl
  s:List Int
  was:List LkM
  state:Int
  at_:Int
  lk:LkM
  now:Int
  writing:Bool
  fin2:Int
  by2:Int
  err2:Int
def Qi (c:zE):zE:={ c with state:=if c.was.length=c.s.length then 2 else 0 }
def XL (me spins stamp:Int) (seen:List xP) (cells:List Cl) (n wide:Int):zE :=
 Qi ⟨JQ me spins,me,stamp,seen,cells,xS cells n wide,[],0,0,lk0,0,false,0,0,0⟩
def kP (l:List Cl) (i:Int):Cl:=(l[i.toNat]?).getD (0,0)
def yK (c:zE):Option OpM :=
 if c.p.fin≠0 then none
 else if c.state=0 then some (op0 3 (qM c.s c.was.length) 0)
 else if c.state=1 then some ⟨4,qM c.s c.was.length,0,0,c.lk,(c.lk.1,true,c.me)⟩
 else if c.state=2 then some (op0 6 0 0)
 else if c.state=3 then some ⟨7,0,c.now,c.now+1,lk0,lk0⟩
 else if c.state=4 then some (op0 3 (z6 c.seen c.at_).1 0)
 else if c.state=5 then some (op0 2 (kP c.cells c.at_).1 (kP c.cells c.at_).2)
 else if c.state=6 then some ⟨5,qM c.s c.at_,0,0,lk0,(c.now+1,false,0)⟩
 else some ⟨5,qM c.s c.at_,0,0,lk0,zx c.was c.at_⟩
def gU (c:zE):zE:=if c.at_=(c.was.length:Int)then{ c with p:=zy c.p c.fin2 c.err2 c.by2 }else c
def kr (c:zE) (fin err by_:Int):zE:=gU { c with fin2:=fin,err2:=err,by2:=by_,at_:=0,state:=7 }
def Qf (c:zE) (l:LkM):zE:=if(zY c.p l).1=true then{ c with p:=(zY c.p l).2 }else kr { c with p:=(zY c.p l).2 } 5 0 l.2.2
def vL (c:zE):zE:=if c.at_=(c.s.length:Int)then{ c with p:=zy c.p 2 0 (-1) }else c
def vv (c:zE):zE:=if c.at_=(c.cells.length:Int)then vL { c with at_:=0,state:=6 }else c
def kB (c:zE):zE:=vv { c with writing:=true,at_:=0,state:=5 }
def ownM:List Int→List LkM→Int→Option Int
 |s::r,w::q,x=>if s=x then some w.1 else ownM r q x
 |_,_,_=>none
def gE (c:zE):Nat→zE
 | 0=>kB c
 |n+1=>
  if c.at_<(c.seen.length:Int)then
   (match ownM c.s c.was (z6 c.seen c.at_).1 with
   |none=>c
   |some v=>if v≠(z6 c.seen c.at_).2 then kr c 5 0 (-1)else gE { c with at_:=c.at_+1 } n)
  else kB c
def Jq (c:zE):zE:=gE { c with state:=4 } (c.seen.length+1)
def ku (c:zE) (a:AnM):zE :=
 if c.state=0∧a.lk.2.1=true then Qf c a.lk
 else if c.state=0 then{ c with lk:=a.lk,state:=1 }
 else if a.done=true then Qi { c with was:=c.was++[c.lk] }
 else{ c with state:=0 }
def wQ (c:zE) (a:AnM):zE :=
 if c.state=2∧4611686018427387903≤a.word then kr c 4 7 (-1)
 else if c.state=2 then{ c with now:=a.word,state:=3 }
 else if a.done=false then{ c with state:=2 }
 else if c.now=c.stamp then kB c
 else Jq c
def wU (c:zE) (l:LkM):zE :=
 if l.2.1=true then Qf c l
 else if l.1≠(z6 c.seen c.at_).2 then kr c 5 0 (-1)
 else Jq { c with at_:=c.at_+1 }
def zH (c:zE) (a:AnM):zE :=
 if(jK c.p a).1=true then{ c with p:=(jK c.p a).2 }
 else if c.state=0∨c.state=1 then ku c a
 else if c.state=2∨c.state=3 then wQ c a
 else if c.state=4 then wU c a.lk
 else if c.state=5 then vv { c with at_:=c.at_+1 }
 else if c.state=6 then vL { c with at_:=c.at_+1 }
 else gU { c with at_:=c.at_+1 }
def wy (c:zE):Int:=if c.writing=false then 0 else c.now+1
def wo (c:zE):Bool:=c.writing&&decide (c.p.fin=0)
structure zv where
  words:Int
  stripes:Int
  wide:Int
  threads:Int
  start:Int
  spins:Int
  writes:Int
  fuel:Int
def wI (n lo hi:Int):Int:=max lo (min n hi)
def jq (s:zv):zv:=⟨wI s.words 32 256,wI s.stripes 1 16,wI s.wide 1 16,wI s.threads 1 4,min s.start 4611686018427387903,wI s.spins 0 4,wI s.writes 0 96,wI s.fuel 0 400⟩
structure RunS where
  l:List qR
  s:IM
  fin:Int
  err:Int
  left:Nat
inductive Jw where
  |prog (r:RunS)
  |sweep (blocks:List Int) (k:Nat)
structure jG where
  me:Int
  set:zv
  job:Jw
  v:VM
  r:List xP
  state:Int
  f:JV
  e:Q5
  c:Option zE
  begun:Bool
  begin_:Int
  stamp:Int
  fin:Int
  by_:Int
  err:Int
  blocking:Bool
def GK (me:Int) (S:zv) (job:Jw):jG:=⟨me,S,job,w7 S.words S.writes,[],0,Qg 0 0 0 0 0,Vu 0 0 [],none,false,0,0,0,-1,0,false⟩
def yY (me:Int) (S:zv) (l:List qR):jG:=GK me (jq S) (.prog ⟨l,J7,0,0,jj (jq S).fuel⟩)
def yr (me:Int) (S:zv) (bs:List Int):jG:=GK me (jq S) (.sweep bs 0)
def xA (x:jG):Option OpM :=
 if x.state=0 then some (op0 9 x.me 1)
 else if x.state=1 then some (op0 6 0 0)
 else if x.state=2 then some (op0 9 x.me (zN .u64 (x.stamp+1)))
 else if x.state=7 then some (op0 9 x.me 0)
 else if x.state=8 then none
 else if x.state=3 then US x.f
 else if x.state=6 then x.c.bind yK
 else Jn x.e
def xd (x:jG) (fin err by_:Int):jG:={ x with fin:=fin,err:=err,by_:=by_,state:=7 }
def Jc (x:jG) (at_:Int):jG:={ x with state:=3,f:=Qg x.me at_ (ofM at_ x.set.stripes x.set.wide) x.set.spins x.stamp }
def y7 (x:jG) (state:Int):jG:={ x with state:=state,e:=Vu x.me x.set.spins x.r }
def jR:VM→List Int→Nat→(Nat×Int)×VM
 |V,[],k=>((k,0),V)
 |V,b::r,k=>if(zj V b).1=0 then jR (zj V b).2 r (k+1)else((k,(zj V b).1),(zj V b).2)
def y8 (x:jG):(Int×Int)×jG:=match x.job with
 | .sweep bs k=>(if(jR x.v (bs.drop k) k).1.2=11 then(1,0)else if(jR x.v (bs.drop k) k).1.2=0 then(2,0)else(4,(jR x.v (bs.drop k) k).1.2),{ x with job:=.sweep bs (jR x.v (bs.drop k) k).1.1,v:=(jR x.v (bs.drop k) k).2 })
 | .prog q=>(((jL q.l (qO q.l) q.left q.s x.v).kind,(jL q.l (qO q.l) q.left q.s x.v).err),{ x with
   job:=.prog ⟨q.l,(jL q.l (qO q.l) q.left q.s x.v).s,if(jL q.l (qO q.l) q.left q.s x.v).kind=1 then 0 else(jL q.l (qO q.l) q.left q.s x.v).kind,(jL q.l (qO q.l) q.left q.s x.v).err,(jL q.l (qO q.l) q.left q.s x.v).left⟩,
   v:=(jL q.l (qO q.l) q.left q.s x.v).v })
def gY (x:jG) (k e:Int):jG :=
 if k=1 then Jc x x.v.need
 else if k=3 then y7 { x with blocking:=true } 5
 else if k=4 then xd x 4 e (-1)
 else if jZ x.v.lv=[]then xd x 2 0 (-1)
 else{ x with state:=6,c:=some (XL x.me x.set.spins x.stamp x.r (jZ x.v.lv) x.set.stripes x.set.wide) }
def yW (x:jG):jG:=gY (y8 x).2 (y8 x).1.1 (y8 x).1.2
def kE (r:List xP) (x:xP):Int×List xP :=
 if x.1<0∨16≤x.1∨4611686018427387904≤x.2 then(1,r)
 else match r.find? λy=>decide (y.1=x.1)with
  |some y=>if y.2≠x.2 then(14,r)else(0,r)
  |none=>if r.length=16 then(5,r)else(0,r++[x])
def yL (x:jG):jG :=
 if x.f.p.fin=6 then y7 x 4
 else if(kE x.r (vY x.f)).1=0 then yW { x with r:=(kE x.r (vY x.f)).2,v:=(xW x.v x.v.need (yP x.f)).2 }
 else if(kE x.r (vY x.f)).1=14 then xd x 5 0 (-1)
 else xd x 4 (kE x.r (vY x.f)).1 (-1)
def xI (x:jG):Int×Int:=if x.state=3 then(x.f.p.fin,x.f.p.by_)else if x.state=6 then(match x.c with |some c=>(c.p.fin,c.p.by_) |none=>(0,0))else(x.e.p.fin,x.e.p.by_)
def yA (x:jG):jG :=
 if x.state=3 then yL x
 else if x.state=4 then Jc { x with stamp:=wZ x.e } x.v.need
 else if x.state=5 then xd { x with stamp:=wZ x.e } 3 0 (-1)
 else match x.c with |some c=>xd x c.p.fin c.p.err (-1) |none=>x
def zh (x:jG):Bool:=decide (x.state≠8)&&(match x.c with |some c=>wo c||decide (c.p.fin=2) |none=>false)
def xz (x:jG):jG:=if zh x=true then(match x.c with |some c=>{ x with stamp:=wy c } |none=>x)else x
def xu (x:jG):jG:=xz (if(xI x).1=0 then x else if(xI x).1=5 then xd x 5 0 (xI x).2 else yA x)
def jU (x:jG) (a:AnM):jG :=
 if x.state=8 then x
 else if a.err≠0 then{ xd x 4 a.err (-1)with state:=8 }
 else if x.state=0 then{ x with state:=1 }
 else if x.state=1 then{ x with begun:=true,begin_:=a.word,stamp:=a.word,state:=2 }
 else if x.state=2 then yW x
 else if x.state=7 then{ x with state:=8 }
 else if x.state=3 then xu { x with f:=xo x.f a }
 else if x.state=6 then xu { x with c:=x.c.map λc=>zH c a }
 else xu { x with e:=yq x.e a }
def jS (x:jG):Int:=if x.state≠8 then 0 else x.fin
def xM (x:jG):Bool:=decide (jS x=2)||zh x
def Gp (x:jG):List Cl:=if xM x=true then jZ x.v.lv else[]
def zP (x:jG):List Int:=if xM x=true then(match x.job with | .sweep bs _=>bs | .prog _=>gA x.v.lv)else[]
def zR (x:jG):List UInt8:=if xM x=true then(match x.job with | .sweep _ _=>[] | .prog q=>qZD q.s.out)else[]
end
section
variable {g h:AH} {L R:List SP}
def zA (l:LkM):List AV:=[.int .u64 l.1,.bool l.2.1,.int .i64 l.2.2]
def yN (o:OpM):List AV:=[.int .i64 o.kind,.int .i64 o.at_,.int .u64 o.old,.int .u64 o.word,.int .u64 o.was.1,.bool o.was.2.1,.int .i64 o.was.2.2,.int .u64 o.lk.1,.bool o.lk.2.1,.int .i64 o.lk.2.2]
def xw (a:AnM):List AV:=[.int .u64 a.word,.int .u64 a.lk.1,.bool a.lk.2.1,.int .i64 a.lk.2.2,.bool a.done,.int .i64 a.err]
theorem qgo {l:List LkM} {k:Nat} (hk:k<l.length):l[k]? =some (zx l (k:Int)):=by unfold zx;rw[Int.toNat_natCast,iW hk];rfl
theorem Od {l:List LkM} {k:Nat} (hk:k<l.length):((l.flatMap zA).drop (k*3)).take 3=zA (zx l (k:Int)):=vI (enc:=zA) (λ_=>rfl) (qgo hk)
section
variable {n b m:Nat} {v:AV} {a:Int} {e:TypeId} {xs:List AV} {R2:List SP}
theorem ON {w o:Int}:KK (w,true,o)↔w<4611686018427387904∧0≤o∧o<4:=by unfold KK;simp
theorem Zw {w o:Int}:KK (w,false,o)↔w<4611686018427387904∧o=0:=by unfold KK;simp
theorem qgn {o:Int} (hn:1≤n):t_w n 287 [.int .i64 o] h λr h'=>r=.bool (decide (0≤o∧o<4))∧h'=h:=by
 refine t_e1 rfl omQ λk hk=>?_;unfold S287;try simp only[iZ]
 refine yC (λc2=>?_) (λc2=>?_)
 ·refine qV<|qa ?_;(try dsimp only)
  refine zL (λc3=>?_) (λc3=>?_)
  ·refine qD<|qj ⟨by rw[iG omQ],rfl⟩
  ·refine qD<|qj ⟨by rw[iV omQ],rfl⟩
 ·refine qV<|qT<|qE ?_
  exact qj ⟨by rw[iV omQ],rfl⟩
theorem jQn (hn:2≤n) {l:LkM} (H:HS g h R):t_w n 220 [.agg (zA l)] h λr h'=>r=.bool (decide (KK l))∧HS g h' R:=by
 refine t_e1 rfl omQ λk hk=>?_;unfold S220;try simp only[iZ]
 obtain⟨w,d,o⟩:=l;refine qP H rfl λb h1 H1=>?_;have H1:HS g h1 (qw b [.int .u64 w,.bool d,.int .i64 o]::R):=H1;refine qQ (qX ‹_› .here rfl ?_);cases d with
 |true=>
  refine qZ (qQ (qX ‹_› .here rfl ?_));refine zL (λc1=>?_) (λc1=>?_)
  ·refine qV<|qa<|qQ (qX ‹_› .here rfl ?_)
   refine qG (qgn omQ) ?_;rintro _ _ ⟨rfl,rfl⟩;refine qD (qj ⟨?_,H1.drop⟩);by_cases hc:0≤o∧o<4
   ·rw[iG hc,iG (ON.2 ⟨by omega,hc⟩)]
   ·rw[iV hc,iV (λh=>hc (ON.1 h).2)]
  ·refine qV<|qT<|qE ?_
   exact qj ⟨by rw[iV (λh=>by have:=(ON.1 h).1;omega)],H1.drop⟩
 |false=>
  refine qJ (qQ (qX ‹_› .here rfl ?_));refine zL (λc1=>?_) (λc1=>?_)
  ·refine qV<|qa<|qQ (qX ‹_› .here rfl ?_)
   refine gK (λc2=>?_) (λc2=>?_)
   ·refine qD<|qj ⟨by rw[iG (Zw.2 omQ)],H1.drop⟩
   ·refine qD<|qj ⟨by rw[iV (λh=>by have:=(Zw.1 h).2;omega)],H1.drop⟩
  ·refine qV<|qT<|qE ?_
   exact qj ⟨by rw[iV (λh=>by have:=(Zw.1 h).1;omega)],H1.drop⟩
theorem qzB (hn:1≤n) (H:HS g h L) (s:Sel L (qw b [v]) R) (s2:Sel L (qy e 1 m v xs) R2) :
  t_w n 163 [.ptr b 0,.int .i64 a] h λr h'=>r=.bool (decide (1≤a∧a<m))∧h'=h:=by
 refine t_e2 rfl omQ λk hk=>?_;unfold S163;try simp only[iZ]
 refine yC (λh1=>?_) (λh1=>?_)
 ·refine qV<|qa<|qW (qQ ?_)
  refine qX H s rfl<|qm H s2<|zL (λh2=>?_) (λh2=>?_)
  ·refine qD<|qj ⟨by rw[iG omQ],rfl⟩
  ·refine qD<|qj ⟨by rw[iV omQ],rfl⟩
 ·refine qV<|qT<|qE ?_
  exact qj ⟨by rw[iV omQ],rfl⟩
theorem qz8 (hn:1≤n) (H:HS g h L) (s:Sel L (qw b [v]) R) (s2:Sel L (qy e 1 m v xs) R2) :
  t_w n 166 [.ptr b 0,.int .i64 a] h λr h'=>r=.bool (decide (0≤a∧a<m))∧h'=h:=by
 refine t_e2 rfl omQ λk hk=>?_;unfold S166;try simp only[iZ]
 refine yC (λh1=>?_) (λh1=>?_)
 ·refine qV<|qa<|qW (qQ ?_)
  refine qX H s rfl<|qm H s2<|zL (λh2=>?_) (λh2=>?_)
  ·refine qD<|qj ⟨by rw[iG omQ],rfl⟩
  ·refine qD<|qj ⟨by rw[iV omQ],rfl⟩
 ·refine qV<|qT<|qE ?_
  exact qj ⟨by rw[iV omQ],rfl⟩
theorem qx7 (hn:1≤n) {wd:AV} (H:HS g h L) (s:Sel L (qw b [v,wd]) R) (s2:Sel L (qy e 3 m v xs) R2) :
  t_w n 164 [.ptr b 0,.int .i64 a] h λr h'=>r=.bool (decide (0≤a∧a<m))∧h'=h:=by
 refine t_e2 rfl omQ λk hk=>?_;unfold S164;try simp only[iZ]
 refine yC (λh1=>?_) (λh1=>?_)
 ·refine qV<|qa<|qW (qQ ?_)
  refine qX H s rfl<|qm H s2<|zL (λh2=>?_) (λh2=>?_)
  ·refine qD<|qj ⟨by rw[iG omQ],rfl⟩
  ·refine qD<|qj ⟨by rw[iV omQ],rfl⟩
 ·refine qV<|qT<|qE ?_
  exact qj ⟨by rw[iV omQ],rfl⟩
theorem qxR {ws:List Int} (hn:2≤n) (H:HS g h L) (s:Sel L (qw b [v]) R) (s2:Sel L (qy e 1 ws.length v (ws.map (.int .u64))) R2) :
  t_w n 105 [.ptr b 0,.int .i64 a] h λr h'=>r=.tup [.int .u64 (if 1≤a∧a<ws.length then qM ws a else 0),.int .i64 (if 1≤a∧a<ws.length then 0 else 2)]∧h'=h:=by
 refine t_e2 rfl omQ λk hk=>?_;unfold S105;try simp only[iZ]
 refine qG (qzB omQ H s s2) ?_;rintro _ _ ⟨rfl,rfl⟩;by_cases hc:1≤a∧a<ws.length
 ·rw[iG hc,iJ hc,iJ hc];obtain⟨k,rfl⟩:∃k:Nat,a=k:=⟨a.toNat,by omega⟩;refine jk (qJ (qW (qQ (qX H s rfl ?_))));refine jO (H.sl s2) (by rw[List.getElem?_map,gd omQ];rfl)<|qj ⟨rfl,rfl⟩
 ·rw[iV hc,iQ hc,iQ hc];refine jA (qZ ?_);exact qj ⟨rfl,rfl⟩
theorem qkC {ws:List Int} (hn:2≤n) (H:HS g h L) (s:Sel L (qw b [v]) R) (s2:Sel L (qy e 1 ws.length v (ws.map (.int .u64))) R2) :
  t_w n 111 [.ptr b 0,.int .i64 a] h λr h'=>r=.tup [.int .u64 (if 0≤a∧a<ws.length then qM ws a else 0),.int .i64 (if 0≤a∧a<ws.length then 0 else 2)]∧h'=h:=by
 refine t_e2 rfl omQ λk hk=>?_;unfold S111;try simp only[iZ]
 refine qG (qz8 omQ H s s2) ?_;rintro _ _ ⟨rfl,rfl⟩;by_cases hc:0≤a∧a<ws.length
 ·rw[iG hc,iJ hc,iJ hc];obtain⟨k,rfl⟩:∃k:Nat,a=k:=⟨a.toNat,by omega⟩;refine jk (qJ (qW (qQ (qX H s rfl ?_))));refine jO (H.sl s2) (by rw[List.getElem?_map,gd omQ];rfl)<|qj ⟨rfl,rfl⟩
 ·rw[iV hc,iQ hc,iQ hc];refine jA (qZ ?_);exact qj ⟨rfl,rfl⟩
theorem qGp {ws:List Int} {w:Int} (hn:2≤n) (H:HS g h (qw b [v]::qy e 1 ws.length v (ws.map (.int .u64))::R)) :
  t_w n 106 [.ptr b 0,.int .i64 a,.int .u64 w] h λr h'=>r=.int .i64 (if 1≤a∧a<ws.length then 0 else 2)∧
   HS g h' (qw b [v]::qy e 1 (if 1≤a∧a<ws.length then ws.set a.toNat w else ws).length v ((if 1≤a∧a<ws.length then ws.set a.toNat w else ws).map (.int .u64))::R):=by
 refine t_e3 rfl omQ λk hk=>?_;unfold S106;try simp only[iZ]
 refine qG (qzB omQ H .here e_1) ?_;rintro _ _ ⟨rfl,rfl⟩;by_cases hc:1≤a∧a<ws.length
 ·rw[iG hc];simp only[iJ hc];obtain⟨k,rfl⟩:∃k:Nat,a=k:=⟨a.toNat,by omega⟩;refine jk (qJ (qW (qQ (qX ‹_› .here rfl ?_))));refine Yo (H.sel e_1) omQ ⟨rfl,rfl⟩ λh2 H2=>?_;rw[← List.map_set]at H2;exact qj ⟨rfl,by rw[List.length_set];exact H2.pk [1,0] 0⟩
 ·rw[iV hc];simp only[iQ hc];refine jA (qZ ?_);exact qj ⟨rfl,H⟩
theorem qGL {ws:List Int} {w:Int} (hn:2≤n) (H:HS g h (qw b [v]::qy e 1 ws.length v (ws.map (.int .u64))::R)) :
  t_w n 112 [.ptr b 0,.int .i64 a,.int .u64 w] h λr h'=>r=.int .i64 (if 0≤a∧a<ws.length then 0 else 2)∧
   HS g h' (qw b [v]::qy e 1 (if 0≤a∧a<ws.length then ws.set a.toNat w else ws).length v ((if 0≤a∧a<ws.length then ws.set a.toNat w else ws).map (.int .u64))::R):=by
 refine t_e3 rfl omQ λk hk=>?_;unfold S112;try simp only[iZ]
 refine qG (qz8 omQ H .here e_1) ?_;rintro _ _ ⟨rfl,rfl⟩;by_cases hc:0≤a∧a<ws.length
 ·rw[iG hc];simp only[iJ hc];obtain⟨k,rfl⟩:∃k:Nat,a=k:=⟨a.toNat,by omega⟩;refine jk (qJ (qW (qQ (qX ‹_› .here rfl ?_))));refine Yo (H.sel e_1) omQ ⟨rfl,rfl⟩ λh2 H2=>?_;rw[← List.map_set]at H2;exact qj ⟨rfl,by rw[List.length_set];exact H2.pk [1,0] 0⟩
 ·rw[iV hc];simp only[iQ hc];refine jA (qZ ?_);exact qj ⟨rfl,H⟩
variable {ls:List LkM} {wd:AV}
theorem qxa (hn:2≤n) (H:HS g h L) (s:Sel L (qw b [v,wd]) R) (s2:Sel L (qy e 3 ls.length v (ls.flatMap zA)) R2) :
  t_w n 107 [.ptr b 0,.int .i64 a] h λr h'=>r=.tup [.agg (zA (if 0≤a∧a<ls.length then zx ls a else lk0)),.int .i64 (if 0≤a∧a<ls.length then 0 else 2)]∧HS g h' L:=by
 refine t_e2 rfl omQ λk hk=>?_;unfold S107;try simp only[iZ]
 refine qP H rfl λb0 h1 H1=>?_;refine qG (qx7 omQ H1 (.there s) (.there s2)) ?_;rintro _ _ ⟨rfl,rfl⟩;by_cases hc:0≤a∧a<ls.length
 ·rw[iG hc,iJ hc,iJ hc];obtain⟨k,rfl⟩:∃k:Nat,a=k:=⟨a.toNat,by omega⟩;refine jk (qJ (qW (qQ (qX H1 (.there s) rfl ?_))));refine zd (H1.sl (.there s2)) omQ omQ (Od omQ)<|qf H1 .here rfl (by simp) rfl λh2 H2=>?_;refine qF H2 .here rfl omQ rfl<|qj ⟨rfl,H2.drop⟩
 ·rw[iV hc,iQ hc,iQ hc];refine jA (qZ (qL rfl ?_));refine qf H1 .here rfl (by simp) rfl λh2 H2=>?_;refine qF H2 .here rfl omQ rfl<|qj ⟨rfl,H2.drop⟩
def Qq (n:Nat) (a:Int) (l:LkM):Int:=if 0≤a∧a<n then(if KK l then 0 else 1)else 2
theorem qKl {l:LkM} (hn:3≤n) (H:HS g h L) (s:Sel L (qw b [v,wd]) R) (s2:Sel L (qy e 3 m v xs) R2) :
  t_w n 165 [.ptr b 0,.int .i64 a,.agg (zA l)] h λr h'=>r=.int .i64 (Qq m a l)∧HS g h' L:=by
 refine t_e3 rfl omQ λk hk=>?_;unfold S165;try simp only[iZ]
 unfold Qq;refine qP H rfl λb0 h1 H1=>?_;refine qG (qx7 omQ H1 (.there s) (.there s2)) ?_;rintro _ _ ⟨rfl,rfl⟩;by_cases hc:0≤a∧a<m
 ·rw[iG hc,iJ hc];refine jk (qJ (qF H1 .here rfl omQ rfl ?_));refine qG (jQn omQ H1) ?_;rintro _ h2 ⟨rfl,H2⟩;by_cases hl:KK l
  ·rw[iG hl,iJ hl];refine jk (qJ ?_);exact qj ⟨rfl,H2.drop⟩
  ·rw[iV hl,iQ hl];refine jA (qZ ?_);exact qj ⟨rfl,H2.drop⟩
 ·rw[iV hc,iQ hc];refine jA (qZ ?_);exact qj ⟨rfl,H1.drop⟩
theorem qyM (x y:LkM):xO [.bas .int 0,.bas .bool 1,.bas .int 2] (zA x) (zA y)=some (decide (x=y)):=by obtain⟨a,b,c⟩:=x;obtain⟨a',b',c'⟩:=y;show(bif ieq a a' then(bif b==b' then(bif ieq c c' then some true else some false)else some false)else some false)=_;rw[YM,YM];by_cases h1:a=a'<;>by_cases h3:c=c'<;>cases b<;>cases b'<;>simp[h1,h3]
theorem qwo {was l:LkM} (hn:4≤n) (H:HS g h (qw b [v,wd]::qy e 3 ls.length v (ls.flatMap zA)::R)) :
  t_w n 108 [.ptr b 0,.int .i64 a,.agg (zA was),.agg (zA l)] h λr h'=>r=.tup [.bool (decide (Qq ls.length a l=0∧zx ls a=was)),.int .i64 (Qq ls.length a l)]∧
   HS g h' (qw b [v,wd]::qy e 3 (if Qq ls.length a l=0∧zx ls a=was then ls.set a.toNat l else ls).length v ((if Qq ls.length a l=0∧zx ls a=was then ls.set a.toNat l else ls).flatMap zA)::R):=by
 (refine qB rfl omQ λk hk=>?_;show wp (S108 (callT tab qx k) _ _ _ _ _) _;unfold S108;try simp only[iI,uU,iZ])
 refine qP H rfl λb0 h1 H1=>?_;refine qP H1 rfl λb1 h2 H2=>?_;refine qF H2 .here rfl omQ rfl<|qG (qKl omQ H2 e_2 e_3) ?_;rintro _ h3 ⟨rfl,H3⟩;by_cases c0:Qq ls.length a l=0
 rotate_left
 ·refine jX c0<|qZ ?_;rw[iV (λh=>c0 h.1)];simp only[iQ (show¬(Qq ls.length a l=0∧zx ls a=was)from λh=>c0 h.1)];exact qj ⟨rfl,H3.drop.drop⟩
 have hc:0≤a∧a<ls.length:=by
  unfold Qq at c0
  split at c0
  ·assumption
  ·cases c0
 obtain⟨k,rfl⟩:∃k:Nat,a=k:=⟨a.toNat,by omega⟩;refine q9 c0<|qJ (qW (qQ (qX ‹_› e_2 rfl ?_)));refine zd (H3.sl e_3) omQ omQ (Od omQ)<|qF H3 e_1 rfl omQ rfl<|qVf (qyM _ _) (λc1=>?_) (λc1=>?_)
 ·rw[iG ⟨c0,c1⟩];simp only[iJ (show Qq ls.length k l=0∧zx ls k=was from⟨c0,c1⟩)];rw[c0];refine qJ (qW (qQ (qX ‹_› e_2 rfl ?_)));refine qF H3 .here rfl omQ rfl<|qXe (l:=zA l) (i:=k) (H3.sel e_3) omQ rfl rfl λh4 H4=>?_;rw[Oe (enc:=zA) (λ_=>rfl) omQ]at H4;exact qj ⟨rfl,by rw[List.length_set];exact H4.pk [3,0] 2⟩
 ·rw[iV (λh=>c1 h.2)];simp only[iQ (show¬(Qq ls.length k l=0∧zx ls k=was)from λh=>c1 h.2)];rw[c0];refine qZ<|qj ⟨rfl,H3.drop.drop⟩
theorem qYU {l:LkM} (hn:4≤n) (H:HS g h (qw b [v,wd]::qy e 3 ls.length v (ls.flatMap zA)::R)) :
  t_w n 109 [.ptr b 0,.int .i64 a,.agg (zA l)] h λr h'=>r=.int .i64 (Qq ls.length a l)∧
   HS g h' (qw b [v,wd]::qy e 3 (if Qq ls.length a l=0 then ls.set a.toNat l else ls).length v ((if Qq ls.length a l=0 then ls.set a.toNat l else ls).flatMap zA)::R):=by
 refine t_e3 rfl omQ λk hk=>?_;unfold S109;try simp only[iZ]
 refine qP H rfl λb0 h1 H1=>?_;refine qF H1 .here rfl omQ rfl<|qG (qKl omQ H1 e_1 e_2) ?_;rintro _ h3 ⟨rfl,H3⟩;refine qV ?_
 try dsimp only
 by_cases c0:Qq ls.length a l=0
 rotate_left
 ·refine qK c0<|qJ (qk ?_);simp only[iQ c0];exact qj ⟨rfl,H3.drop⟩
 have hc:0≤a∧a<ls.length:=by
  unfold Qq at c0
  split at c0
  ·assumption
  ·cases c0
 obtain⟨k,rfl⟩:∃k:Nat,a=k:=⟨a.toNat,by omega⟩;refine qg c0 ?_;simp only[iJ c0];refine qZ (qW (qQ (qX ‹_› e_1 rfl ?_)));refine qF H3 .here rfl omQ rfl<|qXe (l:=zA l) (H3.sel e_2) omQ rfl rfl λh4 H4=>?_;rw[Oe (sz:=3) (λ_=>rfl) omQ]at H4;refine qk<|qj ⟨rfl,by rw[List.length_set];exact H4.pk [2,0] 1⟩
end
def qXf (p hb tb cb sb:Nat) (wv lv sv:AV) (S:zv) (M:jC) (R:List SP):List SP :=
 qw p [.int .i64 S.words,.int .i64 S.stripes,.int .i64 S.wide,.int .i64 S.threads,.int .u64 S.start,.ptr hb 0,.ptr tb 0,.ptr cb 0,.ptr sb 0,.int .i64 M.cnt]::qw hb [wv]::qy 22 1 M.w.length wv (M.w.map (.int .u64))::
 qw tb [lv,.int .i64 S.wide]::qy 77 3 M.l.length lv (M.l.flatMap zA)::qw cb [.int .u64 M.n]::qw sb [sv]::qy 22 1 M.s.length sv (M.s.map (.int .u64))::R
def MemC (p:Nat) (S:zv) (M:jC):SP:=.ex λq:(Nat×Nat×Nat×Nat)×AV×AV×AV=>.all (qXf p q.1.1 q.1.2.1 q.1.2.2.1 q.1.2.2.2 q.2.1 q.2.2.1 q.2.2.2 S M [])
section
variable {p hb tb cb sb:Nat} {wv lv sv:AV} {S:zv} {M:jC}
theorem MemC.E (H:HS g h (MemC p S M::R)):∃hb tb cb sb wv lv sv,HS g h (qw p [.int .i64 S.words,.int .i64 S.stripes,.int .i64 S.wide,.int .i64 S.threads,.int .u64 S.start,.ptr hb 0,.ptr tb 0,.ptr cb 0,.ptr sb 0,.int .i64 M.cnt]::qw hb [wv]::qy 22 1 M.w.length wv (M.w.map (.int .u64))::
  qw tb [lv,.int .i64 S.wide]::qy 77 3 M.l.length lv (M.l.flatMap zA)::qw cb [.int .u64 M.n]::qw sb [sv]::qy 22 1 M.s.length sv (M.s.map (.int .u64))::R):=by
 obtain⟨⟨⟨hb,tb,cb,sb⟩,wv,lv,sv⟩,H⟩:=H.exE;exact⟨hb,tb,cb,sb,wv,lv,sv,H.allE⟩
theorem MemC.I (H:HS g h (qXf p hb tb cb sb wv lv sv S M R)):HS g h (MemC p S M::R):=HS.exI ((hb,tb,cb,sb),wv,lv,sv) (HS.allI H)
end
end
section
variable {g h:AH} {L R:List SP}
def yH (p:Jf) (xs:List AV):List AV:=.int .i64 p.me:: .int .i64 p.spins:: .int .i64 p.fin:: .int .i64 p.by_:: .int .i64 p.err::xs
def opV (o:Option OpM):AV:=.tup [.agg (yN (o.getD (op0 0 0 0))),.bool o.isSome]
def UG (p:Jf):Prop:=p.fin=0→0≤p.spins∧p.spins≤4
section
variable {n b:Nat} {p:Jf} {xs:List AV}
theorem ZG {me sp:Int} (hn:1≤n) (H:HS g h R):t_w n 225 [.int .i64 me,.int .i64 sp] h λr h'=>r=.agg (yH (JQ me sp) [])∧HS g h' R:=by
 refine t_e2 rfl omQ λk hk=>?_;unfold S225;try simp only[iZ]
 refine qP H rfl λb h1 H1=>?_;refine ju (zD (qL rfl ?_));refine qf H1 .here rfl (by simp) rfl λh2 H2=>?_;refine qF H2 .here rfl omQ rfl<|qj ⟨rfl,H2.drop⟩
theorem X9 (hn:1≤n) (H:HS g h L) (s:Sel L (qw b (yH p xs)) R):t_w n 218 [.ptr b 0] h λr h'=>r=.int .i64 p.fin∧h'=h:=by
 refine t_e1 rfl omQ λk hk=>?_;unfold S218;try simp only[iZ]
 refine qW (qQ ?_);exact qX H s rfl (qj ⟨rfl,rfl⟩)
theorem qk0 (hn:1≤n) (H:HS g h L) (s:Sel L (qw b (yH p xs)) R):t_w n 295 [.ptr b 0] h λr h'=>r=.int .i64 p.err∧h'=h:=by
 refine t_e1 rfl omQ λk hk=>?_;unfold S295;try simp only[iZ]
 refine qW (qQ ?_);exact qX H s rfl (qj ⟨rfl,rfl⟩)
theorem qKC (hn:1≤n) (H:HS g h L) (s:Sel L (qw b (yH p xs)) R):t_w n 376 [.ptr b 0] h λr h'=>r=.int .i64 p.by_∧h'=h:=by
 refine t_e1 rfl omQ λk hk=>?_;unfold S376;try simp only[iZ]
 refine qW (qQ ?_);exact qX H s rfl (qj ⟨rfl,rfl⟩)
theorem ge {f e y:Int} (hn:1≤n) (H:HS g h (qw b (yH p xs)::R)):t_w n 378 [.ptr b 0,.int .i64 f,.int .i64 e,.int .i64 y] h λ_ h'=>HS g h' (qw b (yH (zy p f e y) xs)::R):=by
 refine t_e4 rfl omQ λk hk=>?_;unfold S378;try simp only[iZ]
 unfold yH at H;refine qW (qQ (qA H .here ⟨rfl,rfl⟩ osQ λh1 H1=>?_));refine qW (qQ (qA H1 .here ⟨rfl,rfl⟩ osQ λh2 H2=>?_));refine qW (qQ (qA H2 .here ⟨rfl,rfl⟩ osQ λh3 H3=>?_));exact qj H3
theorem KP {l:LkM} (hn:1≤n) (hp:0≤p.spins∧p.spins≤4) (H:HS g h (qw b (yH p xs)::R)):t_w n 380 [.ptr b 0,.agg (zA l)] h λr h'=>r=.bool (zY p l).1∧HS g h' (qw b (yH (zY p l).2 xs)::R):=by
 refine t_e2 rfl omQ λk hk=>?_;unfold S380;try simp only[iZ]
 refine qP H rfl λb0 h1 H1=>?_;have H1:HS g h1 (qw b0 (zA l)::qw b (.int .i64 p.me:: .int .i64 p.spins:: .int .i64 p.fin:: .int .i64 p.by_:: .int .i64 p.err::xs)::R):=H1;unfold zA at H1;refine qQ (qX ‹_› .here rfl ?_);refine qW (qQ (qX ‹_› e_1 rfl ?_));unfold zY;by_cases c:p.me<l.2.2
 ·refine yp c ?_;rw[iJ c];refine qZ<|qj ⟨rfl,H1.drop⟩
 ·refine yT c ?_;rw[iQ c];refine qJ (qW (qQ (qX ‹_› e_1 rfl ?_)));refine zJ omQ<|qW (qQ (qA H1 e_1 ⟨rfl,rfl⟩ osQ λh2 H2=>?_));refine qW (qQ (qX ‹_› .here rfl ?_));refine yC (λc2=>?_) (λc2=>?_)
  ·exact qj ⟨by rw[iG omQ],H2.pk [0] 1⟩
  ·exact qj ⟨by rw[iV omQ],H2.pk [0] 1⟩
theorem XY {a:AnM} (hn:2≤n) (H:HS g h (qw b (yH p xs)::R)):t_w n 377 [.ptr b 0,.agg (xw a)] h λr h'=>r=.bool (jK p a).1∧HS g h' (qw b (yH (jK p a).2 xs)::R):=by
 refine t_e2 rfl omQ λk hk=>?_;unfold S377;try simp only[iZ]
 refine qP H rfl λb0 h1 H1=>?_;unfold xw at H1;refine ji [] (λs h'=>s=(.ptr b 0,())∧HS g h' (qw b (yH (if p.fin=0∧a.err≠0 then zy p 4 a.err (-1)else p) xs)::R)) ?_ ?_
 rotate_left
 ·rintro s h2 ⟨rfl,H2⟩;unfold yH at H2;refine qW (qQ (qX ‹_› .here rfl ?_));by_cases c:p.fin=0∧a.err≠0
  ·rw[iJ c]at H2;rw[show jK p a=(true,zy p 4 a.err (-1))from iJ c,iJ c];refine jX (by show(4:Int)≠0;decide)<|qk<|qj ⟨rfl,H2⟩
  ·rw[iQ c]at H2;rw[show jK p a=(decide (p.fin≠0),p)from iQ c,iQ c];refine yS (λc2=>?_) (λc2=>?_)
   ·refine qk<|qj ⟨congrArg AV.bool (iG c2).symm,H2⟩
   ·refine qk<|qj ⟨congrArg AV.bool (iV (λh=>h c2)).symm,H2⟩
 intro j hj;refine qW (qQ (qX ‹_› e_1 rfl ?_));by_cases c:p.fin=0
 ·refine qg c<|qV<|qa<|qQ (qX ‹_› .here rfl ?_)
  by_cases c2:a.err=0
  ·refine q9 c2<|qD (qJ ?_);exact hj _ _ ⟨rfl,by rw[iQ (λh=>h.2 c2)];exact H1.drop⟩
  ·refine jX c2<|qD (qZ (qQ (qX ‹_› .here rfl ?_)));refine qG (ge omQ (H1.sel e_1)) λ_ h2 H2=>?_;exact hj _ _ ⟨rfl,by rw[iJ ⟨c,c2⟩];exact H2.pk [0] 1⟩
 ·refine qK c<|qV<|qT<|qE (qJ ?_)
  exact hj _ _ ⟨rfl,by rw[iQ (λh=>c h.1)];exact H1.drop⟩
end
def wA (f:JV):List AV:=yH f.p [.int .i64 f.at_,.int .i64 f.stripe,.int .u64 f.stamp,.int .i64 f.state,.int .u64 f.lk.1,.bool f.lk.2.1,.int .i64 f.lk.2.2,.int .u64 f.word]
section
variable {n b:Nat} {f:JV}
theorem qgN {me at_ st sp t:Int} (hn:2≤n) (H:HS g h R):t_w n 222 [.int .i64 me,.int .i64 at_,.int .i64 st,.int .i64 sp,.int .u64 t] h λr h'=>∃b,r=.ptr b 0∧HS g h' (qw b (wA (Qg me at_ st sp t))::R):=by
 refine t_e5 rfl omQ λk hk=>?_;unfold S222;try simp only[iZ]
 refine qG (ZG omQ H) ?_;rintro _ h1 ⟨rfl,H1⟩;unfold yH;refine qL rfl<|qP H1 rfl λb h2 H2=>qj ⟨b,rfl,H2⟩
theorem qqP (hn:2≤n) (H:HS g h (qw b (wA f)::R)):t_w n 374 [.ptr b 0] h λr h'=>r=opV (US f)∧HS g h' (qw b (wA f)::R):=by
 refine t_e1 rfl omQ λk hk=>?_;unfold S374;try simp only[iZ]
 refine qP H rfl λb0 h1 H1=>?_;refine qW (qQ (qG (X9 omQ H1 e_1) ?_));rintro _ _ ⟨rfl,rfl⟩;unfold US;have H2:=H1;unfold wA yH at H2;by_cases c:f.p.fin=0
 ·refine q9 c ?_;rw[iQ (λh=>h c)];refine qJ (qW (qQ (qX ‹_› e_1 rfl ?_)));by_cases c2:f.state=1
  ·refine qg c2 ?_;rw[iJ c2];refine qZ (qW (qQ (qX ‹_› e_1 rfl ?_)));refine qL rfl<|qf H1 .here rfl (by simp) rfl λh3 H3=>?_;refine qF H3 .here rfl omQ rfl<|qj ⟨rfl,H3.drop⟩
  ·refine qK c2 ?_;rw[iQ c2];refine qJ (qW (qQ (qX ‹_› e_1 rfl ?_)));refine qL rfl<|qf H1 .here rfl (by simp) rfl λh3 H3=>?_;refine qF H3 .here rfl omQ rfl<|qj ⟨rfl,H3.drop⟩
 ·refine jX c ?_;rw[iJ c];refine qZ (qL rfl ?_);refine qf H1 .here rfl (by simp) rfl λh3 H3=>?_;refine qF H3 .here rfl omQ rfl<|qj ⟨rfl,H3.drop⟩
theorem ND {l:LkM} (hn:2≤n) (hp:0≤f.p.spins∧f.p.spins≤4) (H:HS g h (qw b (wA f)::R)):t_w n 379 [.ptr b 0,.agg (zA l)] h λ_ h'=>HS g h' (qw b (wA (XM f l))::R):=by
 refine t_e2 rfl omQ λk hk=>?_;unfold S379;try simp only[iZ]
 refine qP H rfl λb0 h1 H1=>?_;unfold wA yH zA at H1;refine qW (qQ (qA H1 e_1 ⟨rfl,rfl⟩ osQ λh2 H2=>?_));have H2:HS g h2 (qw b (wA { f with state:=0 })::qw b0 (zA l)::R):=H2;have H3:=H2;unfold wA yH zA at H3;refine qV<|qQ (qX ‹_› e_1 rfl ?_)
 unfold XM;obtain⟨w,d,o⟩:=l;cases d with
 |true=>
  rw[iJ rfl];refine qZ (qW (qQ (qF H2 e_1 rfl omQ rfl ?_)));refine qG (KP omQ hp H2) ?_;rintro _ h4 ⟨rfl,H4⟩;cases hw:(zY f.p (w,true,o)).1 with
  |true=>rw[iJ rfl];refine jk (qJ (qk ?_));exact qj (H4.pk [0] 1)
  |false=>rw[iQ osQ];have H5:=H4;unfold zA at H5;refine jA (qZ (qW (qQ (qQ (qX ‹_› e_1 rfl ?_)))));refine qG (ge omQ H4) λ_ h5 H5=>?_;refine qk<|qj (H5.pk [0] 1)
 |false=>
  rw[iQ osQ];refine qJ (qQ (qX ‹_› e_1 rfl ?_));refine qW (qQ (qX ‹_› .here rfl ?_));by_cases c:f.stamp<w
  ·refine yp c ?_;rw[iJ c];refine qZ (qW (qQ (qG (ge omQ H2) λ_ h5 H5=>?_)));refine qk<|qj (H5.pk [0] 1)
  ·refine yT c ?_;rw[iQ c];refine qJ (qF H3 e_1 rfl omQ rfl ?_);refine qW (qQ (qf H3 .here rfl (by simp) rfl λh5 H5=>?_));refine qW (qQ (qA H5 .here ⟨rfl,rfl⟩ (by simp[kA]) λh6 H6=>?_));refine qk<|qj (H6.pk [0] 1)
theorem qjH {a:AnM} (hn:3≤n) (hp:UG f.p) (H:HS g h (qw b (wA f)::R)):t_w n 375 [.ptr b 0,.agg (xw a)] h λ_ h'=>HS g h' (qw b (wA (xo f a))::R):=by
 (refine qB rfl omQ λk hk=>?_;show wp (S375 (callT tab qx k) _ _ _) _;unfold S375;try simp only[iI,uU,iZ])
 generalize hF:xo f a=F;refine qP H rfl λb0 h1 H1=>?_;refine ji [] (λ_ h'=>HS g h' (qw b (wA F)::R)) (λj hj=>?_) λ_ h' H'=>?_
 rotate_left
 ·refine qk<|qj H'
 refine qW (qQ (qF H1 .here rfl omQ rfl ?_));refine qG (XY omQ (H1.sel e_1)) ?_;rintro _ h2 ⟨rfl,H2⟩;unfold xo at hF;cases hs:(jK f.p a).1 with
 |true=>rw[iJ hs]at hF;refine qZ<|hj _ _ (by rw[← hF];exact H2.pk [0] 1)
 |false=>
  rw[iQ (by rw[hs];simp)]at hF;have hsp:(jK f.p a).2=f.p∧f.p.fin=0:=by
   unfold jK at hs ⊢
   split at hs
   ·cases hs
   ·rename_i c;rw[iQ c];exact⟨rfl,by simpa using hs⟩
  rw[hsp.1]at H2;have H3:HS g h2 (qw b (wA f)::qw b0 (xw a)::R):=H2;have H4:=H3;unfold wA yH xw at H4;refine qJ (qW (qQ (qX ‹_› .here rfl ?_)));by_cases c1:f.state=1
  ·refine qg c1 ?_;rw[iJ c1]at hF;refine qZ (qQ (qX ‹_› e_1 rfl ?_));refine qW (qQ (qA H4 .here ⟨rfl,rfl⟩ osQ λh5 H5=>?_));refine qW (qQ (qA H5 .here ⟨rfl,rfl⟩ osQ λh6 H6=>?_));exact hj _ _ (by rw[← hF];exact H6.pk [0] 1)
  refine qK c1 ?_;rw[iQ c1]at hF;refine qJ (qW (qQ (qX ‹_› .here rfl ?_)));by_cases c2:f.state=2
  ·refine qg c2<|qV<|qa<|qQ ?_
   refine qF H4 e_1 rfl omQ rfl<|qW (qQ (qF H4 .here rfl omQ rfl ?_));refine qVf (qyM _ _) (λc3=>?_) (λc3=>?_)
   ·rw[iJ ⟨c2,c3⟩]at hF;refine qD (qZ (qW (qQ (qG (ge omQ H3) λ_ h5 H5=>?_))));exact hj _ _ (by rw[← hF];exact H5.pk [0] 1)
   ·rw[iQ (λh=>c3 h.2)]at hF;refine qD (qJ (qQ (qF H4 e_1 rfl omQ rfl ?_)));refine qG (ND omQ (hp hsp.2) H3) λ_ h5 H5=>?_;exact hj _ _ (by rw[← hF];exact H5.pk [0] 1)
  ·refine qK c2 ?_;rw[iQ (λh=>c2 h.1)]at hF;refine qV<|qT<|qE (qJ (qQ ?_))
   refine qF H4 e_1 rfl omQ rfl<|qG (ND omQ (hp hsp.2) H3) λ_ h5 H5=>?_;exact hj _ _ (by rw[← hF];exact H5.pk [0] 1)
theorem UE (hn:2≤n) (H:HS g h L) (s:Sel L (qw b (wA f)) R):t_w n 290 [.ptr b 0] h λr h'=>r=.int .i64 f.p.fin∧h'=h:=by
 refine t_e1 rfl omQ λk hk=>?_;unfold S290;try simp only[iZ]
 refine qW (qQ (qG (X9 omQ H s) ?_));rintro _ _ ⟨rfl,rfl⟩;exact qj ⟨rfl,rfl⟩
theorem jQF (hn:2≤n) (H:HS g h L) (s:Sel L (qw b (wA f)) R):t_w n 373 [.ptr b 0] h λr h'=>r=.int .i64 f.p.by_∧h'=h:=by
 refine t_e1 rfl omQ λk hk=>?_;unfold S373;try simp only[iZ]
 refine qW (qQ (qG (qKC omQ H s) ?_));rintro _ _ ⟨rfl,rfl⟩;exact qj ⟨rfl,rfl⟩
theorem qj2 (hn:3≤n) (H:HS g h L) (s:Sel L (qw b (wA f)) R):t_w n 293 [.ptr b 0] h λr h'=>r=.int .u64 (yP f)∧h'=h:=by
 refine t_e1 rfl omQ λk hk=>?_;unfold S293;try simp only[iZ]
 refine qG (UE omQ H s) ?_;rintro _ _ ⟨rfl,rfl⟩;unfold yP;by_cases c:f.p.fin=2
 ·refine q9 c ?_;rw[iQ (λh=>h c)];refine qJ (qW (qQ ?_));exact qX H s rfl (qj ⟨rfl,rfl⟩)
 ·refine jX c ?_;rw[iJ c];refine qZ<|qj ⟨rfl,rfl⟩
def vw (x:xP):List AV:=[.int .i64 x.1,.int .u64 x.2]
theorem qq1 (hn:3≤n) (H:HS g h L) (s:Sel L (qw b (wA f)) R):t_w n 292 [.ptr b 0] h λr h'=>r=.agg (vw (vY f))∧HS g h' L:=by
 refine t_e1 rfl omQ λk hk=>?_;unfold S292;try simp only[iZ]
 refine qP H rfl λb0 h1 H1=>?_;refine qG (UE omQ H1 (.there s)) ?_;rintro _ _ ⟨rfl,rfl⟩;unfold vY;by_cases c:f.p.fin=2
 ·refine q9 c ?_;rw[iQ (λh=>h c)];refine qJ (qW (qQ (qX H1 (.there s) rfl ?_)));refine qW (qQ (qX H1 (.there s) rfl ?_));refine qL rfl<|qf H1 .here rfl (by simp) rfl λh3 H3=>?_;refine qF H3 .here rfl omQ rfl<|qj ⟨rfl,H3.drop⟩
 ·refine jX c ?_;rw[iJ c];refine qZ (qL rfl ?_);refine qf H1 .here rfl (by simp) rfl λh3 H3=>?_;refine qF H3 .here rfl omQ rfl<|qj ⟨rfl,H3.drop⟩
end
end
section
variable {g h:AH} {L R:List SP}
section
variable {n m:Nat} {v:AV} {xs:List AV}
theorem qYe (hn:1≤n) (H:HS g h L) (s:Sel L (qy 22 1 m v xs) R) (ha:qp xs=true) (hm:m≤1000000) :
  t_w n 113 [v] h λr h'=>HS g h' (qy 22 1 m r xs::L):=by
 refine t_e1 rfl omQ λk hk=>?_;unfold S113;try simp only[iZ]
 refine JS H s (λh1 h2=>?_) (qJ ?_)
 ·subst h1 h2;obtain rfl:xs=[]:=iA (by simpa using H.sl_len s);exact qZ (qj H.nils)
 ·refine qh (l:=[]) H rfl rfl rfl rfl λv2 h2 H2=>?_;refine jf H2 (H2.sl (.there s)) omQ omQ ha λv3 h3 H3=>?_;rw[Nat.zero_add,List.nil_append]at H3;exact qj H3
theorem Gy (hn:1≤n) (H:HS g h L) (s:Sel L (qy 140 2 m v xs) R) (ha:qp xs=true) (hm:m≤1000000) :
  t_w n 179 [v] h λr h'=>HS g h' (qy 140 2 m r xs::L):=by
 refine t_e1 rfl omQ λk hk=>?_;unfold S179;try simp only[iZ]
 refine JS H s (λh1 h2=>?_) (qJ ?_)
 ·subst h1 h2;obtain rfl:xs=[]:=iA (by simpa using H.sl_len s);exact qZ (qj H.nils)
 ·refine qh (l:=[]) H rfl rfl rfl rfl λv2 h2 H2=>?_;refine jf H2 (H2.sl (.there s)) omQ omQ ha λv3 h3 H3=>?_;rw[Nat.zero_add,List.nil_append]at H3;exact qj H3
end
theorem Zy {f:Int→AV} (hf:∀x,(f x).one=true):∀l:List Int,qp (l.map f)=true:=by intro l;unfold qp;rw[List.all_map,List.all_eq_true];intro x _;exact hf x
theorem XT {α:Type} {f:α→List AV} (hf:∀x,qp (f x)=true):∀l:List α,qp (l.flatMap f)=true:=by
 intro l
 induction l with
 |nil=>rfl
 |cons x l ih=>rw[List.flatMap_cons];unfold qp at*;rw[List.all_append,hf,ih];rfl
section
variable {n b m:Nat} {v wd:AV} {e:TypeId} {xs:List AV} {R2:List SP}
theorem qw3 (hn:2≤n) (H:HS g h L) (s:Sel L (qw b [v]) R) (s2:Sel L (qy 22 1 m v xs) R2) (ha:qp xs=true) (hm:m≤1000000) :
  t_w n 68 [.ptr b 0] h λr h'=>HS g h' (qy 22 1 m r xs::L):=by
 refine t_e1 rfl omQ λk hk=>?_;unfold S68;try simp only[iZ]
 refine qW (qQ (qX H s rfl ?_));exact qG (qYe omQ H s2 ha hm) λ_ _ H1=>qj H1
end
section
variable {n p hb tb cb sb:Nat} {wv lv sv:AV} {S:zv} {M:jC} {o:OpM}
theorem MemC.I1 {X:SP} (H:HS g h (X::qXf p hb tb cb sb wv lv sv S M R)):HS g h (X::MemC p S M::R):=HS.unsel e_1 (MemC.I (HS.back (A:=qXf p hb tb cb sb wv lv sv S M []) H))
theorem qYM (hn:3≤n) (hw:M.w.length≤1000000) (H:HS g h (MemC p S M::R)) :
  t_w n 32 [.ptr p 0] h λr h'=>HS g h' (qy 22 1 M.w.length r (M.w.map (.int .u64))::MemC p S M::R):=by
 refine t_e1 rfl omQ λk hk=>?_;unfold S32;try simp only[iZ]
 obtain⟨hb,tb,cb,sb,wv,lv,sv,H⟩:=MemC.E H;refine qW (qQ (qX ‹_› .here rfl ?_));exact qG (qw3 omQ H e_1 e_2 (Zy (λ_=>rfl) _) hw) λ_ _ H1=>qj (MemC.I1 H1)
theorem qkT {b:Nat} {x:Int} (hn:1≤n) (H:HS g h L) (s:Sel L (qw b [.int .u64 x]) R):t_w n 97 [.ptr b 0] h λr h'=>r=.int .u64 x∧h'=h:=by
 refine t_e1 rfl omQ λk hk=>?_;unfold S97;try simp only[iZ]
 refine qW (qQ ?_);exact qX H s rfl (qj ⟨rfl,rfl⟩)
theorem qg7 {b:Nat} (hn:1≤n) (H:HS g h (qw b [.int .u64 M.n]::R)):t_w n 110 [.ptr b 0,.int .u64 o.old,.int .u64 o.word] h λr h'=>
  r=.tup [.bool (XV M { o with kind:=7 }).1.done,.int .i64 (XV M { o with kind:=7 }).1.err]∧HS g h' (qw b [.int .u64 (XV M { o with kind:=7 }).2.n]::R):=by
 refine t_e3 rfl omQ λk hk=>?_;unfold S110;try simp only[iZ]
 unfold XV;rw[iQ (show¬(7:Int)=6 by decide)];refine kV (λc1=>?_) (λc1=>?_)
 ·rw[iJ c1];refine qZ<|qj ⟨rfl,H⟩
 rw[iQ c1];refine qJ (yC (λc2=>?_) (λc2=>?_))
 ·rw[iJ (by omega)];refine qZ<|qj ⟨rfl,H⟩
 rw[iQ (by omega)];refine qJ (qW (qQ (qX ‹_› .here rfl ?_)));refine yS (λc3=>?_) (λc3=>?_)
 ·rw[iJ c3];refine qZ<|qj ⟨rfl,H⟩
 ·rw[iQ (λh=>h c3)];refine qJ (qW (qQ (qA H .here ⟨rfl,rfl⟩ osQ λh2 H2=>?_)));exact qj ⟨rfl,H2⟩
def vK (M:jC) (o:OpM):AnM×jC:=if o.kind=1∨o.kind=2 then XI M o else if o.kind=3∨o.kind=4∨o.kind=5 then Qb M o else if o.kind=6∨o.kind=7 then XV M o else if o.kind=8∨o.kind=9 then Q6 M o else(anE 1,M)
theorem kY:jw M o=if(vK M o).1.err=0 then((vK M o).1,{ (vK M o).2 with cnt:=(vK M o).2.cnt+1 })else vK M o:=rfl
theorem qJc:(vK M o).2.cnt=M.cnt:=by
 unfold vK XI Qb XV Q6
 repeat' split
 all_goals rfl
theorem jQs (hn:6≤n) (H:HS g h (MemC p S M::R)) :
  t_w n 64 [.ptr p 0,.agg (yN o)] h λr h'=>r=.agg (xw (vK M o).1)∧HS g h' (MemC p S (vK M o).2::R):=by
 refine t_e2 rfl omQ λk hk=>?_;unfold S64;try simp only[iZ]
 generalize hr:vK M o=r;obtain⟨hb,tb,cb,sb,wv,lv,sv,H⟩:=MemC.E H;refine qP H rfl λb0 h1 H1=>?_;refine qP H1 rfl λb1 h2 H2=>?_;refine qP H2 rfl λb2 h3 H3=>?_;unfold yN at H3;refine qQ (qX H3 e_2 rfl ?_);refine ji [] (λs h'=>s=(.ptr b2 0,.ptr b1 0,())∧HS g h' (qw b2 (xw r.1)::qw b1 (xw an0)::qXf p hb tb cb sb wv lv sv S r.2 R)) ?_ ?_
 rotate_left
 ·rintro s h4 ⟨rfl,H4⟩;refine qF H4 .here rfl omQ rfl<|qf H4 e_1 rfl (by show 0+6≤6;omega) rfl λh5 H5=>?_;refine qk (qF H5 .here rfl omQ rfl ?_);exact qj ⟨rfl,MemC.I (H5.drop.drop)⟩
 intro j hj;by_cases k1:o.kind=1
 ·refine qg k1<|qZ (qW (qQ (qX ‹_› e_3 rfl ?_)));refine qQ (qX ‹_› e_2 rfl ?_);have e:r=(⟨(if 1≤o.at_∧o.at_<M.w.length then qM M.w o.at_ else 0),lk0,false,(if 1≤o.at_∧o.at_<M.w.length then 0 else 2)⟩,M):=by
   rw[← hr];unfold vK XI anE;rw[iJ (.inl k1)];by_cases c:1≤o.at_∧o.at_<M.w.length
   ·rw[iQ omQ,iJ k1,iJ c,iJ c]
   ·rw[iJ omQ,iQ c,iQ c]
  subst e;refine qG (qxR omQ H3 e_4 e_5) ?_;rintro _ _ ⟨rfl,rfl⟩;refine qC rfl<|qC rfl<|qQ (qA H3 .here ⟨rfl,rfl⟩ (by show 0<6;omega) λh4 H4=>?_);refine qQ (qA H4 .here ⟨rfl,rfl⟩ (by show 5<6;omega) λh5 H5=>?_);exact hj _ _ ⟨rfl,H5.pk [0,0] 1⟩
 refine qK k1<|qJ ?_;by_cases k2:o.kind=2
 ·refine qg k2<|qZ (qW (qQ (qX ‹_› e_3 rfl ?_)));refine qQ (qX ‹_› e_2 rfl ?_);refine qQ (qX ‹_› e_2 rfl ?_);have e:r=(⟨0,lk0,false,(if 1≤o.at_∧o.at_<M.w.length then 0 else 2)⟩,{ M with w:=(if 1≤o.at_∧o.at_<M.w.length then M.w.set o.at_.toNat o.word else M.w) }):=by
   rw[← hr];unfold vK XI anE;rw[iJ (.inr k2)];by_cases c:1≤o.at_∧o.at_<M.w.length
   ·rw[iQ omQ,iQ k1,iJ c,iJ c];rfl
   ·rw[iJ omQ,iQ c,iQ c]
  subst e;refine qG (qGp omQ (H3.pk [4,4] 0)) ?_;rintro _ h4 ⟨rfl,H4⟩;refine qQ (qA H4 e_2 ⟨rfl,rfl⟩ (by show 5<6;omega) λh5 H5=>?_);exact hj _ _ ⟨rfl,H5.pk [0,2,3,0,0] 1⟩
 refine qK k2<|qJ ?_;by_cases k3:o.kind=3
 ·refine qg k3<|qZ (qW (qQ (qX ‹_› e_3 rfl ?_)));refine qQ (qX ‹_› e_2 rfl ?_);have e:r=(⟨0,(if 0≤o.at_∧o.at_<M.l.length then zx M.l o.at_ else lk0),false,(if 0≤o.at_∧o.at_<M.l.length then 0 else 2)⟩,M):=by
   rw[← hr];unfold vK Qb anE;rw[iQ omQ,iJ (.inl k3)];by_cases c:0≤o.at_∧o.at_<M.l.length
   ·rw[iQ omQ,iJ k3,iJ c,iJ c]
   ·rw[iJ omQ,iQ c,iQ c]
  subst e;refine qG (qxa omQ H3 e_6 e_7) ?_;rintro _ h4 ⟨rfl,H4⟩;refine qC rfl<|qC rfl<|qQ (qf H4 .here rfl (by show 1+3≤6;omega) rfl λh5 H5=>?_);refine qQ (qA H5 .here ⟨rfl,rfl⟩ (by show 5<6;omega) λh6 H6=>?_);exact hj _ _ ⟨rfl,H6.pk [0,0] 1⟩
 refine qK k3<|qJ ?_;by_cases k4:o.kind=4
 ·refine qg k4<|qZ (qW (qQ (qX ‹_› e_3 rfl ?_)));refine qQ (qX ‹_› e_2 rfl ?_);refine qQ ?_;have e:r=(⟨0,lk0,decide (Qq M.l.length o.at_ o.lk=0∧zx M.l o.at_=o.was),Qq M.l.length o.at_ o.lk⟩,{ M with l:=if Qq M.l.length o.at_ o.lk=0∧zx M.l o.at_=o.was then M.l.set o.at_.toNat o.lk else M.l }):=by
   rw[← hr];unfold vK Qb Qq anE an0;rw[iQ omQ,iJ (.inr (.inl k4))];by_cases c:0≤o.at_∧o.at_<M.l.length
   ·rw[iQ omQ,iQ k3,iJ c];by_cases c2:KK o.lk
    ·rw[iQ (λh=>h c2),iQ omQ,iJ c2];by_cases c3:zx M.l o.at_=o.was
     ·rw[iQ (λh=>h c3),iG ⟨rfl,c3⟩,iJ ⟨rfl,c3⟩]
     ·rw[iJ c3,iV (λh=>c3 h.2),iQ (λh=>c3 h.2)]
    ·rw[iJ c2,iQ c2,iV osQ,iQ osQ]
   ·rw[iJ omQ,iQ c,iV osQ,iQ osQ]
  subst e;refine qF H3 e_2 rfl omQ rfl<|qQ (qF H3 e_2 rfl omQ rfl ?_);refine qG (qwo omQ (H3.pk [6,6] 0)) ?_;rintro _ h4 ⟨rfl,H4⟩;refine qC rfl<|qC rfl<|qQ (qA H4 e_2 ⟨rfl,rfl⟩ (by show 4<6;omega) λh5 H5=>?_);refine qQ (qA H5 .here ⟨rfl,rfl⟩ (by show 5<6;omega) λh6 H6=>?_);exact hj _ _ ⟨rfl,H6.pk [0,2,3,3,3,0,0] 1⟩
 refine qK k4<|qJ ?_;by_cases k5:o.kind=5
 ·refine qg k5<|qZ (qW (qQ (qX ‹_› e_3 rfl ?_)));refine qQ (qX ‹_› e_2 rfl ?_);refine qQ ?_;have e:r=(⟨0,lk0,false,Qq M.l.length o.at_ o.lk⟩,{ M with l:=if Qq M.l.length o.at_ o.lk=0 then M.l.set o.at_.toNat o.lk else M.l }):=by
   rw[← hr];unfold vK Qb Qq anE an0;rw[iQ omQ,iJ (.inr (.inr k5))];by_cases c:0≤o.at_∧o.at_<M.l.length
   ·rw[iQ omQ,iQ k3,iJ c];by_cases c2:KK o.lk
    ·rw[iQ (λh=>h c2),iJ k5,iJ c2,iJ rfl]
    ·rw[iJ c2,iQ c2,iQ od]
   ·rw[iJ omQ,iQ c,iQ od]
  subst e;refine qF H3 e_2 rfl omQ rfl<|qG (qYU omQ (H3.pk [6,6] 0)) ?_;rintro _ h4 ⟨rfl,H4⟩;refine qQ (qA H4 e_2 ⟨rfl,rfl⟩ (by show 5<6;omega) λh5 H5=>?_);exact hj _ _ ⟨rfl,H5.pk [0,2,3,3,3,0,0] 1⟩
 refine qK k5<|qJ ?_;by_cases k6:o.kind=6
 ·refine qg k6<|qZ (qW (qQ (qX ‹_› e_3 rfl ?_)));have e:r=(⟨M.n,lk0,false,0⟩,M):=by
   rw[← hr];unfold vK XV;rw[iQ omQ,iQ omQ,iJ (.inl k6),iJ k6]
  subst e;refine qG (qkT omQ H3 e_8) ?_;rintro _ _ ⟨rfl,rfl⟩;refine qQ (qA H3 .here ⟨rfl,rfl⟩ (by show 0<6;omega) λh4 H4=>?_);exact hj _ _ ⟨rfl,H4.pk [0,0] 1⟩
 refine qK k6<|qJ ?_;by_cases k7:o.kind=7
 ·refine qg k7<|qZ (qW (qQ (qX ‹_› e_3 rfl ?_)));refine qQ (qX ‹_› e_2 rfl ?_);refine qQ (qX ‹_› e_2 rfl ?_);have e:r=(⟨0,lk0,(XV M { o with kind:=7 }).1.done,(XV M { o with kind:=7 }).1.err⟩,{ M with n:=(XV M { o with kind:=7 }).2.n }):=by
   rw[← hr];unfold vK XV anE an0;rw[iQ omQ,iQ omQ,iJ (.inr k7),iQ k6,iQ (show¬(7:Int)=6 by decide)];dsimp only
   repeat' split
   all_goals rfl
  subst e;refine qG (qg7 omQ (H3.pk [8] 0)) ?_;rintro _ h4 ⟨rfl,H4⟩;refine qC rfl<|qC rfl<|qQ (qA H4 e_1 ⟨rfl,rfl⟩ (by show 4<6;omega) λh5 H5=>?_);refine qQ (qA H5 .here ⟨rfl,rfl⟩ (by show 5<6;omega) λh6 H6=>?_);exact hj _ _ ⟨rfl,H6.pk [0,1,2,2,2,2,2,0] 1⟩
 refine qK k7<|qJ ?_;by_cases k8:o.kind=8
 ·refine qg k8<|qZ (qW (qQ (qX ‹_› e_3 rfl ?_)));refine qQ (qX ‹_› e_2 rfl ?_);have e:r=(⟨(if 0≤o.at_∧o.at_<M.s.length then qM M.s o.at_ else 0),lk0,false,(if 0≤o.at_∧o.at_<M.s.length then 0 else 2)⟩,M):=by
   rw[← hr];unfold vK Q6 anE;rw[iQ omQ,iQ omQ,iQ omQ,iJ (.inl k8)];by_cases c:0≤o.at_∧o.at_<M.s.length
   ·rw[iQ omQ,iJ k8,iJ c,iJ c]
   ·rw[iJ omQ,iQ c,iQ c]
  subst e;refine qG (qkC omQ H3 e_9 e_10) ?_;rintro _ _ ⟨rfl,rfl⟩;refine qC rfl<|qC rfl<|qQ (qA H3 .here ⟨rfl,rfl⟩ (by show 0<6;omega) λh4 H4=>?_);refine qQ (qA H4 .here ⟨rfl,rfl⟩ (by show 5<6;omega) λh5 H5=>?_);exact hj _ _ ⟨rfl,H5.pk [0,0] 1⟩
 refine qK k8<|qJ ?_;by_cases k9:o.kind=9
 ·refine qg k9<|qZ (qW (qQ (qX ‹_› e_3 rfl ?_)));refine qQ (qX ‹_› e_2 rfl ?_);refine qQ (qX ‹_› e_2 rfl ?_);have e:r=(⟨0,lk0,false,(if 0≤o.at_∧o.at_<M.s.length then 0 else 2)⟩,{ M with s:=(if 0≤o.at_∧o.at_<M.s.length then M.s.set o.at_.toNat o.word else M.s) }):=by
   rw[← hr];unfold vK Q6 anE;rw[iQ omQ,iQ omQ,iQ omQ,iJ (.inr k9)];by_cases c:0≤o.at_∧o.at_<M.s.length
   ·rw[iQ omQ,iQ k8,iJ c,iJ c];rfl
   ·rw[iJ omQ,iQ c,iQ c]
  subst e;refine qG (qGL omQ (H3.pk [9,9] 0)) ?_;rintro _ h4 ⟨rfl,H4⟩;refine qQ (qA H4 e_2 ⟨rfl,rfl⟩ (by show 5<6;omega) λh5 H5=>?_);exact hj _ _ ⟨rfl,H5.pk [0,2,3,3,3,3,3,3,0,0] 1⟩
 refine qK k9<|qJ (qQ ?_);have e:r=(anE 1,M):=by rw[← hr];unfold vK;rw[iQ omQ,iQ omQ,iQ omQ,iQ omQ]
 subst e;refine qA H3 .here ⟨rfl,rfl⟩ (by show 5<6;omega) λh4 H4=>?_;exact hj _ _ ⟨rfl,H4.pk [0,0] 1⟩
theorem qx6 (hn:7≤n) (hc:0≤M.cnt∧M.cnt<1000000000) (H:HS g h (MemC p S M::R)) :
  t_w n 30 [.ptr p 0,.agg (yN o)] h λr h'=>r=.agg (xw (jw M o).1)∧HS g h' (MemC p S (jw M o).2::R):=by
 refine t_e2 rfl omQ λk hk=>?_;unfold S30;try simp only[iZ]
 refine qP H rfl λb0 h1 H1=>?_;refine qP H1 rfl λb1 h2 H2=>?_;refine qF H2 e_1 rfl omQ rfl<|qG (jQs omQ (H2.sel e_2)) ?_;rintro _ h3 ⟨rfl,H3⟩;have ec:(vK M o).2.cnt=M.cnt:=qJc;rw[kY];generalize vK M o=r at*;obtain⟨r,M'⟩:=r;dsimp only at ec H3 ⊢;refine qP H3 rfl λb2 h4 H4=>?_;refine qf H4 .here rfl (by simp) rfl λh5 H5=>?_;have H6:=H5;unfold xw at H6;refine ji [] (λs h'=>s=(.ptr b2 0,.ptr b1 0,())∧HS g h' (qw b2 (xw r)::qw b1 (xw an0)::MemC p S (if r.err=0 then(r,{ M' with cnt:=M'.cnt+1 })else(r,M')).2::R)) ?_ ?_
 rotate_left
 ·rintro s h4 ⟨rfl,H4⟩;refine qF H4 .here rfl omQ rfl<|qf H4 e_1 rfl (by show 0+6≤6;omega) rfl λh5 H5=>?_;refine qk (qF H5 .here rfl omQ rfl ?_);refine qj ⟨by split<;>rfl,?_⟩;exact H5.drop.drop
 intro j hj;refine qQ (qX ‹_› .here rfl ?_);by_cases c:r.err=0
 ·refine qg c ?_;rw[iJ c]at hj ⊢;refine qZ (qW (qQ ?_));obtain⟨hb,tb,cb,sb,wv,lv,sv,H7⟩:=MemC.E (H5.sel e_1);refine qX ‹_› .here rfl<|qc omQ<|qW (qQ (qA H7 .here ⟨rfl,rfl⟩ (by simp) λh8 H8=>?_));have H9:HS g h8 (MemC p S { M' with cnt:=M'.cnt+1 }::_):=MemC.I (tb:=tb) (cb:=cb) (sb:=sb) (wv:=wv) (sv:=sv) H8;exact hj _ _ ⟨rfl,H9.pk [1,1,0] 1⟩
 ·refine qK c ?_;rw[iQ c]at hj ⊢;refine qJ<|hj _ _ ⟨rfl,H5.pk [0,1,0] 1⟩
end
end
section
variable {g h:AH} {L R:List SP}
theorem qzI:∀{a b:List Int},a.Pairwise (· < ·)→b.Pairwise (· < ·)→(∀x,x∈a↔x∈b)→a=b:=by
 intro a
 induction a with
 |nil=>
  intro b _ _ h;cases b with
  |nil=>rfl
  |cons y b=>have:=(h y).2 (iK ..);cases this
 |cons x a ih=>
  intro b ha hb h;cases b with
  |nil=>have:=(h x).1 (iK ..);cases this
  |cons y b=>
   have ha':=List.pairwise_cons.1 ha;have hb':=List.pairwise_cons.1 hb;have e:x=y:=by
    rcases List.mem_cons.1 ((h x).1 (iK ..))with e |e
    ·exact e
    ·rcases List.mem_cons.1 ((h y).2 (iK ..))with e2 |e2
     ·exact e2.symm
     ·have h1:=hb'.1 x e;have h2:=ha'.1 y e2;omega
   subst e
   congr 1
   refine ih ha'.2 hb'.2 λz=>⟨λhz=>?_,λhz=>?_⟩
   ·rcases List.mem_cons.1 ((h z).1 (iX _ hz))with e |e
    ·have:=ha'.1 z hz;omega
    ·exact e
   ·rcases List.mem_cons.1 ((h z).2 (iX _ hz))with e |e
    ·have:=hb'.1 z hz;omega
    ·exact e
theorem qV2 {d:Array Int} (hs:∀i j,i≤j→j<d.size→d[i]! ≤d[j]!):∀m,m≤d.size→(Lib.compactUpTo d m).Pairwise (· < ·)∧∀x,x∈Lib.compactUpTo d m↔∃j,j<m∧d[j]! =x:=by
 intro m
 induction m with
 |zero=>intro _;exact⟨List.Pairwise.nil,λx=>⟨(nofun),λ⟨j,h,_⟩=>by omega⟩⟩
 |succ m ih=>
  intro hm;obtain⟨p,q⟩:=ih omQ;rw[Lib.compactUpTo_succ];by_cases hk:Lib.keeps d m=true
  ·rw[iJ hk];refine⟨?_,λx=>?_⟩
   ·rw[List.pairwise_append];refine⟨p,List.pairwise_singleton ..,λa ha b hb=>?_⟩;rw[List.mem_singleton]at hb;subst hb;obtain⟨j,hj,rfl⟩:=(q a).1 ha;have h1:=hs j (m-1) omQ omQ;have h2:=hs (m-1) m omQ omQ;have h3:d[m]! ≠d[m-1]!:=by
     intro e;rw[Lib.keeps_neg omQ e]at hk;cases hk
    omega
   ·rw[List.mem_append,q x,List.mem_singleton];refine⟨λh=>?_,λ⟨j,hj,e⟩=>?_⟩
    ·rcases h with⟨j,hj,e⟩ |e
     ·exact⟨j,by omega,e⟩
     ·exact⟨m,by omega,e.symm⟩
    ·by_cases hjm:j=m
     ·subst hjm;exact .inr e.symm
     ·exact .inl ⟨j,by omega,e⟩
  ·rw[iQ hk,List.append_nil];refine⟨p,λx=>?_⟩;rw[q x];refine⟨λ⟨j,hj,e⟩=>⟨j,by omega,e⟩,λ⟨j,hj,e⟩=>?_⟩;by_cases hjm:j=m
   ·subst hjm;have h0:0<j:=by
     rcases Nat.eq_zero_or_pos j with h |h
     ·subst h;exact absurd (Lib.keeps_lt_one d 0 omQ) hk
     ·exact h
    refine⟨j-1,by omega,?_⟩;refine Decidable.byContradiction λhne=>hk (Lib.keeps_pos λh=>hne ?_);rw[← h,e]
   ·exact⟨j,by omega,e⟩
theorem qwI {zs:List Int} (h:zs.Pairwise (· ≤ ·)):(Lib.compact zs).Pairwise (· < ·)∧∀x,x∈Lib.compact zs↔x∈zs:=by
 have hg:∀i:Nat,i<zs.length→zs.toArray[i]! =zs[i]!:=λi hi=>by simp
 obtain⟨p,q⟩:=qV2 (d:=zs.toArray) (λi j hij hj=>by
  have hj:j<zs.length:=by simpa using hj
  rw[hg i omQ,hg j hj,getElem!_pos zs i omQ,getElem!_pos zs j hj];by_cases e:i=j
  ·subst e;exact Int.le_refl _
  ·exact List.pairwise_iff_getElem.1 h i j omQ hj omQ) zs.length osQ
 refine⟨p,λx=>?_⟩;refine(q x).trans ⟨λ⟨j,hj,e⟩=>?_,λhx=>?_⟩
 ·rw[hg j hj,getElem!_pos zs j hj]at e;rw[← e];exact List.getElem_mem hj
 ·obtain⟨j,hj,e⟩:=List.mem_iff_getElem.1 hx;exact⟨j,hj,by rw[hg j hj,getElem!_pos zs j hj];exact e⟩
theorem qJT {p n w:Int} (h:0≤p):0≤ofM p n w∧ofM p n w<16:=by unfold ofM;rw[iQ omQ];have h1:=Int.emod_nonneg (p/max 1 (min w 16)) (show max 1 (min n 16)≠0 by omega);have h2:=Int.emod_lt_of_pos (p/max 1 (min w 16)) (show 0<max 1 (min n 16) by omega);omega
theorem Ja {cs:List Cl} {n w:Int}:(xS cs n w).Pairwise (· < ·):=by unfold xS;refine List.Pairwise.filter _ ?_;rw[List.pairwise_map];exact List.pairwise_lt_range.imp λh=>by omega
theorem Xn {cs:List Cl} {n w:Int} (h:∀c∈cs,0≤c.1) {x:Int}:x∈xS cs n w↔x∈cs.map λc=>ofM c.1 n w:=by unfold xS;rw[List.mem_filter,List.any_eq_true,List.mem_map,List.mem_map];refine⟨λ⟨_,c,hc,e⟩=>⟨c,hc,by simpa using e⟩,λ⟨c,hc,e⟩=>⟨?_,c,hc,by simpa using e⟩⟩;have:=qJT (n:=n) (w:=w) (h c hc);exact⟨x.toNat,List.mem_range.2 omQ,by omega⟩
theorem qZr {cs:List Cl} {n w:Int} (h:∀c∈cs,0≤c.1):Lib.compact (QE (cs.map λc=>ofM c.1 n w))=xS cs n w:=by obtain⟨p,q⟩:=qwI (Yf (cs.map λc=>ofM c.1 n w));exact qzI p Ja λx=>by rw[q,(Xy _).mem_iff,Xn h]
section
variable {n m:Nat} {v:AV} {zs:List Int}
theorem qx9 {e:TypeId} (hn:1≤n) (H:HS g h (qy e 1 m v (zs.map (.int .i64))::R)) (h0:0<m) (hm:m≤1000000) :
  t_w n 288 [v] h λ_ h'=>HS g h' (qy e 1 m v ((QE zs).map (.int .i64))::R):=by
 have hl:zs.length=m:=by have:=H.sl_len .here;simpa using this
 obtain⟨b,cp,o,ys,rfl,HC,q1,q2,q3⟩:=H.slE h0;rw[Nat.mul_one]at q1 q2;refine qB rfl omQ λk hk=>?_;show wp (qJU _ [.slice b 0 m cp o] h) _;obtain⟨D,⟨hD,A⟩,hb2,kk⟩:=HC.act;obtain⟨c,c1,c2,c3⟩:=A.blk;unfold qJU;simp only[c1,c2];rw[q2,Ol];simp only[];rw[show Nat.beq zs.length m=true from by rw[hl];exact Nat.beq_refl _,iY hm];simp;refine⟨_,_,rfl,?_⟩;have HC':=kk _ (Cell b ((QE zs).map (.int .i64)++ys.drop m) e o) D ⟨by simp,λa ha hn=>AH.get_put_ne h _ λe=>hn ((hD a).2 e.symm)⟩ ⟨hD,by simpa using A.lt,CT.ofList _,AH.get_put_same ..,CT.ofList_ok _,CT.full_ofList _⟩ λa ha=>⟨.inl ha,by have:=(hb2 a ha).2;simpa using this⟩;have hlen:((QE zs).map (AV.int .i64)).length=m:=by rw[List.length_map,MF,hl]
 have:=HS.slI (n:=m) (sz:=1) (cp:=cp) HC' (by rw[List.length_append,hlen];omega) (by
  rw[List.length_append,hlen,List.length_drop,show m+(ys.length-m)=ys.length by omega];exact q3)
 rw[Nat.mul_one,List.take_append_of_le_length omQ,List.take_of_length_le omQ]at this;exact this
theorem qzn (hn:1≤n) (H:HS g h (qy 3 1 m v (zs.map (.int .i64))::R)) (h0:0<m) (hm:m≤1000000) :
  t_w n 289 [v] h λr h'=>HS g h' (qy 3 1 (Lib.compact zs).length r ((Lib.compact zs).map (.int .i64))::R):=by
 have hl:zs.length=m:=by have:=H.sl_len .here;simpa using this
 obtain⟨b,cp,o,ys,rfl,HC,q1,q2,q3⟩:=H.slE h0;rw[Nat.mul_one]at q1 q2;refine qB rfl omQ λk hk=>?_;show wp (Zu 3 _ [.slice b 0 m cp o] h) _;obtain⟨D,⟨hD,A⟩,hb2,kk⟩:=HC.act;obtain⟨c,c1,c2,c3⟩:=A.blk;have hle:=qKo zs;unfold Zu;simp only[c1,c2];rw[q2,Ol];simp only[];have hc:(Nat.beq zs.length m&&(Nat.ble m 1000000&&(bif o then Nat.beq cp 0&&(o&&Nat.beq 3 3)else Nat.ble m cp)))=true:=by
  rw[show Nat.beq zs.length m=true from by rw[hl];exact Nat.beq_refl _,iY hm];cases o with
  |true=>rw[iJ rfl]at q3;subst q3;rfl
  |false=>rw[iQ osQ]at q3;simp only[Bool.true_and,cond_false];exact iY q3.2
 rw[hc];simp only[cond_true];refine⟨_,_,rfl,?_⟩;have HC':=kk _ (Cell b ((Lib.compact zs++List.replicate (zs.length-(Lib.compact zs).length) 0).map (.int .i64)++ys.drop m) 3 o) D ⟨by simp,λa ha hn=>AH.get_put_ne h _ λe=>hn ((hD a).2 e.symm)⟩ ⟨hD,by simpa using A.lt,CT.ofList _,AH.get_put_same ..,CT.ofList_ok _,CT.full_ofList _⟩ λa ha=>⟨.inl ha,by have:=(hb2 a ha).2;simpa using this⟩;have hlen:((Lib.compact zs++List.replicate (zs.length-(Lib.compact zs).length) 0).map (AV.int .i64)).length=m:=by simp;omega
 have:=HS.slI (n:=(Lib.compact zs).length) (sz:=1) (cp:=cp) HC' (by rw[List.length_append,hlen];omega) (by
  rw[List.length_append,hlen,List.length_drop,show m+(ys.length-m)=ys.length by omega];cases o with
  |true=>exact q3
  |false=>rw[iQ osQ]at q3 ⊢;exact⟨q3.1,by omega⟩)
 have tk:((Lib.compact zs++List.replicate (zs.length-(Lib.compact zs).length) 0).map (AV.int .i64)++ys.drop m).take (Lib.compact zs).length=(Lib.compact zs).map (AV.int .i64):=by rw[List.take_append_of_le_length omQ,List.map_append,List.take_append_of_le_length osQ,List.take_of_length_le osQ]
 rw[Nat.mul_one,tk]at this;exact this
theorem qkA:∀{l:List Int},l.Pairwise (· ≤ ·)→Vc l=true:=by
 intro l
 induction l with
 |nil=>intro _;rfl
 |cons x r ih=>
  intro h;cases r with
  |nil=>rfl
  |cons y r=>have h1:=List.pairwise_cons.1 h;unfold Vc;rw[ih h1.2,iG (h1.1 y (iK ..))];rfl
theorem qkb {e:TypeId} {x:Int} (hn:1≤n) (H:HS g h L) (s:Sel L (qy e 1 m v (zs.map (.int .i64))) R) (h0:0<m) (hm:m≤1000000) (hs:zs.Pairwise (· ≤ ·)) :
  t_w n 397 [v,.int .i64 x] h λr h'=>r=.tup [.int .i64 (zs.countP (· <x):Nat),.bool (zs.contains x)]∧h'=h:=by
 have hl:zs.length=m:=by have:=H.sl_len s;simpa using this
 obtain⟨b,cp,o,ys,rfl,HC,q1,q2,q3⟩:=(H.sel s).slE h0;rw[Nat.mul_one]at q1 q2;refine qB rfl omQ λk hk=>?_;show wp (Zs _ [.slice b 0 m cp o,.int .i64 x] h) _;obtain⟨D,⟨hD,A⟩,hb2,kk⟩:=HC.act;obtain⟨c,c1,c2,c3⟩:=A.blk;unfold Zs;simp only[c1,c2];rw[q2,Ol];simp only[];rw[show Nat.beq zs.length m=true from by rw[hl];exact Nat.beq_refl _,iY hm,qkA hs];exact⟨_,_,rfl,rfl,rfl⟩
end
theorem Ue {n:Nat} {a b:Int} (hn:1≤n):t_w n 104 [.int .i64 a,.int .i64 b] h λr h'=>r=.int .i64 (max 1 (min a b))∧h'=h:=by
 refine t_e2 rfl omQ λk hk=>?_;unfold S104;try simp only[iZ]
 refine ju (zD ?_);exact qj ⟨rfl,rfl⟩
theorem qqR {n:Nat} {p a w:Int} (hn:2≤n) (hp:p<4611686018427387904):t_w n 223 [.int .i64 p,.int .i64 a,.int .i64 w] h λr h'=>r=.int .i64 (ofM p a w)∧h'=h:=by
 refine t_e3 rfl omQ λk hk=>?_;unfold S223;try simp only[iZ]
 unfold ofM;by_cases c:p<0
 ·refine jT c ?_;rw[iJ c];refine qZ<|qj ⟨rfl,rfl⟩
 ·refine jD c ?_;rw[iQ c];refine qJ (qG (Ue omQ) ?_);rintro _ _ ⟨rfl,rfl⟩;refine jQ3 omQ ?_;have h1:p.tdiv (max 1 (min w ((16:Nat):Int)))=p/max 1 (min w 16):=Int.tdiv_eq_ediv_of_nonneg omQ;have h2:0≤p/max 1 (min w 16):=Int.ediv_nonneg omQ omQ;have h3:p/max 1 (min w 16)≤p:=Int.ediv_le_self _ omQ;rw[h1,qQ1 omQ];refine qG (Ue omQ) ?_;rintro _ _ ⟨rfl,rfl⟩;refine JT omQ ?_;rw[Int.tmod_eq_emod_of_nonneg h2];exact qj ⟨rfl,rfl⟩
theorem qKR {n:Nat} {cv:AV} {cs:List Cl} {a w:Int} (hn:4≤n) (H:HS g h R) (S:Rd g R 2 cs.length cv (cs.flatMap jP)) (h0:0<cs.length) (hl:cs.length≤1000) (hc:∀c∈cs,0≤c.1∧c.1<100000) :
  t_w n 226 [cv,.int .i64 a,.int .i64 w] h λr h'=>HS g h' (qy 3 1 (xS cs a w).length r ((xS cs a w).map (.int .i64))::R):=by
 refine t_e3 rfl omQ λk hk=>?_;unfold S226;try simp only[iZ]
 have hLV:=(S.sl H).lenV;refine yU ‹_›<|jM (λm s h'=>∃(i:Nat) (v:AV),s=(.int .i64 (i:Int),.int .i64 (cs.length:Int),cv,v,.int .i64 w,.int .i64 a,())∧i≤cs.length∧m=cs.length-i∧
  HS g h' (qy 3 1 i v (((cs.take i).map λc=>ofM c.1 a w).map (.int .i64))::R))
  ?_ (m:=cs.length) omQ ⟨0,.nils,rfl,by omega,by omega,H.nils⟩
 rintro m ih s h2 hih ⟨i,v,rfl,hi,rfl,H⟩;by_cases hlt:i<cs.length
 ·refine jT omQ (qZ ?_);have hci:=hc _ (List.getElem_mem hlt);have hr:=qJT (n:=a) (w:=w) hci.1;refine qV ?_
  try dsimp only
  refine zd (S.sl H.drop) hlt omQ (vI (sz:=2) (λ_=>rfl) (iW hlt))<|qP H rfl λb h3 H3=>?_;refine qf H3 .here rfl (by simp) rfl λh4 H4=>?_;have H4:HS g h4 (qw b [.int .i64 cs[i].1,.int .u64 cs[i].2]::qy 3 1 i v (((cs.take i).map λc=>ofM c.1 a w).map (.int .i64))::R):=H4;refine qQ (qX ‹_› .here rfl ?_);refine qG (qqR omQ omQ) ?_;rintro _ _ ⟨rfl,rfl⟩;refine zc omQ (qZ ?_);refine qh H4 rfl rfl rfl rfl λv2 h5 H5=>?_;refine jf (H5.sel e_2) (H5.sl .here) omQ omQ rfl λv3 h6 H6=>?_;refine qc omQ<|hih (cs.length-(i+1)) _ _ omQ ⟨i+1,v3,rfl,by omega,rfl,?_⟩;have e:(cs.take (i+1)).map (λc=>ofM c.1 a w)=(cs.take i).map (λc=>ofM c.1 a w)++[ofM cs[i].1 a w]:=by rw[List.take_add_one,iW hlt,List.map_append];rfl
  rw[e,List.map_append];exact H6.pk [0] 2
 ·obtain rfl:i=cs.length:=by omega
  refine jD omQ (qJ ?_);rw[List.take_of_length_le (Nat.le_refl _)]at H;refine qG (qx9 omQ H h0 omQ) λ_ h3 H3=>?_;refine qG (qzn omQ H3 h0 omQ) λr h4 H4=>?_;rw[qZr λc hc'=>(hc c hc').1]at H4;refine qk<|qj H4
end
section
variable {g h:AH} {L R:List SP}
theorem Zf {l:List xP} {k:Nat} (hk:k<l.length):((l.flatMap vw).drop (k*2)).take 2=vw (z6 l (k:Int)):=vI (enc:=vw) (λ_=>rfl) (by unfold z6;rw[Int.toNat_natCast,iW hk];rfl)
theorem JK {l:List xP} {k:Nat} (hk:k<l.length):(l.flatMap vw)[k*2+0]? =some (.int .i64 (z6 l (k:Int)).1)∧(l.flatMap vw)[k*2+1]? =some (.int .u64 (z6 l (k:Int)).2):=by
 have e:=Zf hk;have hl:(l.flatMap vw).length=l.length*2:=XG vw (λ_=>rfl) (l:=l);constructor
 ·have:=congrArg (·[0]?) e;simp only[List.getElem?_take_of_lt (show 0<2 by omega),List.getElem?_drop]at this;exact this
 ·have:=congrArg (·[1]?) e;simp only[List.getElem?_take_of_lt (show 1<2 by omega),List.getElem?_drop]at this;exact this
def RdsC (b:Nat) (r:List xP):SP:=.ex λsv=>.all [qw b [.int .i64 16,sv],qy 140 2 r.length sv (r.flatMap vw)]
section
variable {n b:Nat} {r:List xP} {x:xP}
theorem RdsC.E (H:HS g h (RdsC b r::R)):∃sv,HS g h (qw b [.int .i64 16,sv]::qy 140 2 r.length sv (r.flatMap vw)::R):=by obtain⟨sv,H⟩:=H.exE;exact⟨sv,H.allE⟩
theorem RdsC.I {sv:AV} (H:HS g h (qw b [.int .i64 16,sv]::qy 140 2 r.length sv (r.flatMap vw)::R)):HS g h (RdsC b r::R):=HS.exI sv H.allI
theorem qge (hn:1≤n) (H:HS g h R):t_w n 221 [.int .i64 ((16:Nat):Int)] h λv h'=>∃b,v=.ptr b 0∧HS g h' (RdsC b []::R):=by
 refine t_e1 rfl omQ λk hk=>?_;unfold S221;try simp only[iZ]
 refine ju (zD (qL rfl ?_));refine qP H rfl λb h1 H1=>qj ⟨b,rfl,RdsC.I (sv:=.nils) ?_⟩;have:=(H1.nils (e:=140) (sz:=2));exact this.pk [1,0] 0
theorem qg6 {r:List xP} {i:Nat} {st:Int} {y:xP} (hb:∀z∈r.take i,z.1≠st) (hi:r[i]? =some y) (hy:y.1=st):r.find? (λz=>decide (z.1=st))=some y:=by
 obtain⟨hlt,e⟩:=List.getElem?_eq_some_iff.1 hi;have h1:(r.take i).find? (λz=>decide (z.1=st))=none:=List.find?_eq_none.2 λz hz=>by simpa using hb z hz
 have h2:r=r.take i++y::r.drop (i+1):=by rw[← e,← List.drop_eq_getElem_cons hlt,List.take_append_drop]
 rw[h2,List.find?_append,h1,List.find?_cons,iG hy];rfl
theorem qgS {st:Int} (hn:1≤n) (hr:r.length≤1000) (H:HS g h (RdsC b r::R)) :
  t_w n 327 [.ptr b 0,.int .i64 st] h λv h'=>v=.tup [.int .u64 ((r.find? λz=>decide (z.1=st)).getD (0,0)).2,.bool (r.find? λz=>decide (z.1=st)).isSome]∧HS g h' (RdsC b r::R):=by
 refine t_e2 rfl omQ λk hk=>?_;unfold S327;try simp only[iZ]
 obtain⟨sv,H⟩:=RdsC.E H;refine qW (qQ (qX ‹_› .here rfl ?_));refine qm ‹_› e_1<|jM (λm s h'=>∃i:Nat,s=(.int .i64 (i:Int),.int .i64 (r.length:Int),sv,.int .i64 st,())∧i≤r.length∧m=r.length-i∧(∀z∈r.take i,z.1≠st)∧HS g h' (qw b [.int .i64 16,sv]::qy 140 2 r.length sv (r.flatMap vw)::R))
  ?_ (m:=r.length) omQ ⟨0,rfl,by omega,by omega,by simp,H⟩
 rintro m ih s h2 hih ⟨i,rfl,hi,rfl,hb,H⟩;by_cases hlt:i<r.length
 ·refine jT omQ (qZ ?_);refine zd (H.sl e_1) hlt omQ (Zf hlt)<|qP H rfl λc h3 H3=>?_;refine qf H3 .here rfl (by simp) rfl λh4 H4=>?_;have hg:r[i]? =some (z6 r i):=by unfold z6;rw[Int.toNat_natCast,iW hlt];rfl
  refine qQ (qX ‹_› .here rfl ?_);by_cases hy:(z6 r i).1=st
  ·refine qg hy<|qZ (qQ (qX ‹_› .here rfl ?_));refine qk ?_;rw[qg6 hb hg hy];exact qj ⟨rfl,RdsC.I H4.drop⟩
  ·refine qK hy<|qJ (qc omQ ?_);refine hih (r.length-(i+1)) _ _ omQ ⟨i+1,rfl,by omega,rfl,?_,H4.drop⟩;intro z hz;rw[List.take_add_one,hg]at hz;rcases List.mem_append.1 hz with hz |hz
   ·exact hb z hz
   ·simp only[Option.toList_some,List.mem_singleton]at hz;subst hz;exact hy
 ·obtain rfl:i=r.length:=by omega
  refine jD omQ (qJ ?_);rw[List.take_of_length_le (Nat.le_refl _)]at hb;rw[List.find?_eq_none.2 λz hz=>by simpa using hb z hz];refine qk<|qj ⟨rfl,RdsC.I H⟩
theorem qgu (hn:2≤n) (hr:r.length≤16) (H:HS g h (RdsC b r::R)) :
  t_w n 291 [.ptr b 0,.agg (vw x)] h λv h'=>v=.int .i64 (kE r x).1∧HS g h' (RdsC b (kE r x).2::R):=by
 refine t_e2 rfl omQ λk hk=>?_;unfold S291;try simp only[iZ]
 generalize hA:kE r x=A;refine qP H rfl λb0 h1 H1=>?_;unfold kE at hA;refine qQ (qX ‹_› .here rfl ?_);by_cases c1:x.1<0
 ·refine jT c1<|qV<|qs<|qD (qV ?_);refine qs<|qD (qZ ?_)
  rw[iJ (.inl c1)]at hA;subst hA;exact qj ⟨rfl,H1.drop⟩
 refine jD c1<|qV<|qe<|qQ (qX ‹_› .here rfl ?_)
 by_cases c2:16≤x.1
 ·refine zc omQ<|qE (qV ?_);refine qs<|qD (qZ ?_)
  rw[iJ (.inr (.inl c2))]at hA;subst hA;exact qj ⟨rfl,H1.drop⟩
 refine zF omQ<|qE (qV ?_);refine qe<|qQ (qX ‹_› .here rfl ?_)
 by_cases c3:4611686018427387904≤x.2
 ·refine zc omQ<|qE (qZ ?_);rw[iJ (.inr (.inr c3))]at hA;subst hA;exact qj ⟨rfl,H1.drop⟩
 refine zF omQ<|qE (qJ (qQ (qX ‹_› .here rfl ?_)));rw[iQ omQ]at hA;refine qG (qgS omQ omQ (H1.sel e_1)) ?_;rintro _ h2 ⟨rfl,H2⟩;have H3:=H2.sel e_1;refine qC rfl<|qC rfl ?_;cases hf:r.find? λz=>decide (z.1=x.1)with
 |some y=>
  rw[hf]at hA;dsimp only at hA;refine qZ (qQ (qX ‹_› .here rfl ?_));by_cases c4:y.2=x.2
  ·refine q9 c4 ?_;rw[iQ (λh=>h c4)]at hA;subst hA;refine qJ<|qj ⟨rfl,H3.drop⟩
  ·refine jX c4 ?_;rw[iJ c4]at hA;subst hA;refine qZ<|qj ⟨rfl,H3.drop⟩
 |none=>
  rw[hf]at hA;dsimp only at hA;refine qJ ?_;obtain⟨sv,H4⟩:=RdsC.E H2;refine qW (qQ (qX ‹_› .here rfl ?_));refine qm ‹_› e_1<|qW (qQ (qX ‹_› .here rfl ?_));by_cases c4:r.length=16
  ·refine qg omQ ?_;rw[iJ c4]at hA;subst hA;refine qZ<|qj ⟨rfl,H3.drop⟩
  ·refine qK omQ ?_;rw[iQ c4]at hA;subst hA;refine qJ (qW (qQ (qX ‹_› .here rfl ?_)));refine qF H4 e_2 rfl omQ rfl<|qh H4 rfl rfl rfl rfl λv2 h5 H5=>?_;refine jf (H5.sel e_2) (H5.sl .here) omQ omQ rfl λv3 h6 H6=>?_;have o6:=H6.one .here;refine qW (qQ (qA H6 e_2 o6 osQ λh7 H7=>?_));refine qj ⟨rfl,RdsC.I (sv:=v3) ?_⟩;rw[List.length_append,List.flatMap_append];exact H7.pk [0,0] 2
theorem ZI (hn:2≤n) (hr:r.length≤1000) (H:HS g h (RdsC b r::R)):t_w n 129 [.ptr b 0] h λv h'=>HS g h' (qy 140 2 r.length v (r.flatMap vw)::RdsC b r::R):=by
 refine t_e1 rfl omQ λk hk=>?_;unfold S129;try simp only[iZ]
 obtain⟨sv,H⟩:=RdsC.E H;refine qW (qQ (qX ‹_› .here rfl ?_));refine qG (Gy omQ H e_1 (XT (λ_=>rfl) _) omQ) λv h1 H1=>qj<|HS.unsel e_1 (RdsC.I (sv:=sv) (H1.pk [1,1,0] 0))
end
def Vg (x:Q5) (sv:AV):List AV:=yH x.p [sv,.bool x.loaded,.int .i64 x.at_,.int .u64 x.stamp]
def ExtC (b:Nat) (x:Q5):SP:=.ex λsv=>.all [qw b (Vg x sv),qy 140 2 x.seen.length sv (x.seen.flatMap vw)]
structure Ul (x:Q5):Prop where
  p:UG x.p
  lo:0≤x.at_
  hi:x.at_≤1000
  len:x.seen.length≤16
  le:x.at_≤x.seen.length
  in_:x.p.fin=0→x.loaded=true→x.at_<x.seen.length
section
variable {n b:Nat} {x:Q5}
theorem ExtC.E (H:HS g h (ExtC b x::R)):∃sv,HS g h (qw b (Vg x sv)::qy 140 2 x.seen.length sv (x.seen.flatMap vw)::R):=by obtain⟨sv,H⟩:=H.exE;exact⟨sv,H.allE⟩
theorem ExtC.I {sv:AV} (H:HS g h (qw b (Vg x sv)::qy 140 2 x.seen.length sv (x.seen.flatMap vw)::R)):HS g h (ExtC b x::R):=HS.exI sv H.allI
theorem qk8 {me sp:Int} {v:AV} {r:List xP} (hn:2≤n) (hr:r.length≤1000) (H:HS g h (qy 140 2 r.length v (r.flatMap vw)::R)) :
  t_w n 224 [.int .i64 me,.int .i64 sp,v] h λv h'=>∃b,v=.ptr b 0∧HS g h' (ExtC b (Vu me sp r)::R):=by
 refine t_e3 rfl omQ λk hk=>?_;unfold S224;try simp only[iZ]
 refine qG (ZG omQ H) ?_;rintro _ h1 ⟨rfl,H1⟩;refine qG (Gy omQ H1 .here (XT (λ_=>rfl) _) omQ) λv h2 H2=>?_;unfold yH;have o2:=H2.one .here;refine qL (by simp only[yM,o2.1];rfl)<|qP H2 (by simp only[qp,List.all_cons,o2.2];rfl) λb h3 H3=>qj ⟨b,rfl,?_⟩;exact ExtC.I (sv:=v) (H3.pk [0,0] 1)
theorem qVA (hn:2≤n) {sv:AV} (H:HS g h L) (s:Sel L (qw b (Vg x sv)) R):t_w n 294 [.ptr b 0] h λr h'=>r=.int .i64 x.p.fin∧h'=h:=by
 refine t_e1 rfl omQ λk hk=>?_;unfold S294;try simp only[iZ]
 refine qW (qQ (qG (X9 omQ H s) ?_));rintro _ _ ⟨rfl,rfl⟩;exact qj ⟨rfl,rfl⟩
theorem jQb (hn:2≤n) {sv:AV} (H:HS g h L) (s:Sel L (qw b (Vg x sv)) R):t_w n 381 [.ptr b 0] h λr h'=>r=.int .i64 x.p.by_∧h'=h:=by
 refine t_e1 rfl omQ λk hk=>?_;unfold S381;try simp only[iZ]
 refine qW (qQ (qG (qKC omQ H s) ?_));rintro _ _ ⟨rfl,rfl⟩;exact qj ⟨rfl,rfl⟩
theorem Mn (hn:3≤n) {sv:AV} (H:HS g h L) (s:Sel L (qw b (Vg x sv)) R):t_w n 229 [.ptr b 0] h λr h'=>r=.int .u64 (wZ x)∧h'=h:=by
 refine t_e1 rfl omQ λk hk=>?_;unfold S229;try simp only[iZ]
 refine qG (qVA omQ H s) ?_;rintro _ _ ⟨rfl,rfl⟩;unfold wZ;by_cases c:x.p.fin=2
 ·refine q9 c ?_;rw[iQ (λh=>h c)];refine qJ (qW (qQ ?_));exact qX H s rfl (qj ⟨rfl,rfl⟩)
 ·refine jX c ?_;rw[iJ c];refine qZ<|qj ⟨rfl,rfl⟩
theorem qqe (hn:2≤n) (O:Ul x) (H:HS g h (ExtC b x::R)):t_w n 382 [.ptr b 0] h λr h'=>r=opV (Jn x)∧HS g h' (ExtC b x::R):=by
 refine t_e1 rfl omQ λk hk=>?_;unfold S382;try simp only[iZ]
 obtain⟨sv,H⟩:=ExtC.E H;refine qP H rfl λb0 h1 H1=>?_;refine qW (qQ (qG (X9 omQ H1 e_1) ?_));rintro _ _ ⟨rfl,rfl⟩;unfold Jn;have H2:=H1;unfold Vg yH at H2;by_cases c:x.p.fin=0
 ·refine q9 c ?_;rw[iQ (λh=>h c)];refine qJ (qW (qQ (qX ‹_› e_1 rfl ?_)));cases hl:x.loaded with
  |false=>rw[iJ rfl];refine jA (qZ (qL rfl ?_));refine qf H1 .here rfl (by simp) rfl λh3 H3=>?_;refine qF H3 .here rfl omQ rfl<|qj ⟨rfl,ExtC.I H3.drop⟩
  |true=>rw[iQ osQ];refine jk (qJ (qW (qQ (qX ‹_› e_1 rfl ?_))));refine qW (qQ (qX ‹_› e_1 rfl ?_));have hin:=O.in_ c hl;have hlo:=O.lo;obtain⟨k,hk⟩:∃k:Nat,x.at_=k:=⟨x.at_.toNat,by omega⟩;rw[hk]at hin ⊢;refine yn (H1.sl e_2) omQ omQ (JK omQ).1<|qL rfl<|qf H1 .here rfl (by simp) rfl λh3 H3=>?_;refine qF H3 .here rfl omQ rfl<|qj ⟨rfl,ExtC.I H3.drop⟩
 ·refine jX c ?_;rw[iJ c];refine qZ (qL rfl ?_);refine qf H1 .here rfl (by simp) rfl λh3 H3=>?_;refine qF H3 .here rfl omQ rfl<|qj ⟨rfl,ExtC.I H3.drop⟩
theorem Xi {p:Jf} {a:AnM} (hs:(jK p a).1=false):(jK p a).2=p∧p.fin=0:=by
 unfold jK at hs ⊢
 split at hs
 ·cases hs
 ·rename_i c;rw[iQ c];exact⟨rfl,by simpa using hs⟩
theorem qjU {a:AnM} (hn:3≤n) (O:Ul x) (H:HS g h (ExtC b x::R)):t_w n 383 [.ptr b 0,.agg (xw a)] h λ_ h'=>HS g h' (ExtC b (yq x a)::R):=by
 refine t_e2 rfl omQ λk hk=>?_;unfold S383;try simp only[iZ]
 generalize hF:yq x a=F;obtain⟨sv,H⟩:=ExtC.E H;refine qP H rfl λb0 h1 H1=>?_;refine ji [] (λs h'=>s=(.ptr b 0,())∧∃y,F=J4 y∧y.seen.length≤16∧HS g h' (ExtC b y::R)) (λj hj=>?_) ?_
 rotate_left
 ·rintro s h2 ⟨rfl,y,rfl,hy,H2⟩;obtain⟨sv,H2⟩:=ExtC.E H2;have H3:=H2;unfold Vg yH at H3;unfold J4;refine qW (qQ (qX ‹_› .here rfl ?_));refine qW (qQ (qX ‹_› .here rfl ?_));refine qm ‹_› e_1 ?_;by_cases c:y.at_=(y.seen.length:Int)
  ·refine qg c ?_;rw[iJ c];refine qZ (qW (qQ (qG (ge omQ H2) λ_ h4 H4=>?_)));refine qk<|qj (ExtC.I H4)
  ·refine qK c ?_;rw[iQ c];refine qJ (qk ?_);exact qj (ExtC.I H2)
 refine qW (qQ (qF H1 .here rfl omQ rfl ?_));refine qG (XY omQ (H1.sel e_1)) ?_;rintro _ h2 ⟨rfl,H2⟩;unfold yq at hF;cases hs:(jK x.p a).1 with
 |true=>rw[iJ hs]at hF;subst hF;refine qZ<|qj (ExtC.I (sv:=sv) (H2.pk [0,1] 1))
 |false=>
  rw[iQ (by rw[hs];simp)]at hF;have hsp:=Xi hs;rw[hsp.1]at H2;have H3:HS g h2 (qw b (Vg x sv)::qw b0 (xw a)::qy 140 2 x.seen.length sv (x.seen.flatMap vw)::R):=H2;have H4:=H3;unfold Vg yH xw at H4;have hlo:=O.lo;have hlen:=O.len;refine qJ (qW (qQ (qX ‹_› .here rfl ?_)));cases hl:x.loaded with
  |false=>
   rw[iJ hl]at hF;refine jA (qZ (qV ?_));refine qQ (qX ‹_› e_1 rfl ?_);refine qW (qQ ?_)
   refine qA H4 .here ⟨rfl,rfl⟩ osQ λh5 H5=>?_;refine qW (qQ (qA H5 .here ⟨rfl,rfl⟩ osQ λh6 H6=>?_));refine qd ‹_› e_1 rfl ‹_› e_1 rfl (HS.lt ‹_› e_1)<|hj _ _ ⟨rfl,{ x with loaded:=true,stamp:=a.word },hF.symm,hlen,ExtC.I (sv:=sv) (H6.pk [0,1] 1)⟩
  |true=>
   rw[iQ (by rw[hl];simp)]at hF;refine jk (qJ (qQ (qn (qX H4 e_1 rfl ?_))));cases hd:a.lk.2.1 with
   |true=>
    rw[iJ hd]at hF;refine qZ (qV ?_);refine qW (qQ (qQ ?_))
    refine qF H4 e_1 rfl omQ rfl<|qG (KP omQ (O.p hsp.2) H3) ?_;rintro _ h5 ⟨rfl,H5⟩;cases hw:(zY x.p a.lk).1 with
    |true=>rw[iJ hw]at hF;subst hF;refine jk (qJ (qk ?_));exact qj (ExtC.I (sv:=sv) (H5.pk [0,1] 1))
    |false=>rw[iQ (by rw[hw];simp)]at hF;subst hF;have H6:=H5;unfold xw at H6;refine jA (qZ (qW (qQ (qQ (qn (qX H6 e_1 rfl ?_))))));refine qG (ge omQ H5) λ_ h7 H7=>?_;refine qk<|qj (ExtC.I (sv:=sv) (H7.pk [0,1] 1))
   |false=>
    rw[iQ (by rw[hd];simp)]at hF;refine qJ (qQ (qn (qX H4 e_1 rfl ?_)));refine qW (qQ (qX ‹_› .here rfl ?_));refine qW (qQ (qX ‹_› .here rfl ?_));have hin:=O.in_ hsp.2 hl;obtain⟨k,hk⟩:∃k:Nat,x.at_=k:=⟨x.at_.toNat,by omega⟩;rw[hk]at hin ⊢;rw[hk]at hF;refine yn (H3.sl e_2) omQ omQ (JK omQ).2 ?_;by_cases c:a.lk.1=(z6 x.seen k).2
    ·refine q9 c ?_;rw[iQ (λh=>h c)]at hF;refine qJ (qW (qQ (qX ‹_› .here rfl ?_)));refine qc omQ<|qW (qQ ?_);rw[hk]
     skip
     refine qA H4 .here ⟨rfl,rfl⟩ osQ λh5 H5=>?_;exact hj _ _ ⟨rfl,{ x with at_:=(k:Int)+1 },hF.symm,hlen,ExtC.I (sv:=sv) (H5.pk [0,1] 1)⟩
    ·refine jX c ?_;rw[iJ c,← hk]at hF;subst hF;refine qZ (qW (qQ (qG (ge omQ H3) λ_ h7 H7=>?_)));exact qj (ExtC.I (sv:=sv) (H7.pk [0,1] 1))
end
end
section
variable {g h:AH} {L R:List SP}
structure ComL (c:zE):Prop where
  seen:c.seen.length≤16
  cells:c.cells.length≤1000
  s:c.s.length≤16
  was:c.was.length≤c.s.length
  pos:0<c.s.length
  rise:c.s.Pairwise (· < ·)
  lo:0≤c.at_
  hi:c.at_≤1000
  now:0≤c.now∧c.now<9223372036854775807
def zT (fin spins state at_ now fin2:Int) (sl cl tl wl:Nat):Prop :=
 (sl≤16∧cl≤1000∧tl≤16∧wl≤tl∧0<tl∧0≤at_∧at_≤1000∧0≤now∧now<9223372036854775807∧0≤state∧state≤7)∧(fin=0→state≤6→0≤spins∧spins≤4)∧(fin=0→state≤1→wl<tl)∧(state≤4→at_≤sl)∧
 (2≤state→state≤6→wl=tl)∧(fin=0→state=4→at_<sl)∧(fin=0→state=5→at_<cl)∧(fin=0→state=6→at_<tl)∧(fin=0→state=7→at_<wl)∧(state=7→fin2≠0)
structure xg (c:zE):Prop where
  rise:c.s.Pairwise (· < ·)
  ar:zT c.p.fin c.p.spins c.state c.at_ c.now c.fin2 c.seen.length c.cells.length c.s.length c.was.length
section
variable {c:zE} (O:xg c)
include O
theorem xg.toComL:ComL c:=by have h:=O.ar;unfold zT at h;exact⟨by omega,by omega,by omega,by omega,by omega,O.rise,by omega,by omega,by omega⟩
theorem xg.p (hg:c.p.fin=0) (hs:c.state≤6):0≤c.p.spins∧c.p.spins≤4:=by have h:=O.ar;unfold zT at h;omega
theorem xg.st0 (hg:c.p.fin=0) (hs:c.state≤1):c.was.length<c.s.length:=by have h:=O.ar;unfold zT at h;omega
theorem xg.st3 (h1:2≤c.state) (h2:c.state≤4):c.was.length=c.s.length∧c.at_≤c.seen.length:=by have h:=O.ar;unfold zT at h;omega
theorem xg.st4 (hg:c.p.fin=0) (hs:c.state=4):c.at_<c.seen.length:=by have h:=O.ar;unfold zT at h;omega
theorem xg.st5 (hg:c.p.fin=0) (hs:c.state=5):c.at_<c.cells.length:=by have h:=O.ar;unfold zT at h;omega
theorem xg.st6 (hg:c.p.fin=0) (hs:c.state=6):c.at_<c.s.length:=by have h:=O.ar;unfold zT at h;omega
theorem xg.st7 (hg:c.p.fin=0) (hs:c.state=7):c.at_<c.was.length:=by have h:=O.ar;unfold zT at h;omega
theorem xg.st:0≤c.state∧c.state≤7:=by have h:=O.ar;unfold zT at h;omega
theorem xg.s:c.s.length≤16:=O.toComL.s
theorem xg.was:c.was.length≤c.s.length:=O.toComL.was
theorem xg.seen:c.seen.length≤16:=O.toComL.seen
theorem xg.lo:0≤c.at_:=O.toComL.lo
theorem xg.hi:c.at_≤1000:=O.toComL.hi
theorem xg.now:0≤c.now∧c.now<9223372036854775807:=O.toComL.now
end
theorem qzi:∀{s:List Int} {was:List LkM} {x:Int},s.Pairwise (· < ·)→was.length=s.length→ownM s was x=if x∈s then some (zx was (s.countP (· <x):Nat)).1 else none:=by
 intro s
 induction s with
 |nil=>intro was x _ _;cases was<;>rfl
 |cons y s ih=>
  intro was x hp hl;cases was with
  |nil=>cases hl
  |cons w was=>
   have h1:=List.pairwise_cons.1 hp;unfold ownM;by_cases e:y=x
   ·subst e;rw[iJ rfl,iJ (iK ..),List.countP_cons,List.countP_eq_zero.2 (λa ha=>by have:=h1.1 a ha;simp;omega),iV omQ];rfl
   ·rw[iQ e,ih h1.2 (by simpa using hl)];by_cases hm:x∈s
    ·rw[iJ hm,iJ (iX _ hm),List.countP_cons,iG (h1.1 x hm)];unfold zx;simp
    ·rw[iQ hm,iQ (λh=>by rcases List.mem_cons.1 h with h |h;exact e h.symm;exact hm h)]
theorem qwL {s:List Int} {x:Int} (hp:s.Pairwise (· < ·)) (h:x∈s):s.countP (· <x)<s.length:=by
 rcases Nat.lt_or_ge (s.countP (· <x)) s.length with h' |h'
 ·exact h'
 ·have:=List.countP_eq_length.1 (Nat.le_antisymm List.countP_le_length h') x h;simp at this
def Qc (c:zE) (sv cv tv wv:AV):List AV:=yH c.p [.int .i64 c.me,.int .u64 c.stamp,sv,cv,tv,wv,.int .i64 c.state,.int .i64 c.at_,.int .u64 c.lk.1,.bool c.lk.2.1,.int .i64 c.lk.2.2,.int .u64 c.now,.bool c.writing,.int .i64 c.fin2,.int .i64 c.by2,.int .i64 c.err2]
def ComC (b:Nat) (c:zE):SP:=.ex λq:AV×AV×AV×AV=>.all [qw b (Qc c q.1 q.2.1 q.2.2.1 q.2.2.2),qy 140 2 c.seen.length q.1 (c.seen.flatMap vw),qy 164 2 c.cells.length q.2.1 (c.cells.flatMap jP),
 qy 3 1 c.s.length q.2.2.1 (c.s.map (.int .i64)),qy 77 3 c.was.length q.2.2.2 (c.was.flatMap zA)]
section
variable {n b:Nat} {c:zE} {sv cv tv wv:AV}
theorem ComC.E (H:HS g h (ComC b c::R)):∃sv cv tv wv,HS g h (qw b (Qc c sv cv tv wv)::qy 140 2 c.seen.length sv (c.seen.flatMap vw)::qy 164 2 c.cells.length cv (c.cells.flatMap jP)::
  qy 3 1 c.s.length tv (c.s.map (.int .i64))::qy 77 3 c.was.length wv (c.was.flatMap zA)::R):=by
 obtain⟨⟨sv,cv,tv,wv⟩,H⟩:=H.exE;exact⟨sv,cv,tv,wv,H.allE⟩
theorem ComC.I (H:HS g h (qw b (Qc c sv cv tv wv)::qy 140 2 c.seen.length sv (c.seen.flatMap vw)::qy 164 2 c.cells.length cv (c.cells.flatMap jP)::
  qy 3 1 c.s.length tv (c.s.map (.int .i64))::qy 77 3 c.was.length wv (c.was.flatMap zA)::R)):HS g h (ComC b c::R):=HS.exI (sv,cv,tv,wv) H.allI
theorem qJM (hn:2≤n) (H:HS g h (ComC b c::R)):t_w n 392 [.ptr b 0] h λ_ h'=>HS g h' (ComC b (vL c)::R):=by
 refine t_e1 rfl omQ λk hk=>?_;unfold S392;try simp only[iZ]
 obtain⟨sv,cv,tv,wv,H⟩:=ComC.E H;have H1:=H;unfold Qc yH at H1;unfold vL;refine qW (qQ (qX ‹_› .here rfl ?_));refine qW (qQ (qX ‹_› .here rfl ?_));refine qm ‹_› e_3 ?_;by_cases c0:c.at_=(c.s.length:Int)
 ·refine qg c0 ?_;rw[iJ c0];refine qZ (qW (qQ (qG (ge omQ H) λ_ h2 H2=>?_)));exact qj (ComC.I H2)
 ·refine qK c0 ?_;rw[iQ c0];refine qJ<|qj (ComC.I H)
theorem Nb (hn:3≤n) (H:HS g h (ComC b c::R)):t_w n 391 [.ptr b 0] h λ_ h'=>HS g h' (ComC b (vv c)::R):=by
 refine t_e1 rfl omQ λk hk=>?_;unfold S391;try simp only[iZ]
 obtain⟨sv,cv,tv,wv,H⟩:=ComC.E H;have H1:=H;unfold Qc yH at H1;unfold vv;refine qW (qQ (qX ‹_› .here rfl ?_));refine qW (qQ (qX ‹_› .here rfl ?_));refine qm ‹_› e_2 ?_;by_cases c0:c.at_=(c.cells.length:Int)
 ·refine qg c0 ?_;rw[iJ c0];refine qZ (qW (qQ (qA H1 .here ⟨rfl,rfl⟩ osQ λh2 H2=>?_)));refine qW (qQ (qA H2 .here ⟨rfl,rfl⟩ osQ λh3 H3=>?_));refine qG (qJM omQ (ComC.I H3)) λ_ h4 H4=>qj H4
 ·refine qK c0 ?_;rw[iQ c0];refine qJ<|qj (ComC.I H)
theorem NX (hn:4≤n) (H:HS g h (ComC b c::R)):t_w n 387 [.ptr b 0] h λ_ h'=>HS g h' (ComC b (kB c)::R):=by
 refine t_e1 rfl omQ λk hk=>?_;unfold S387;try simp only[iZ]
 obtain⟨sv,cv,tv,wv,H⟩:=ComC.E H;unfold Qc yH at H;refine qW (qQ (qA H .here ⟨rfl,rfl⟩ osQ λh2 H2=>?_));refine qW (qQ (qA H2 .here ⟨rfl,rfl⟩ osQ λh3 H3=>?_));refine qW (qQ (qA H3 .here ⟨rfl,rfl⟩ osQ λh4 H4=>?_));refine qG (Nb omQ (ComC.I H4)) λ_ h5 H5=>qj H5
theorem Ms (hn:2≤n) (H:HS g h (ComC b c::R)):t_w n 393 [.ptr b 0] h λ_ h'=>HS g h' (ComC b (gU c)::R):=by
 refine t_e1 rfl omQ λk hk=>?_;unfold S393;try simp only[iZ]
 obtain⟨sv,cv,tv,wv,H⟩:=ComC.E H;have H1:=H;unfold Qc yH at H1;unfold gU;refine qW (qQ (qX ‹_› .here rfl ?_));refine qW (qQ (qX ‹_› .here rfl ?_));refine qm ‹_› e_4 ?_;by_cases c0:c.at_=(c.was.length:Int)
 ·refine qg c0 ?_;rw[iJ c0];refine qZ (qW (qQ (qW (qQ (qX ‹_› .here rfl ?_)))));refine qW (qQ (qX ‹_› .here rfl ?_));refine qW (qQ (qX ‹_› .here rfl ?_));refine qG (ge omQ H) λ_ h2 H2=>?_;exact qj (ComC.I H2)
 ·refine qK c0 ?_;rw[iQ c0];refine qJ<|qj (ComC.I H)
theorem Ga {f e y:Int} (hn:3≤n) (H:HS g h (ComC b c::R)):t_w n 395 [.ptr b 0,.int .i64 f,.int .i64 e,.int .i64 y] h λ_ h'=>HS g h' (ComC b (kr c f e y)::R):=by
 refine t_e4 rfl omQ λk hk=>?_;unfold S395;try simp only[iZ]
 obtain⟨sv,cv,tv,wv,H⟩:=ComC.E H;unfold Qc yH at H;refine qW (qQ (qA H .here ⟨rfl,rfl⟩ osQ λh2 H2=>?_));refine qW (qQ (qA H2 .here ⟨rfl,rfl⟩ osQ λh3 H3=>?_));refine qW (qQ (qA H3 .here ⟨rfl,rfl⟩ osQ λh4 H4=>?_));refine qW (qQ (qA H4 .here ⟨rfl,rfl⟩ osQ λh5 H5=>?_));refine qW (qQ (qA H5 .here ⟨rfl,rfl⟩ osQ λh6 H6=>?_));refine qG (Ms omQ (ComC.I H6)) λ_ h5 H5=>qj H5
theorem qJ6 (hn:1≤n) (H:HS g h (ComC b c::R)):t_w n 227 [.ptr b 0] h λ_ h'=>HS g h' (ComC b (Qi c)::R):=by
 refine t_e1 rfl omQ λk hk=>?_;unfold S227;try simp only[iZ]
 obtain⟨sv,cv,tv,wv,H⟩:=ComC.E H;unfold Qc yH at H;unfold Qi;refine qW (qQ (qA H .here ⟨rfl,rfl⟩ osQ λh2 H2=>?_));refine qW (qQ (qX ‹_› .here rfl ?_));refine qm ‹_› e_4<|qW (qQ (qX ‹_› .here rfl ?_));refine qm ‹_› e_3 ?_;by_cases c0:c.was.length=c.s.length
 ·refine qg omQ ?_;rw[iJ c0];refine qZ (qW (qQ (qA H2 .here ⟨rfl,rfl⟩ osQ λh3 H3=>?_)));exact qj (ComC.I H3)
 ·refine qK omQ ?_;rw[iQ c0];refine qJ<|qj (ComC.I H2)
theorem Zr {l:LkM} (hn:4≤n) (hp:0≤c.p.spins∧c.p.spins≤4) (H:HS g h (ComC b c::R)):t_w n 394 [.ptr b 0,.agg (zA l)] h λ_ h'=>HS g h' (ComC b (Qf c l)::R):=by
 refine t_e2 rfl omQ λk hk=>?_;unfold S394;try simp only[iZ]
 obtain⟨sv,cv,tv,wv,H⟩:=ComC.E H;refine qP H rfl λb0 h1 H1=>?_;unfold Qf;refine qW (qQ (qF H1 .here rfl omQ rfl ?_));refine qG (KP omQ hp (H1.sel e_1)) ?_;rintro _ h2 ⟨rfl,H2⟩;have H3:HS g h2 (ComC b { c with p:=(zY c.p l).2 }::qw b0 (zA l)::R):=ComC.I (sv:=sv) (cv:=cv) (tv:=tv) (wv:=wv) (H2.pk [0,1,1,1,1] 0);cases hw:(zY c.p l).1 with
 |true=>rw[iJ rfl];refine jk (qJ ?_);exact qj (H3.pk [0] 1)
 |false=>rw[iQ osQ];unfold zA at H3;refine jA (qZ (qQ (qX ‹_› e_1 rfl ?_)));refine qG (Ga omQ H3) λ_ h4 H4=>?_;exact qj (H4.pk [0] 1)
theorem Np (hn:5≤n) (O:ComL c) (hw:c.was.length=c.s.length) (ha:c.at_≤c.seen.length) (H:HS g h (ComC b c::R)):t_w n 396 [.ptr b 0] h λ_ h'=>HS g h' (ComC b (Jq c)::R):=by
 refine t_e1 rfl omQ λk hk=>?_;unfold S396;try simp only[iZ]
 generalize hF:Jq c=F;unfold Jq at hF;obtain⟨sv,cv,tv,wv,H⟩:=ComC.E H;unfold Qc yH at H;have l1:=O.seen;have l2:=O.s;have l3:=O.pos;have l4:=O.lo;refine qW (qQ (qA H .here ⟨rfl,rfl⟩ osQ λh2 H2=>?_));have H2:HS g h2 (ComC b { c with state:=4 }::R):=ComC.I H2;refine jM (λm s h'=>s=(.ptr b 0,())∧∃a:Int,gE { c with state:=4,at_:=a } m=F∧0≤a∧a≤c.seen.length∧c.seen.length<a+m∧HS g h' (ComC b { c with state:=4,at_:=a }::R))
  ?_ omQ ⟨rfl,c.at_,hF,l4,ha,by omega,H2⟩
 clear H H2 hF;rintro m ih s h3 hih ⟨rfl,a,hF,ha0,ha,hm,H⟩;obtain⟨m,rfl⟩:∃k,m=k+1:=⟨m-1,by omega⟩;unfold gE at hF;dsimp only at hF;obtain⟨sv,cv,tv,wv,H⟩:=ComC.E H;have H1:=H;unfold Qc yH at H1;dsimp only at H1;refine qW (qQ (qX ‹_› .here rfl ?_));refine qW (qQ (qX ‹_› .here rfl ?_));refine qm ‹_› e_1 ?_;by_cases hlt:a<c.seen.length
 ·refine jT hlt ?_;rw[iJ hlt]at hF;obtain⟨k,rfl⟩:∃k:Nat,a=k:=⟨a.toNat,by omega⟩;refine qZ (qW (qQ (qX ‹_› .here rfl ?_)));refine qW (qQ (qX ‹_› .here rfl ?_));refine qW (qQ (qX ‹_› .here rfl ?_));refine yn (H.sl e_1) omQ (by show k<c.seen.length;omega) (JK (by show k<c.seen.length;omega)).1<|qG (qkb omQ H1 e_3 l3 omQ (O.rise.imp λh=>by omega)) ?_;rintro _ _ ⟨rfl,rfl⟩;rw[qzi O.rise hw]at hF;by_cases hc:(z6 c.seen k).1∈c.s
  ·rw[iJ hc]at hF;dsimp only at hF;rw[show c.s.contains (z6 c.seen k).1=true from List.contains_iff_mem.2 hc];have hfl:=qwL O.rise hc;refine qC rfl<|qC rfl<|jk (qJ (qW (qQ (qX ‹_› .here rfl ?_))));refine yn (x:=.int .u64 (zx c.was (c.s.countP (· <(z6 c.seen k).1):Nat)).1) (H.sl e_4) omQ (Nat.lt_of_lt_of_eq hfl hw.symm) ?_ ?_
   ·have:=congrArg (·[0]?) (Od (l:=c.was) (k:=c.s.countP (· <(z6 c.seen k).1)) omQ);simp only[List.getElem?_take_of_lt (show 0<3 by omega),List.getElem?_drop]at this;exact this
   refine qW (qQ (qX ‹_› .here rfl ?_));refine qW (qQ (qX ‹_› .here rfl ?_));refine yn (H.sl e_1) omQ (by show k<c.seen.length;omega) (JK (by show k<c.seen.length;omega)).2 ?_;by_cases hv:(zx c.was (c.s.countP (· <(z6 c.seen k).1):Nat)).1=(z6 c.seen k).2
   ·refine q9 hv ?_;rw[iQ (λh=>h hv)]at hF;refine qJ (qW (qQ (qX ‹_› .here rfl ?_)));refine qc omQ<|qW (qQ (qA H1 (b:=b) .here ⟨rfl,rfl⟩ osQ λh4 H4=>?_));exact hih m _ _ omQ ⟨rfl,(k:Int)+1,hF,by omega,by omega,by omega,ComC.I (c:={ c with state:=4,at_:=(k:Int)+1 }) H4⟩
   ·refine jX hv ?_;rw[iJ hv]at hF;subst hF;refine qZ (qG (Ga omQ (ComC.I H)) λ_ h4 H4=>?_);refine qk<|qj H4
  ·rw[iQ hc]at hF;dsimp only at hF;subst hF;rw[show c.s.contains (z6 c.seen k).1=false from by simpa using hc];refine qC rfl<|qC rfl<|jA (qZ (qk ?_));exact qj (ComC.I H)
 ·refine jD hlt ?_;rw[iQ hlt]at hF;subst hF;refine qJ (qG (NX omQ (ComC.I H)) λ_ h4 H4=>?_);refine qk<|qj H4
end
end
section
variable {g h:AH} {L R:List SP}
section
variable {n b:Nat} {c:zE} {sv cv tv wv:AV} {a:AnM}
theorem qXs {l:LkM} (hn:6≤n) (O:xg c) (hg:c.p.fin=0) (h4:c.state=4) (H:HS g h (ComC b c::R)):t_w n 390 [.ptr b 0,.agg (zA l)] h λ_ h'=>HS g h' (ComC b (wU c l)::R):=by
 refine t_e2 rfl omQ λk hk=>?_;unfold S390;try simp only[iZ]
 generalize hF:wU c l=F;refine qP H rfl λb0 h1 H1=>?_;refine ji [] (λ_ h'=>HS g h' (ComC b F::R)) (λj hj=>?_) λ_ h' H'=>?_
 rotate_left
 ·refine qk<|qj H'
 unfold wU at hF;have H2:=H1;unfold zA at H2;refine qQ (qX ‹_› .here rfl ?_);cases hd:l.2.1 with
 |true=>rw[iJ hd]at hF;subst hF;refine qZ (qF H1 .here rfl omQ rfl ?_);refine qG (Zr omQ (O.p hg omQ) (H1.sel e_1)) λ_ h3 H3=>?_;exact hj _ _ (H3.pk [0] 1)
 |false=>
  rw[iQ (by rw[hd];simp)]at hF;obtain⟨sv,cv,tv,wv,H3⟩:=ComC.E (H2.sel e_1);have H4:=H3;unfold Qc yH at H4;have hlt:=O.st4 hg h4;have hlo:=O.lo;have l1:=O.seen;obtain⟨k,hk⟩:∃k:Nat,c.at_=k:=⟨c.at_.toNat,by omega⟩;refine qJ (qQ (qX ‹_› e_5 rfl ?_));refine qW (qQ (qX ‹_› .here rfl ?_));refine qW (qQ (qX ‹_› .here rfl ?_));rw[hk]at hF hlt ⊢;refine yn (H3.sl e_1) omQ omQ (JK omQ).2 ?_;by_cases c0:l.1=(z6 c.seen k).2
  ·refine q9 c0 ?_;rw[iQ (λh=>h c0)]at hF;subst hF;refine qJ (qW (qQ (qX ‹_› .here rfl ?_)));refine qc omQ<|qW (qQ ?_);rw[hk]
   skip
   refine qA H4 .here ⟨rfl,rfl⟩ osQ λh5 H5=>?_;refine qG (Np (c:={ c with at_:=(k:Int)+1 }) omQ { O.toComL with lo:=(by show(0:Int)≤k+1;omega),hi:=(by show(k:Int)+1≤1000;have:=O.seen;omega) } (O.st3 omQ omQ).1 (by show(k:Int)+1≤c.seen.length;omega) (ComC.I H5)) λ_ h6 H6=>?_;exact hj _ _ (H6.pk [0] 1)
  ·refine jX c0 ?_;rw[iJ c0]at hF;subst hF;refine qZ (qG (Ga omQ (ComC.I H3)) λ_ h6 H6=>?_);exact hj _ _ (H6.pk [0] 1)
theorem qQI (hn:5≤n) (O:xg c) (hg:c.p.fin=0) (H:HS g h (ComC b c::R)):t_w n 388 [.ptr b 0,.agg (xw a)] h λ_ h'=>HS g h' (ComC b (ku c a)::R):=by
 refine t_e2 rfl omQ λk hk=>?_;unfold S388;try simp only[iZ]
 generalize hF:ku c a=F;refine qP H rfl λb0 h1 H1=>?_;refine ji [] (λ_ h'=>HS g h' (ComC b F::R)) (λj hj=>?_) λ_ h' H'=>?_
 rotate_left
 ·refine qk<|qj H'
 unfold ku at hF;obtain⟨sv,cv,tv,wv,H2⟩:=ComC.E (H1.sel e_1);have H3:=H2;unfold Qc yH xw at H3;have l1:=O.s;have l2:=O.was;refine qW (qQ (qX ‹_› .here rfl ?_));by_cases c0:c.state=0
 ·refine qg c0<|qV<|qa<|qQ ?_
  refine qn (qX H3 e_5 rfl ?_);cases hd:a.lk.2.1 with
  |true=>rw[iJ ⟨c0,hd⟩]at hF;subst hF;refine qD (qZ (qQ (qF H1 .here rfl omQ rfl ?_)));refine qG (Zr omQ (O.p hg omQ) (H1.sel e_1)) λ_ h3 H3=>?_;exact hj _ _ (H3.pk [0] 1)
  |false=>rw[iQ (λh=>by rw[hd]at h;cases h.2),iJ c0]at hF;subst hF;refine qD (qJ (qW (qQ (qX ‹_› .here rfl ?_))));refine qg omQ<|qZ (qQ (qF H1 .here rfl omQ rfl ?_));refine qW (qQ (qf H3 .here rfl (by simp) rfl λh5 H5=>?_));refine qW (qQ (qA H5 .here ⟨rfl,rfl⟩ (by simp[kA]) λh6 H6=>?_));have H7:HS g h6 (ComC b { c with lk:=a.lk,state:=1 }::qw b0 (xw a)::R):=ComC.I (sv:=sv) (cv:=cv) (tv:=tv) (wv:=wv) H6;exact hj _ _ (H7.pk [0] 1)
 ·refine qK c0 ?_;rw[iQ (λh=>c0 h.1),iQ c0]at hF;refine qV<|qT<|qE (qJ (qW (qQ (qX ‹_› .here rfl ?_))));refine qK omQ<|qJ (qQ (qX ‹_› e_5 rfl ?_))
  cases hd:a.done with
  |true=>
   rw[iJ hd]at hF;subst hF;refine qZ (qW (qQ (qX ‹_› .here rfl ?_)));refine qW (qQ (qF H3 .here rfl omQ rfl ?_));refine qh H3 rfl rfl rfl rfl λv2 h5 H5=>?_;refine jf (H5.sel e_5) (H5.sl .here) omQ omQ rfl λv3 h6 H6=>?_;have o6:=H6.one .here;refine qW (qQ (qA H6 e_2 o6 osQ λh7 H7=>?_));have H8:HS g h7 (ComC b { c with was:=c.was++[c.lk] }::qw b0 (xw a)::R):=by refine ComC.I (sv:=sv) (cv:=cv) (tv:=tv) (wv:=v3) ?_;rw[List.length_append,List.flatMap_append];exact H7.pk [0,2,2,2,0] 1
   refine qG (qJ6 omQ H8) λ_ h9 H9=>?_;exact hj _ _ (H9.pk [0] 1)
  |false=>rw[iQ (by rw[hd];simp)]at hF;subst hF;refine qJ (qW (qQ (qA H3 .here ⟨rfl,rfl⟩ osQ λh6 H6=>?_)));have H7:HS g h6 (ComC b { c with state:=0 }::qw b0 (xw a)::R):=ComC.I (sv:=sv) (cv:=cv) (tv:=tv) (wv:=wv) H6;exact hj _ _ (H7.pk [0] 1)
theorem NR (hn:6≤n) (O:xg c) (h23:c.state=2∨c.state=3) (H:HS g h (ComC b c::R)):t_w n 389 [.ptr b 0,.agg (xw a)] h λ_ h'=>HS g h' (ComC b (wQ c a)::R):=by
 refine t_e2 rfl omQ λk hk=>?_;unfold S389;try simp only[iZ]
 generalize hF:wQ c a=F;refine qP H rfl λb0 h1 H1=>?_;refine ji [] (λ_ h'=>HS g h' (ComC b F::R)) (λj hj=>?_) λ_ h' H'=>?_
 rotate_left
 ·refine qk<|qj H'
 unfold wQ at hF;obtain⟨sv,cv,tv,wv,H2⟩:=ComC.E (H1.sel e_1);have H3:=H2;unfold Qc yH xw at H3;refine qW (qQ (qX ‹_› .here rfl ?_));by_cases c0:c.state=2
 ·refine qg c0<|qV<|qa<|qQ (qX ‹_› e_5 rfl ?_)
  by_cases c1:4611686018427387903≤a.word
  ·refine zc omQ ?_;rw[iJ ⟨c0,c1⟩]at hF;subst hF;refine qD (qZ (qG (Ga omQ (ComC.I H2)) λ_ h6 H6=>?_));exact hj _ _ (H6.pk [0] 1)
  ·refine zF omQ ?_;rw[iQ (λh=>c1 h.2),iJ c0]at hF;subst hF;refine qD (qJ (qW (qQ (qX ‹_› .here rfl ?_))));refine qg omQ<|qZ (qQ (qX ‹_› e_5 rfl ?_));refine qW (qQ (qA H3 .here ⟨rfl,rfl⟩ osQ λh6 H6=>?_));refine qW (qQ (qA H6 .here ⟨rfl,rfl⟩ osQ λh7 H7=>?_));have H8:HS g h7 (ComC b { c with now:=a.word,state:=3 }::qw b0 (xw a)::R):=ComC.I (sv:=sv) (cv:=cv) (tv:=tv) (wv:=wv) H7;exact hj _ _ (H8.pk [0] 1)
 ·refine qK c0 ?_;rw[iQ (λh=>c0 h.1),iQ c0]at hF;have h3:=O.st3 omQ omQ;refine qV<|qT<|qE (qJ (qW (qQ (qX ‹_› .here rfl ?_))));refine qK omQ<|qJ (qQ (qX ‹_› e_5 rfl ?_))
  cases hd:a.done with
  |false=>rw[iJ hd]at hF;subst hF;refine jA (qZ (qW (qQ (qA H3 .here ⟨rfl,rfl⟩ osQ λh6 H6=>?_))));have H7:HS g h6 (ComC b { c with state:=2 }::qw b0 (xw a)::R):=ComC.I (sv:=sv) (cv:=cv) (tv:=tv) (wv:=wv) H6;exact hj _ _ (H7.pk [0] 1)
  |true=>
   rw[iQ (by rw[hd];simp)]at hF;refine jk (qJ (qW (qQ (qX ‹_› .here rfl ?_))));refine qW (qQ (qX ‹_› .here rfl ?_));by_cases c1:c.now=c.stamp
   ·refine qg c1 ?_;rw[iJ c1]at hF;subst hF;refine qZ (qG (NX omQ (ComC.I H2)) λ_ h6 H6=>?_);exact hj _ _ (H6.pk [0] 1)
   ·refine qK c1 ?_;rw[iQ c1]at hF;subst hF;refine qJ (qG (Np omQ O.toComL h3.1 h3.2 (ComC.I H2)) λ_ h6 H6=>?_);exact hj _ _ (H6.pk [0] 1)
theorem qkc (hn:7≤n) (O:xg c) (H:HS g h (ComC b c::R)):t_w n 386 [.ptr b 0,.agg (xw a)] h λ_ h'=>HS g h' (ComC b (zH c a)::R):=by
 refine t_e2 rfl omQ λk hk=>?_;unfold S386;try simp only[iZ]
 generalize hF:zH c a=F;refine qP H rfl λb0 h1 H1=>?_;obtain⟨sv,cv,tv,wv,H2⟩:=ComC.E (H1.sel e_1);have hlo:=O.lo;have hhi:=O.hi;have hst:=O.st;unfold zH at hF;refine qW (qQ (qF H1 .here rfl omQ rfl ?_));refine qG (XY omQ H2) ?_;rintro _ h2 ⟨rfl,H3⟩;cases hs:(jK c.p a).1 with
 |true=>rw[iJ hs]at hF;subst hF;refine qZ ?_;have H4:HS g h2 (ComC b { c with p:=(jK c.p a).2 }::qw b0 (xw a)::R):=ComC.I (sv:=sv) (cv:=cv) (tv:=tv) (wv:=wv) H3;exact qj (H4.pk [0] 1)
 |false=>
  rw[iQ (by rw[hs];simp)]at hF;have hsp:=Xi hs;rw[hsp.1]at H3;have hg:=hsp.2;have H2:HS g h2 (ComC b c::qw b0 (xw a)::R):=ComC.I (sv:=sv) (cv:=cv) (tv:=tv) (wv:=wv) H3
  have H4:HS g h2 (qw b (Qc c sv cv tv wv)::qy 140 2 c.seen.length sv (c.seen.flatMap vw)::qy 164 2 c.cells.length cv (c.cells.flatMap jP)::
   qy 3 1 c.s.length tv (c.s.map (.int .i64))::qy 77 3 c.was.length wv (c.was.flatMap zA)::qw b0 (xw a)::R):=H3
  unfold Qc yH at H4;refine qJ (qW (qn (qX H4 .here rfl ?_)));refine ji [] (λ_ h'=>HS g h' (ComC b F::R)) (λj hj=>?_) λ_ h' H'=>?_
  rotate_left
  ·refine qk<|qj H'
  by_cases c0:c.state=0∨c.state=1
  ·rw[iJ c0]at hF;subst hF;rcases c0 with c0 |c0
   ·refine qV<|qg omQ<|qZ (qZ ?_)
    refine qF H3 e_5 rfl omQ rfl<|qG (qQI omQ O hg H2) λ_ h6 H6=>?_;exact hj _ _ (H6.pk [0] 1)
   ·refine qV<|qK omQ<|qJ (qg omQ ?_);refine qZ ?_
    refine qF H3 e_5 rfl omQ rfl<|qG (qQI omQ O hg H2) λ_ h6 H6=>?_;exact hj _ _ (H6.pk [0] 1)
  rw[iQ c0]at hF;by_cases c1:c.state=2∨c.state=3
  ·rw[iJ c1]at hF;subst hF;have c2:=c1;rcases c1 with c1' |c1'
   ·refine qV<|qK omQ<|qJ (qK omQ ?_);refine qJ (qV ?_);refine qg omQ<|qZ (qZ ?_)
    refine qF H3 e_5 rfl omQ rfl<|qG (NR omQ O c2 H2) λ_ h6 H6=>?_;exact hj _ _ (H6.pk [0] 1)
   ·refine qV<|qK omQ<|qJ (qK omQ ?_);refine qJ (qV ?_);refine qK omQ<|qJ (qg omQ ?_);refine qZ ?_
    refine qF H3 e_5 rfl omQ rfl<|qG (NR omQ O c2 H2) λ_ h6 H6=>?_;exact hj _ _ (H6.pk [0] 1)
  rw[iQ c1]at hF;by_cases c4:c.state=4
  ·rw[iJ c4]at hF;subst hF;refine qV<|qK omQ<|qJ (qK omQ ?_);refine qJ (qV ?_);refine qK omQ<|qJ (qK omQ ?_);refine qJ (qg omQ ?_);refine qZ (qQ ?_)
   refine qF H3 e_5 rfl omQ rfl<|qG (qXs omQ O hg c4 H2) λ_ h6 H6=>?_;exact hj _ _ (H6.pk [0] 1)
  rw[iQ c4]at hF;by_cases c5:c.state=5
  ·rw[iJ c5]at hF;subst hF;refine qV<|qK omQ<|qJ (qK omQ ?_);refine qJ (qV ?_);refine qK omQ<|qJ (qK omQ ?_);refine qJ (qK omQ ?_);refine qJ (qg omQ ?_);refine qZ (qW (qQ (qX ‹_› .here rfl ?_)));refine qc omQ<|qW (qQ ?_)
   refine qA H4 .here ⟨rfl,rfl⟩ osQ λh5 H5=>?_;have H6:HS g h5 (ComC b { c with at_:=c.at_+1 }::qw b0 (xw a)::R):=ComC.I (sv:=sv) (cv:=cv) (tv:=tv) (wv:=wv) H5;refine qG (Nb omQ H6) λ_ h6 H6=>?_;exact hj _ _ (H6.pk [0] 1)
  rw[iQ c5]at hF;by_cases c6:c.state=6
  ·rw[iJ c6]at hF;subst hF;refine qV<|qK omQ<|qJ (qK omQ ?_);refine qJ (qV ?_);refine qK omQ<|qJ (qK omQ ?_);refine qJ (qK omQ ?_);refine qJ (qK omQ ?_);refine qJ (qg omQ ?_);refine qZ (qW (qQ (qX ‹_› .here rfl ?_)));refine qc omQ<|qW (qQ ?_)
   refine qA H4 .here ⟨rfl,rfl⟩ osQ λh5 H5=>?_;have H6:HS g h5 (ComC b { c with at_:=c.at_+1 }::qw b0 (xw a)::R):=ComC.I (sv:=sv) (cv:=cv) (tv:=tv) (wv:=wv) H5;refine qG (qJM omQ H6) λ_ h6 H6=>?_;exact hj _ _ (H6.pk [0] 1)
  rw[iQ c6]at hF;subst hF;refine qV<|qK omQ<|qJ (qK omQ ?_);refine qJ (qV ?_);refine qK omQ<|qJ (qK omQ ?_);refine qJ (qK omQ ?_);refine qJ (qK omQ ?_);refine qJ (qK omQ ?_);refine qJ (qg omQ ?_);refine qZ (qW (qQ (qX ‹_› .here rfl ?_)));refine qc omQ<|qW (qQ ?_)
  refine qA H4 .here ⟨rfl,rfl⟩ osQ λh5 H5=>?_;have H6:HS g h5 (ComC b { c with at_:=c.at_+1 }::qw b0 (xw a)::R):=ComC.I (sv:=sv) (cv:=cv) (tv:=tv) (wv:=wv) H5;refine qG (Ms omQ H6) λ_ h6 H6=>?_;exact hj _ _ (H6.pk [0] 1)
end
end
section
variable {g h:AH} {L R:List SP}
theorem qJA {l:List Cl} {k:Nat} (hk:k<l.length):(l.flatMap jP)[k*2+0]? =some (.int .i64 (kP l (k:Int)).1)∧(l.flatMap jP)[k*2+1]? =some (.int .u64 (kP l (k:Int)).2):=by
 have e:((l.flatMap jP).drop (k*2)).take 2=jP (kP l (k:Int)):=vI (enc:=jP) (λ_=>rfl) (by unfold kP;rw[Int.toNat_natCast,iW hk];rfl);constructor
 ·have:=congrArg (·[0]?) e;simp only[List.getElem?_take_of_lt (show 0<2 by omega),List.getElem?_drop]at this;exact this
 ·have:=congrArg (·[1]?) e;simp only[List.getElem?_take_of_lt (show 1<2 by omega),List.getElem?_drop]at this;exact this
section
variable {n b:Nat} {c:zE} {sv cv tv wv:AV}
theorem UI (hn:2≤n) (H:HS g h (ComC b c::R)):t_w n 156 [.ptr b 0] h λr h'=>r=.int .i64 c.p.fin∧h'=h:=by
 refine t_e1 rfl omQ λk hk=>?_;unfold S156;try simp only[iZ]
 obtain⟨sv,cv,tv,wv,H⟩:=ComC.E H;refine qW (qQ (qG (X9 omQ H .here) ?_));rintro _ _ ⟨rfl,rfl⟩;exact qj ⟨rfl,rfl⟩
theorem qkt (hn:2≤n) (H:HS g h (ComC b c::R)):t_w n 230 [.ptr b 0] h λr h'=>r=.int .i64 c.p.err∧h'=h:=by
 refine t_e1 rfl omQ λk hk=>?_;unfold S230;try simp only[iZ]
 obtain⟨sv,cv,tv,wv,H⟩:=ComC.E H;refine qW (qQ (qG (qk0 omQ H .here) ?_));rintro _ _ ⟨rfl,rfl⟩;exact qj ⟨rfl,rfl⟩
theorem jQo (hn:2≤n) (H:HS g h (ComC b c::R)):t_w n 384 [.ptr b 0] h λr h'=>r=.int .i64 c.p.by_∧h'=h:=by
 refine t_e1 rfl omQ λk hk=>?_;unfold S384;try simp only[iZ]
 obtain⟨sv,cv,tv,wv,H⟩:=ComC.E H;refine qW (qQ (qG (qKC omQ H .here) ?_));rintro _ _ ⟨rfl,rfl⟩;exact qj ⟨rfl,rfl⟩
theorem qG2 (hn:1≤n) (hw:0≤c.now∧c.now<9223372036854775807) (H:HS g h (ComC b c::R)):t_w n 175 [.ptr b 0] h λr h'=>r=.int .u64 (wy c)∧h'=h:=by
 refine t_e1 rfl omQ λk hk=>?_;unfold S175;try simp only[iZ]
 obtain⟨sv,cv,tv,wv,H⟩:=ComC.E H;unfold Qc yH at H;unfold wy;refine qW (qQ (qX ‹_› .here rfl ?_));cases hd:c.writing with
 |true=>rw[iQ osQ];refine jk (qJ (qW (qQ (qX ‹_› .here rfl ?_))));refine xr omQ<|qj ⟨rfl,rfl⟩
 |false=>rw[iJ rfl];refine jA (qZ ?_);exact qj ⟨rfl,rfl⟩
theorem qQd (hn:3≤n) (H:HS g h (ComC b c::R)):t_w n 155 [.ptr b 0] h λr h'=>r=.bool (wo c)∧h'=h:=by
 refine t_e1 rfl omQ λk hk=>?_;unfold S155;try simp only[iZ]
 obtain⟨sv,cv,tv,wv,H1⟩:=ComC.E H;unfold Qc yH at H1;unfold wo;refine qW (qQ (qX ‹_› .here rfl ?_));refine qV ?_;(try dsimp only)
 cases hd:c.writing with
 |true=>
  refine qa ?_;(try dsimp only)
  refine qG (UI omQ H) ?_;rintro _ _ ⟨rfl,rfl⟩;refine gK (λc1=>?_) (λc1=>?_)
  ·refine qD<|qj ⟨congrArg AV.bool (by rw[iG (p:=c.p.fin=0) c1];rfl),rfl⟩
  ·refine qD<|qj ⟨congrArg AV.bool (by rw[iV (p:=c.p.fin=0) c1];rfl),rfl⟩
 |false=>
  refine qT<|qE ?_
  exact qj ⟨rfl,rfl⟩
theorem qqr (hn:2≤n) (O:xg c) (H:HS g h (ComC b c::R)):t_w n 385 [.ptr b 0] h λr h'=>r=opV (yK c)∧HS g h' (ComC b c::R):=by
 refine t_e1 rfl omQ λk hk=>?_;unfold S385;try simp only[iZ]
 obtain⟨sv,cv,tv,wv,H⟩:=ComC.E H;refine qP H rfl λb0 h1 H1=>?_;have hlo:=O.lo;have hst:=O.st;have hnow:=O.now;have l1:=O.s;have l2:=O.was;refine qW (qQ (qG (X9 omQ H1 e_1) ?_));rintro _ _ ⟨rfl,rfl⟩;unfold yK;have H2:=H1;unfold Qc yH at H2;by_cases hg:c.p.fin=0
 rotate_left
 ·refine jX hg ?_;rw[iJ hg];refine qZ (qL rfl ?_);refine qf H1 .here rfl (by show 0+10≤10;omega) rfl λh3 H3=>?_;refine qF H3 .here rfl omQ rfl<|qj ⟨rfl,ComC.I H3.drop⟩
 refine q9 hg ?_;rw[iQ (λh=>h hg)];refine qJ (qW (qQ (qX ‹_› e_1 rfl ?_)));by_cases c0:c.state=0
 ·refine qg c0 ?_;rw[iJ c0];refine qZ (qW (qQ (qX ‹_› e_1 rfl ?_)));refine qW (qQ (qX ‹_› e_1 rfl ?_));refine qm ‹_› e_5 ?_;have hw:=O.st0 hg omQ;refine jO (H1.sl e_4) (by rw[List.getElem?_map,gd hw];rfl)<|qL rfl<|qf H2 .here rfl (by show 0+10≤10;omega) rfl λh3 H3=>?_;refine qF H3 .here rfl omQ rfl<|qj ⟨rfl,ComC.I H3.drop⟩
 refine qK c0 ?_;rw[iQ c0];refine qJ ?_;by_cases c1:c.state=1
 ·refine qg c1 ?_;rw[iJ c1];refine qZ (qW (qQ ?_));have hw:=O.st0 hg omQ;refine qn (qX H2 e_1 rfl ?_);refine qW (qQ (qX ‹_› e_1 rfl ?_));refine qL rfl<|qP H2 rfl λb1 h3 H3=>?_;refine qf H3 .here rfl (by show 0+3≤3;omega) rfl λh4 H4=>?_;have H4:HS g h4 (qw b1 (zA (c.lk.1,true,c.me))::qw b0 _::qw b (Qc c sv cv tv wv)::_):=H4;have H5:=H4;unfold Qc yH at H5;refine qW (qQ (qX ‹_› e_2 rfl ?_));refine qW (qQ (qX ‹_› e_2 rfl ?_));refine qm ‹_› e_6<|jO (H4.sl e_5) (by rw[List.getElem?_map,gd hw];rfl)<|qW (qQ (qF H5 e_2 rfl omQ rfl ?_));refine qF H5 .here rfl omQ rfl<|qL rfl<|qf H5 e_1 rfl (by show 0+10≤10;omega) rfl λh6 H6=>?_;refine qF H6 .here rfl omQ rfl<|qj ⟨rfl,ComC.I H6.drop.drop⟩
 refine qK c1 ?_;rw[iQ c1];refine qJ ?_;by_cases c2:c.state=2
 ·refine qg c2 ?_;rw[iJ c2];refine qZ (qL rfl ?_);refine qf H2 .here rfl (by show 0+10≤10;omega) rfl λh3 H3=>?_;refine qF H3 .here rfl omQ rfl<|qj ⟨rfl,ComC.I H3.drop⟩
 refine qK c2 ?_;rw[iQ c2];refine qJ ?_;by_cases c3:c.state=3
 ·refine qg c3 ?_;rw[iJ c3];refine qZ (qW (qQ (qX ‹_› e_1 rfl ?_)));refine qW (qQ (qX ‹_› e_1 rfl ?_));refine xr omQ<|qL rfl<|qf H2 .here rfl (by show 0+10≤10;omega) rfl λh3 H3=>?_;refine qF H3 .here rfl omQ rfl<|qj ⟨rfl,ComC.I H3.drop⟩
 refine qK c3 ?_;rw[iQ c3];refine qJ ?_;by_cases c4:c.state=4
 ·refine qg c4 ?_;rw[iJ c4];refine qZ (qW (qQ (qX ‹_› e_1 rfl ?_)));refine qW (qQ (qX ‹_› e_1 rfl ?_));have hlt:=O.st4 hg c4;obtain⟨k,hk⟩:∃k:Nat,c.at_=k:=⟨c.at_.toNat,by omega⟩;rw[hk]at hlt ⊢;refine yn (H1.sl e_2) omQ omQ (JK omQ).1<|qL rfl<|qf H2 .here rfl (by show 0+10≤10;omega) rfl λh3 H3=>?_;refine qF H3 .here rfl omQ rfl<|qj ⟨rfl,ComC.I H3.drop⟩
 refine qK c4 ?_;rw[iQ c4];refine qJ ?_;by_cases c5:c.state=5
 ·refine qg c5 ?_;rw[iJ c5];refine qZ (qW (qQ (qX ‹_› e_1 rfl ?_)));refine qW (qQ (qX ‹_› e_1 rfl ?_));have hlt:=O.st5 hg c5;obtain⟨k,hk⟩:∃k:Nat,c.at_=k:=⟨c.at_.toNat,by omega⟩;rw[hk]at hlt ⊢;refine yn (H1.sl e_3) omQ omQ (qJA omQ).1<|qW (qQ (qX ‹_› e_1 rfl ?_));refine qW (qQ (qX ‹_› e_1 rfl ?_));rw[hk];refine yn (H1.sl e_3) omQ omQ (qJA omQ).2<|qL rfl<|qf H2 .here rfl (by show 0+10≤10;omega) rfl λh3 H3=>?_;refine qF H3 .here rfl omQ rfl<|qj ⟨rfl,ComC.I H3.drop⟩
 refine qK c5 ?_;rw[iQ c5];refine qJ ?_;by_cases c6:c.state=6
 ·refine qg c6 ?_;rw[iJ c6];refine qZ (qW (qQ (qX ‹_› e_1 rfl ?_)));refine qW (qQ (qX ‹_› e_1 rfl ?_));have hlt:=O.st6 hg c6;obtain⟨k,hk⟩:∃k:Nat,c.at_=k:=⟨c.at_.toNat,by omega⟩;rw[hk]at hlt ⊢;refine jO (H1.sl e_4) (by rw[List.getElem?_map,gd omQ];rfl)<|qW (qQ (qX ‹_› e_1 rfl ?_));refine xr omQ<|qL rfl<|qL rfl<|qf H2 .here rfl (by show 0+10≤10;omega) rfl λh3 H3=>?_;refine qF H3 .here rfl omQ rfl<|qj ⟨rfl,ComC.I H3.drop⟩
 refine qK c6 ?_;rw[iQ c6];refine qJ (qW (qQ (qX ‹_› e_1 rfl ?_)));refine qW (qQ (qX ‹_› e_1 rfl ?_));have hlt:=O.st7 hg omQ;obtain⟨k,hk⟩:∃k:Nat,c.at_=k:=⟨c.at_.toNat,by omega⟩;rw[hk]at hlt ⊢;refine jO (H1.sl e_4) (by rw[List.getElem?_map,gd omQ];rfl)<|qW (qQ (qX ‹_› e_1 rfl ?_));refine qW (qQ (qX ‹_› e_1 rfl ?_));rw[hk];refine zd (H1.sl e_5) omQ omQ (Od omQ)<|qL rfl<|qf H2 .here rfl (by show 0+10≤10;omega) rfl λh3 H3=>?_;refine qF H3 .here rfl omQ rfl<|qj ⟨rfl,ComC.I H3.drop⟩
theorem qvH {me sp st a w:Int} {v1 v2:AV} {r:List xP} {cs:List Cl} (hn:5≤n) (hr:r.length≤1000) (h0:0<cs.length) (hl:cs.length≤1000) (hc:∀c∈cs,0≤c.1∧c.1<100000)
  (H:HS g h (qy 140 2 r.length v1 (r.flatMap vw)::qy 164 2 cs.length v2 (cs.flatMap jP)::R)) :
  t_w n 172 [.int .i64 me,.int .i64 sp,.int .u64 st,v1,v2,.int .i64 a,.int .i64 w] h λv h'=>∃b,v=.ptr b 0∧HS g h' (ComC b (XL me sp st r cs a w)::R):=by
 refine t_e7 rfl omQ λk hk=>?_;unfold S172;try simp only[iZ]
 refine qG (ZG omQ H) ?_;rintro _ h1 ⟨rfl,H1⟩;refine qG (Gy omQ H1 .here (XT (λ_=>rfl) _) omQ) λu1 h2 H2=>?_;refine qG (qZH omQ H2 e_2 omQ) λu2 h3 H3=>?_;refine qG (qKR omQ H3 (H3.rd e_3) h0 hl hc) λu3 h4 H4=>?_;have o1:=H4.one e_2;have o2:=H4.one e_1;have o3:=H4.one .here;unfold yH;refine qL (by simp only[yM,o1.1,o2.1,o3.1];rfl)<|qP H4 (by simp only[qp,List.all_cons,o1.2,o2.2,o3.2];rfl) λb h5 H5=>?_;have H6:=H5.nils (e:=77) (sz:=3);have H7:HS g h5 (ComC b ⟨JQ me sp,me,st,r,cs,xS cs a w,[],0,0,lk0,0,false,0,0,0⟩::R) :=
  ComC.I (sv:=u1) (cv:=u2) (tv:=u3) (wv:=.nils) (H6.pk [1,3,2,1,0] 2)
 refine qG (qJ6 omQ H7) λ_ h6 H8=>qj ⟨b,rfl,H8⟩
end
end
section
def Yh (a:AnM):Prop:=0≤a.word∧a.word<18446744073709551616
theorem Ql {p:Jf} {a:AnM} (h:(jK p a).1=true):(jK p a).2.fin≠0:=by
 unfold jK at h ⊢
 split
 ·show(4:Int)≠0;decide
 ·rename_i c;rw[iQ c]at h;simpa using h
theorem ZY {p:Jf} {l:LkM} (hp:0≤p.spins∧p.spins≤4) (h:(zY p l).1=true):(zY p l).2.fin=p.fin∧0≤(zY p l).2.spins∧(zY p l).2.spins≤4:=by
 unfold zY at h ⊢
 split
 ·exact⟨rfl,hp⟩
 ·rename_i c;rw[iQ c]at h;have:0≤p.spins-1:=by simpa using h
  refine⟨rfl,?_⟩;show 0≤p.spins-1∧p.spins-1≤4;omega
theorem qK7 {me sp:Int}:UG (JQ me sp):=λ_=>by show 0≤max 0 (min sp 4)∧max 0 (min sp 4)≤4;omega
theorem YN {p:Jf} {f e y:Int} (h:f≠0):UG (zy p f e y):=λhf=>absurd hf h
theorem GJ {f:JV} {a:AnM} (hp:UG f.p):UG (xo f a).p:=by
 unfold xo;cases hs:(jK f.p a).1 with
 |true=>rw[iJ rfl];exact λh=>absurd h (Ql hs)
 |false=>
  rw[iQ osQ];have hg:=(Xi hs).2;unfold XM
  split
  ·exact hp
  ·split
   ·exact YN od
   ·split
    ·split
     ·rename_i hw;exact λ_=>(ZY (hp hg) hw).2
     ·exact YN od
    ·split
     ·exact YN od
     ·exact hp
theorem qvL {me sp:Int} {r:List xP} (hr:r.length≤16):Ul (Vu me sp r):=⟨qK7,Int.le_refl _,by show(0:Int)≤1000;decide,hr,by show(0:Int)≤_;omega,λ_ h=>by cases h⟩
theorem qJo {x:Q5} (hp:UG x.p) (h0:0≤x.at_) (h1:x.at_≤x.seen.length) (hr:x.seen.length≤16):Ul (J4 x):=by
 unfold J4
 split
 ·exact⟨YN od,h0,by show x.at_≤1000;omega,hr,h1,nofun⟩
 ·exact⟨hp,h0,by omega,hr,h1,λ_ _=>by omega⟩
theorem Gx {x:Q5} {a:AnM} (O:Ul x):Ul (yq x a):=by
 unfold yq;cases hs:(jK x.p a).1 with
 |true=>rw[iJ rfl];exact⟨λh=>absurd h (Ql hs),O.lo,O.hi,O.len,O.le,λh=>absurd h (Ql hs)⟩
 |false=>
  rw[iQ osQ];have hg:=(Xi hs).2;have hlo:=O.lo;have hhi:=O.hi;have hlen:=O.len
  split
  ·exact qJo O.p hlo O.le hlen
  ·rename_i hl;have hl:x.loaded=true:=by simpa using hl
   have hin:=O.in_ hg hl
   split
   ·split
    ·rename_i hw;have:=ZY (O.p hg) hw;exact⟨λ_=>this.2,hlo,hhi,hlen,O.le,λ_ _=>hin⟩
    ·exact⟨YN od,hlo,hhi,hlen,O.le,nofun⟩
   ·split
    ·exact⟨YN od,hlo,hhi,hlen,O.le,nofun⟩
    ·exact qJo O.p (by show 0≤x.at_+1;omega) (by show x.at_+1≤(x.seen.length:Int);omega) hlen
section
variable {c:zE}
theorem OZ (r:c.s.Pairwise (· < ·)) (h:zT 1 c.p.spins 6 c.at_ c.now c.fin2 c.seen.length c.cells.length c.s.length c.was.length) (hs:c.state=6) (hp:0≤c.p.spins∧c.p.spins≤4) (ha:c.at_≤c.s.length):xg (vL c):=by
 unfold vL;unfold zT at h
 split
 ·refine⟨r,?_⟩;show zT 2 c.p.spins c.state c.at_ c.now c.fin2 c.seen.length c.cells.length c.s.length c.was.length;unfold zT;omega
 ·refine⟨r,?_⟩;unfold zT;omega
theorem VP (r:c.s.Pairwise (· < ·)) (h:zT 1 c.p.spins 5 c.at_ c.now c.fin2 c.seen.length c.cells.length c.s.length c.was.length) (hs:c.state=5) (hp:0≤c.p.spins∧c.p.spins≤4) (ha:c.at_≤c.cells.length):xg (vv c):=by
 unfold vv;unfold zT at h
 split
 ·refine OZ r ?_ rfl hp (by simp);show zT 1 c.p.spins 6 0 c.now c.fin2 c.seen.length c.cells.length c.s.length c.was.length;unfold zT;omega
 ·refine⟨r,?_⟩;unfold zT;omega
theorem Y6 (r:c.s.Pairwise (· < ·)) (h:zT 1 c.p.spins 4 c.at_ c.now c.fin2 c.seen.length c.cells.length c.s.length c.was.length) (hp:0≤c.p.spins∧c.p.spins≤4):xg (kB c):=by unfold kB;unfold zT at h;refine VP r ?_ rfl hp (by simp);show zT 1 c.p.spins 5 0 c.now c.fin2 c.seen.length c.cells.length c.s.length c.was.length;unfold zT;omega
theorem VL (r:c.s.Pairwise (· < ·)) (h:zT 1 c.p.spins 7 c.at_ c.now c.fin2 c.seen.length c.cells.length c.s.length c.was.length) (hs:c.state=7) (ha:c.at_≤c.was.length):xg (gU c):=by
 unfold gU;unfold zT at h
 split
 ·refine⟨r,?_⟩;show zT c.fin2 c.p.spins c.state c.at_ c.now c.fin2 c.seen.length c.cells.length c.s.length c.was.length;unfold zT;omega
 ·refine⟨r,?_⟩;unfold zT;omega
theorem YC {f e y:Int} (r:c.s.Pairwise (· < ·)) (h:zT 1 c.p.spins c.state c.at_ c.now c.fin2 c.seen.length c.cells.length c.s.length c.was.length) (hf:f≠0):xg (kr c f e y):=by unfold kr;unfold zT at h;refine VL r ?_ rfl (by simp);show zT 1 c.p.spins 7 0 c.now f c.seen.length c.cells.length c.s.length c.was.length;unfold zT;omega
theorem xg.dead (O:xg c):zT 1 c.p.spins c.state c.at_ c.now c.fin2 c.seen.length c.cells.length c.s.length c.was.length:=by have h:=O.ar;unfold zT at h ⊢;omega
theorem Mt {l:LkM} (O:xg c) (hg:c.p.fin=0) (hs:c.state≤6):xg (Qf c l):=by
 unfold Qf;have h:=O.ar
 split
 ·rename_i hw;have:=ZY (O.p hg hs) hw;refine⟨O.rise,?_⟩;show zT (zY c.p l).2.fin (zY c.p l).2.spins c.state c.at_ c.now c.fin2 c.seen.length c.cells.length c.s.length c.was.length;unfold zT at h ⊢;omega
 ·refine YC O.rise ?_ od;show zT 1 (zY c.p l).2.spins c.state c.at_ c.now c.fin2 c.seen.length c.cells.length c.s.length c.was.length;unfold zT at h ⊢;omega
theorem Z8 (r:c.s.Pairwise (· < ·)):∀(m:Nat) (a:Int),zT 1 c.p.spins 4 a c.now c.fin2 c.seen.length c.cells.length c.s.length c.was.length→(0≤c.p.spins∧c.p.spins≤4)→xg (gE { c with state:=4,at_:=a } m):=by
 intro m
 induction m with
 |zero=>intro a h hp;exact Y6 r h hp
 |succ m ih=>
  intro a h hp;unfold gE;dsimp only
  split
  ·rename_i hlt
   split
   ·refine⟨r,?_⟩;show zT c.p.fin c.p.spins 4 a c.now c.fin2 c.seen.length c.cells.length c.s.length c.was.length;unfold zT at h ⊢;omega
   ·split
    ·exact YC r h od
    ·refine ih (a+1) ?_ hp;unfold zT at h ⊢;omega
  ·exact Y6 r h hp
theorem VE (r:c.s.Pairwise (· < ·)) (h:zT 1 c.p.spins 4 c.at_ c.now c.fin2 c.seen.length c.cells.length c.s.length c.was.length) (hp:0≤c.p.spins∧c.p.spins≤4):xg (Jq c):=Z8 r _ c.at_ h hp
set_option maxHeartbeats 4000000 in
theorem Kp {a:AnM} (O:xg c) (ha:Yh a):xg (zH c a):=by
 have h:=O.ar;have hd:=O.dead;unfold zH;cases hs:(jK c.p a).1 with
 |true=>rw[iJ rfl];have hf:=Ql hs;refine⟨O.rise,?_⟩;show zT (jK c.p a).2.fin (jK c.p a).2.spins c.state c.at_ c.now c.fin2 c.seen.length c.cells.length c.s.length c.was.length;unfold zT at h ⊢;omega
 |false=>
  rw[iQ osQ];have hg:=(Xi hs).2;have ha:=ha.1;rw[hg]at h
  split
  ·rename_i hst;unfold ku
   split
   ·exact Mt O hg omQ
   ·split
    ·refine⟨O.rise,?_⟩;show zT c.p.fin c.p.spins 1 c.at_ c.now c.fin2 c.seen.length c.cells.length c.s.length c.was.length;rw[hg];unfold zT at h ⊢;omega
    ·split
     ·unfold Qi;dsimp only;have hl:(c.was++[c.lk]).length=c.was.length+1:=by simp
      split
      ·refine⟨O.rise,?_⟩;show zT c.p.fin c.p.spins 2 c.at_ c.now c.fin2 c.seen.length c.cells.length c.s.length (c.was++[c.lk]).length;rw[hg];unfold zT at h ⊢;omega
      ·refine⟨O.rise,?_⟩;show zT c.p.fin c.p.spins 0 c.at_ c.now c.fin2 c.seen.length c.cells.length c.s.length (c.was++[c.lk]).length;rw[hg];unfold zT at h ⊢;omega
     ·refine⟨O.rise,?_⟩;show zT c.p.fin c.p.spins 0 c.at_ c.now c.fin2 c.seen.length c.cells.length c.s.length c.was.length;rw[hg];unfold zT at h ⊢;omega
  split
  ·unfold wQ
   split
   ·exact YC O.rise hd od
   ·split
    ·refine⟨O.rise,?_⟩;show zT c.p.fin c.p.spins 3 c.at_ a.word c.fin2 c.seen.length c.cells.length c.s.length c.was.length;rw[hg];unfold zT at h ⊢;omega
    ·split
     ·refine⟨O.rise,?_⟩;show zT c.p.fin c.p.spins 2 c.at_ c.now c.fin2 c.seen.length c.cells.length c.s.length c.was.length;rw[hg];unfold zT at h ⊢;omega
     ·have h4:zT 1 c.p.spins 4 c.at_ c.now c.fin2 c.seen.length c.cells.length c.s.length c.was.length:=by unfold zT at h ⊢;omega
      split
      ·exact Y6 O.rise h4 (O.p hg omQ)
      ·exact VE O.rise h4 (O.p hg omQ)
  split
  ·rename_i h4;unfold wU
   split
   ·exact Mt O hg omQ
   ·split
    ·exact YC O.rise hd od
    ·refine VE O.rise ?_ (O.p hg omQ);show zT 1 c.p.spins 4 (c.at_+1) c.now c.fin2 c.seen.length c.cells.length c.s.length c.was.length;unfold zT at h ⊢;omega
  split
  ·rename_i h5;have:=O.st5 hg h5;refine VP O.rise ?_ h5 (O.p hg omQ) (by show c.at_+1≤(c.cells.length:Int);omega);show zT 1 c.p.spins 5 (c.at_+1) c.now c.fin2 c.seen.length c.cells.length c.s.length c.was.length;unfold zT at h ⊢;omega
  split
  ·rename_i h6;have:=O.st6 hg h6;refine OZ O.rise ?_ h6 (O.p hg omQ) (by show c.at_+1≤(c.s.length:Int);omega);show zT 1 c.p.spins 6 (c.at_+1) c.now c.fin2 c.seen.length c.cells.length c.s.length c.was.length;unfold zT at h ⊢;omega
  ·have hst:=O.st;have h7:c.state=7:=by omega
   have:=O.st7 hg h7;refine VL O.rise ?_ h7 (by show c.at_+1≤(c.was.length:Int);omega);show zT 1 c.p.spins 7 (c.at_+1) c.now c.fin2 c.seen.length c.cells.length c.s.length c.was.length;unfold zT at h ⊢;omega
theorem jQU {me sp st a w:Int} {r:List xP} {cs:List Cl} (hr:r.length≤16) (h0:0<cs.length) (hl:cs.length≤1000) (hc:∀c∈cs,0≤c.1):xg (XL me sp st r cs a w):=by
 have h1:(xS cs a w).length≤16:=by unfold xS;exact Nat.le_trans (List.length_filter_le ..) osQ
 have h2:0<(xS cs a w).length:=by obtain⟨c,hcm⟩:=List.exists_mem_of_length_pos h0;exact List.length_pos_of_mem ((Xn hc).2 (List.mem_map.2 ⟨c,hcm,rfl⟩))
 unfold XL Qi;rw[iQ (by show¬(0:Nat)=(xS cs a w).length;omega)];refine⟨Ja,?_⟩;show zT 0 (max 0 (min sp 4)) 0 0 0 0 r.length cs.length (xS cs a w).length 0;unfold zT;omega
end
end
section
theorem qj4 {l:List qR} (F:Fit l) (Q:Quiet l):∀(n:Nat) {s:IM} {V:VM},GI l s V→frS V.lv+n<9000→(jL l (qO l) n s V).kind=1→frS (jL l (qO l) n s V).v.lv+(jL l (qO l) n s V).left≤frS V.lv+n:=by
 intro n
 induction n with
 |zero=>
  intro s V G hf;rw[gc]
  split<;>(intro h;cases h)
 |succ n ih=>
  intro s V G hf;rw[ww]
  split
  ·intro h;cases h
  ·rename_i h0;obtain⟨i,hi,hil⟩:=G.pc;have hlt:i<l.length:=by omega
   rw[hi];have S:=Jt F G hi hlt omQ (Q.at hlt).2 (Q.at hlt).1;generalize doM (qO l) s V (qS l i)=D at*
   split
   ·rename_i h1
    split
    ·intro h;cases h
    ·rename_i h2;have hfr:=S.fr;intro h;have:=ih (S.next h1 (by simpa using h2)) omQ h;omega
   ·split
    ·rename_i h11;obtain⟨n1,n2,_⟩:=S.need h11;intro _;show frS D.v.lv+(n+1)≤_;rw[n2];omega
    ·intro h;cases h
theorem qzS {l:List qR} {mt:List Int}:∀(n:Nat) {s:IM} {V:VM},(jL l mt n s V).kind=1→(jL l mt n s V).err=0:=by
 intro n
 induction n with
 |zero=>intro s V;rw[gc];split<;>(intro h;cases h)
 |succ n ih=>
  intro s V;rw[ww];generalize doM mt s V (qS l s.pc)=D
  split
  ·intro h;cases h
  ·split
   ·split
    ·intro h;cases h
    ·exact ih
   ·split
    ·intro _;rfl
    ·intro h;cases h
theorem qq4 {V:VM} {p x:Int} (h1:1≤p) (h2:p<V.sz) (h3:zg p V.K=none):xW V p x=(0,{ V with K:=V.K++[(p,x)] }):=by unfold xW;rw[iJ ⟨h1,h2⟩,h3]
theorem qvP {l:List qR} {s:IM} {V:VM} {p x:Int} (G:GI l s V) (hx:0≤x∧x<18446744073709551616):GI l s (xW V p x).2:=by
 have hl:(xW V p x).2.lv=V.lv:=by
  unfold xW
  repeat' split
  all_goals rfl
 refine⟨G.gb,G.pc,G.pts,G.told,G.stk,by rw[hl];exact G.lv,⟨MB G.good.ok,?_⟩⟩;unfold xW
 split
 ·split
  ·exact G.good.wd
  ·refine⟨λc hc=>?_,G.good.wd.l⟩;rcases List.mem_append.1 hc with hc |hc
   ·exact G.good.wd.k c hc
   ·rw[List.mem_singleton]at hc;subst hc;exact hx
 ·exact G.good.wd
theorem jQL {V:VM} (O:OkV V):V.K.length≤V.sz-1:=by
 have hu:(V.K.map (·.1)).Nodup:=O.un
 have h:=GS (V.sz-1) ((V.K.map (·.1)).map λz:Int=>z-1) (by
  rw[List.Nodup,List.pairwise_map]
  exact hu.imp λ{a b} hab=>by omega) (by
  intro a ha;obtain⟨z,hz,rfl⟩:=List.mem_map.1 ha;obtain⟨c,hc,rfl⟩:=List.mem_map.1 hz;have h1:=O.ins c hc
  omega)
 simpa using h
theorem qxD {l:List qR} {mt:List Int}:∀(n:Nat) {s:IM} {V:VM},(jL l mt n s V).left≤n:=by
 intro n
 induction n with
 |zero=>intro s V;rw[gc];split<;>exact Nat.le_refl _
 |succ n ih=>
  intro s V;rw[ww];generalize doM mt s V (qS l s.pc)=D
  split
  ·exact Nat.le_refl _
  ·split
   ·split
    ·exact Nat.le_succ n
    ·exact Nat.le_trans ih (Nat.le_succ n)
   ·split<;>exact Nat.le_refl _
end
section
structure yX (S:zv):Prop where
  words:32≤S.words∧S.words≤256
  stripes:1≤S.stripes∧S.stripes≤16
  wide:1≤S.wide∧S.wide≤16
  threads:1≤S.threads∧S.threads≤4
  start:0≤S.start∧S.start≤4611686018427387903
  spins:0≤S.spins∧S.spins≤4
  writes:0≤S.writes∧S.writes≤96
  fuel:0≤S.fuel∧S.fuel≤400
theorem Je {n lo hi:Int} (h:lo≤hi):lo≤wI n lo hi∧wI n lo hi≤hi:=by unfold wI;omega
theorem xn {n lo hi:Int} (h:lo≤n∧n≤hi):wI n lo hi=n:=by unfold wI;omega
theorem yi {s:zv} (h:0≤s.start):yX (jq s) :=
 ⟨Je omQ,Je omQ,Je omQ,Je omQ,by show 0≤min s.start 4611686018427387903∧min s.start 4611686018427387903≤4611686018427387903;omega,Je omQ,Je omQ,Je omQ⟩
theorem Qx {S:zv} (O:yX S):jq S=S:=by obtain⟨a,b,c,d,e,f,g,i⟩:=O;obtain⟨w,s,wi,t,st,sp,wr,fu⟩:=S;unfold jq;dsimp only at*;rw[xn a,xn b,xn c,xn d,xn f,xn g,xn i,show min st 4611686018427387903=st by omega]
theorem Ka {M:VM} {b:Int} (h:(zj M b).1=11):J5 M (zj M b).2:=by
 have ha:=qg8 M b;unfold zj at h ⊢
 split
 ·rename_i h1;rw[iJ h1]at h;have e:=ha.2 h1
  split
  ·rename_i h2;rw[iJ h2]at h;cases h
  ·rename_i h2;rw[iQ h2]at h
   split
   ·rename_i h3;rw[iJ h3]at h;exact(Gu h).elim
   ·rename_i h3;rw[iQ h3]at h;rw[e]at h ⊢;exact QK h
 ·rename_i h1;rw[iQ h1]at h;exact qJh h
theorem KB {M:VM} {b:Int} (O:OkV M):J0 M (zj M b).2:=by
 have ha:=qQL M b;unfold zj
 repeat' split
 ·exact ha
 ·exact(ha.trans (xF _ _)).trans (gI (yJ (Yk O)))
 ·exact ha.trans (xF _ _)
 ·exact ha
theorem Kv:∀(bs:List Int) (k:Nat) {V:VM},jI V→jI (jR V bs k).2∧J0 V (jR V bs k).2∧frS (jR V bs k).2.lv=frS V.lv∧(jR V bs k).1.1≤k+bs.length∧
  ((jR V bs k).1.2=11→1≤(jR V bs k).2.need∧(jR V bs k).2.need<V.sz∧zg (jR V bs k).2.need V.K=none):=by
 intro bs
 induction bs with
 |nil=>intro k V G;exact⟨G,.refl V,rfl,Nat.le_refl _,nofun⟩
 |cons b r ih=>
  intro k V G;have hg:=G.give (b:=b);have hk:=KB (b:=b) G.ok;by_cases h0:(zj V b).1=0
  ·rw[show jR V (b::r) k=jR (zj V b).2 r (k+1)from iJ h0];obtain⟨a1,a2,a3,a4,a5⟩:=ih (k+1) hg.1;refine⟨a1,hk.trans a2,a3.trans hg.2,by rw[List.length_cons];omega,λh=>?_⟩;have:=a5 h;rw[hk.sz,hk.K]at this;exact this
  ·rw[show jR V (b::r) k=((k,(zj V b).1),(zj V b).2)from iQ h0];exact⟨hg.1,hk,hg.2,by dsimp only;omega,λh=>(Ka h).2⟩
def JobOk (live:Prop) (V:VM):Jw→Prop
 | .prog q=>Fit q.l∧Quiet q.l∧GB q.s∧(live→GI q.l q.s V∧q.fin=0∧q.err=0∧frS V.lv+q.left<9000)∧q.left≤400
 | .sweep bs k=>k≤bs.length∧bs.length≤100000
theorem JobOk.dead {live live':Prop} {V V':VM} {j:Jw} (O:JobOk live V j) (h:¬live'):JobOk live' V' j:=by
 cases j with
 |prog q=>exact⟨O.1,O.2.1,O.2.2.1,λh'=>absurd h' h,O.2.2.2.2⟩
 |sweep bs k=>exact O
theorem JobOk.same {live live':Prop} {V:VM} {j:Jw} (O:JobOk live V j) (h:live'→live):JobOk live' V j:=by
 cases j with
 |prog q=>exact⟨O.1,O.2.1,O.2.2.1,λh'=>O.2.2.2.1 (h h'),O.2.2.2.2⟩
 |sweep bs k=>exact O
structure zm (x:jG):Prop where
  set:yX x.set
  good:jI x.v
  sz:(x.v.sz:Int)=x.set.words
  fr:frS x.v.lv<9000
  r:x.r.length≤16
  job:JobOk (x.state≤4) x.v x.job
  st:0≤x.state∧x.state≤8
  f:x.state=3→UG x.f.p∧0≤x.f.word∧x.f.word<18446744073709551616
  need:3≤x.state→x.state≤4→1≤x.v.need∧x.v.need<x.v.sz∧zg x.v.need x.v.K=none
  e:4≤x.state→x.state≤5→Ul x.e
  c:∀c,x.c=some c→xg c
  c0:x.state≤5→x.c=none
  c6:x.state=6→x.c≠none
structure DoneK (x:jG) (k:Int) (y:jG):Prop where
  good:jI y.v
  kept:y.v.sz=x.v.sz∧y.v.K=x.v.K∧y.v.most=x.v.most
  fr:frS y.v.lv<9000
  job:JobOk (k=1) y.v y.job
  need:k=1→1≤y.v.need∧y.v.need<x.v.sz∧zg y.v.need x.v.K=none
  same:y.me=x.me∧y.set=x.set∧y.r=x.r∧y.stamp=x.stamp∧y.c=x.c
theorem Ud {x:jG} (hg:jI x.v) (hf:frS x.v.lv<9000) (hj:JobOk True x.v x.job):DoneK x (y8 x).1.1 (y8 x).2:=by
 unfold y8;cases hx:x.job with
 |prog q=>
  rw[hx]at hj;obtain⟨F,Q,gb,h,hl⟩:=hj;obtain⟨G,h0,h1,h2⟩:=h trivial;obtain⟨RB,rfr,_,rn,_⟩:=Yu F Q q.left G h2;refine⟨RB.good,⟨RB.sz,RB.K,RB.most⟩,by dsimp only;omega,⟨F,Q,RB.gb,λhk=>?_,?_⟩,λhk=>?_,⟨rfl,rfl,rfl,rfl,rfl⟩⟩
  ·have hr:=qj4 F Q q.left G h2 hk;exact⟨(rn hk).1,iJ hk,qzS _ hk,by dsimp only;omega⟩
  ·have hr:=qxD (l:=q.l) (mt:=qO q.l) q.left (s:=q.s) (V:=x.v);dsimp only;omega
  ·exact(rn hk).2
 |sweep bs k=>
  rw[hx]at hj;obtain⟨a1,a2,a3,a4,a5⟩:=Kv (bs.drop k) k hg;dsimp only;refine⟨a1,⟨a2.sz,a2.K,a2.most⟩,by dsimp only;omega,⟨by rw[List.length_drop]at a4;have:=hj.1;omega,hj.2⟩,λh=>?_,⟨rfl,rfl,rfl,rfl,rfl⟩⟩
  ·refine a5 ?_
   split at h
   ·assumption
   ·split at h<;>cases h
structure kU (x:jG):Prop where
  set:yX x.set
  good:jI x.v
  sz:(x.v.sz:Int)=x.set.words
  fr:frS x.v.lv<9000
  r:x.r.length≤16
  job:JobOk False x.v x.job
  c:∀c,x.c=some c→xg c
theorem zm.b {x:jG} (O:zm x):kU x:=⟨O.set,O.good,O.sz,O.fr,O.r,O.job.dead not_false,O.c⟩
theorem kU.out {x:jG} (B:kU x) {f e y:Int}:zm (xd x f e y) :=
 ⟨B.set,B.good,B.sz,B.fr,B.r,B.job.dead (by show¬(7:Int)≤4;decide),by show(0:Int)≤7∧(7:Int)≤8;decide,λh=>(by cases h),λ_ h=>(by cases h),λ_ h=>(by cases h),B.c,λh=>(by cases h),nofun⟩
theorem kU.gone {x:jG} (B:kU x) {f e y:Int}:zm { xd x f e y with state:=8 } :=
 ⟨B.set,B.good,B.sz,B.fr,B.r,B.job.dead (by simp),by show(0:Int)≤8∧(8:Int)≤8;decide,λh=>(by cases h),λ_ h=>(by cases h),λ_ h=>(by cases h),B.c,λh=>(by cases h),nofun⟩
theorem kU.ask {x:jG} (B:kU x) (hj:JobOk True x.v x.job) (hn:1≤x.v.need∧x.v.need<x.v.sz∧zg x.v.need x.v.K=none) (hc:x.c=none):zm (Jc x x.v.need) :=
 ⟨B.set,B.good,B.sz,B.fr,B.r,hj.same λ_=>trivial,by show(0:Int)≤3∧(3:Int)≤8;decide,λ_=>⟨qK7,by show(0:Int)≤0;decide,by show(0:Int)<_;decide⟩,λ_ _=>hn,λh=>absurd h (by show¬(4:Int)≤3;decide),B.c,λ_=>hc,nofun⟩
theorem kU.later {x:jG} (B:kU x) (hc:x.c=none) {s:Int} (hs:s=4∨s=5) (hj:s=4→JobOk True x.v x.job∧1≤x.v.need∧x.v.need<x.v.sz∧zg x.v.need x.v.K=none):zm (y7 x s):=by
 refine⟨B.set,B.good,B.sz,B.fr,B.r,?_,by show 0≤s∧s≤8;omega,λh=>?_,λ_ h=>(hj ?_).2,λ_ _=>qvL B.r,B.c,λ_=>hc,λh=>?_⟩
 ·show JobOk (s≤4) x.v x.job;rcases hs with rfl |rfl
  ·exact(hj rfl).1.same λ_=>trivial
  ·exact B.job.dead od
 ·have h:s=3:=h;omega
 ·have h:s≤4:=h;omega
 ·have h:s=6:=h;omega
theorem U9 {V:VM} (O:OkV V):(jZ V.lv).length≤96∧∀c∈jZ V.lv,1≤c.1∧c.1<256:=by have h1:=Jd V.lv [];have h2:=O.lvs.held;have h3:=O.lvs.le;refine⟨by simp at h1;unfold jZ;omega,?_⟩;exact Mh V.lv [] (λc hc=>by cases hc) O.lvs.ins
theorem kU.work {x:jG} (B:kU x) (hj:JobOk True x.v x.job) (hc:x.c=none):zm (yW x):=by
 have D:=Ud B.good B.fr hj;unfold yW;generalize(y8 x).1.1=k at*;generalize(y8 x).1.2=e at*;generalize(y8 x).2=y at*;obtain⟨e1,e2,e3,e4,e5⟩:=D.same;have hyc:y.c=none:=by rw[e5,hc]
 have B':kU y:=⟨by rw[e2];exact B.set,D.good,by rw[D.kept.1,e2];exact B.sz,D.fr,by rw[e3];exact B.r,D.job.same λh=>h.elim,λc h=>by rw[hyc]at h;cases h⟩;unfold gY
 split
 ·rename_i h1;exact B'.ask (D.job.same λ_=>h1) (by have:=D.need h1;rw[D.kept.1,D.kept.2.1];exact this) hyc
 ·split
  ·exact kU.later (x:={ y with blocking:=true }) ⟨B'.set,B'.good,B'.sz,B'.fr,B'.r,B'.job,B'.c⟩ hyc (.inr rfl) nofun
  ·split
   ·exact B'.out
   ·split
    ·exact B'.out
    ·rename_i hm;have hmo:=U9 D.good.ok;refine⟨B'.set,B'.good,B'.sz,B'.fr,B'.r,B'.job.dead (by simp),by show(0:Int)≤6∧(6:Int)≤8;decide,λh=>(by cases h),λ_ h=>(by cases h),λ_ h=>(by cases h),λc h=>?_,λh=>(by cases h),λ_ h=>by cases h⟩;cases h;exact jQU B'.r (List.length_pos_iff.2 hm) omQ λc hc=>by have:=hmo.2 c hc;omega
theorem KQ {r:List xP} {x:xP} (h:r.length≤16):(kE r x).2.length≤16:=by
 unfold kE
 split
 ·exact h
 ·split
  ·split<;>exact h
  ·split
   ·exact h
   ·rw[List.length_append,List.length_singleton];omega
theorem kX {V:VM} {p x:Int}:(xW V p x).2.lv=V.lv∧(xW V p x).2.sz=V.sz:=by
 unfold xW
 repeat' split
 all_goals exact⟨rfl,rfl⟩
theorem X7 {V:VM} {p x:Int} (G:jI V) (hx:0≤x∧x<18446744073709551616):jI (xW V p x).2:=by
 refine⟨MB G.ok,?_⟩;unfold xW
 split
 ·split
  ·exact G.wd
  ·refine⟨λc hc=>?_,G.wd.l⟩;rcases List.mem_append.1 hc with hc |hc
   ·exact G.wd.k c hc
   ·rw[List.mem_singleton]at hc;subst hc;exact hx
 ·exact G.wd
theorem JobOk.know {V:VM} {j:Jw} {p x:Int} (O:JobOk True V j) (hx:0≤x∧x<18446744073709551616):JobOk True (xW V p x).2 j:=by
 cases j with
 |prog q=>exact⟨O.1,O.2.1,O.2.2.1,λ_=>⟨qvP (O.2.2.2.1 trivial).1 hx,(O.2.2.2.1 trivial).2.1,(O.2.2.2.1 trivial).2.2.1,by rw[kX.1];exact(O.2.2.2.1 trivial).2.2.2⟩,O.2.2.2.2⟩
 |sweep bs k=>exact O
theorem Kd {f:JV} (h:0≤f.word∧f.word<18446744073709551616):0≤yP f∧yP f<18446744073709551616:=by
 unfold yP
 split
 ·omega
 ·exact h
theorem Kn {f:JV} {a:AnM} (h:0≤f.word∧f.word<18446744073709551616) (ha:Yh a):0≤(xo f a).word∧(xo f a).word<18446744073709551616:=by
 unfold xo XM
 repeat' split
 all_goals first |exact h |exact ha
theorem kU.fetched {x:jG} (B:kU x) (hj:JobOk True x.v x.job) (hn:1≤x.v.need∧x.v.need<x.v.sz∧zg x.v.need x.v.K=none) (hc:x.c=none) (hw:0≤x.f.word∧x.f.word<18446744073709551616):zm (yL x):=by
 unfold yL
 split
 ·exact B.later hc (.inl rfl) λ_=>⟨hj,hn⟩
 ·have hx:=Kd hw
  split
  ·refine kU.work ?_ (hj.know hx) hc;exact⟨B.set,X7 B.good hx,by rw[kX.2];exact B.sz,by rw[kX.1];exact B.fr,KQ B.r,(hj.know hx).same λh=>h.elim,B.c⟩
  ·split<;>exact B.out
theorem ML {x:jG} (O:zm x):zm (xz x):=by
 unfold xz
 split
 ·split
  ·exact⟨O.set,O.good,O.sz,O.fr,O.r,O.job,O.st,O.f,O.need,O.e,O.c,O.c0,O.c6⟩
  ·exact O
 ·exact O
theorem Z0 {x:jG} (O:zm x) (h3:3≤x.state) (h6:x.state≤6):zm (yA x):=by
 unfold yA
 split
 ·rename_i hs;exact O.b.fetched (O.job.same λ_=>by omega) (O.need omQ omQ) (O.c0 omQ) (O.f hs).2
 ·split
  ·rename_i hs;exact kU.ask ⟨O.set,O.good,O.sz,O.fr,O.r,O.job.dead not_false,O.c⟩ (O.job.same λ_=>by omega) (O.need omQ omQ) (O.c0 omQ)
  ·split
   ·exact kU.out (x:={ x with stamp:=wZ x.e }) ⟨O.set,O.good,O.sz,O.fr,O.r,O.job.dead not_false,O.c⟩
   ·split
    ·exact O.b.out
    ·rename_i hc;exact absurd hc (O.c6 omQ)
def vk (x:jG):jG:=if(xI x).1=0 then x else if(xI x).1=5 then xd x 5 0 (xI x).2 else yA x
theorem OY {x:jG} (O:zm x) (h3:3≤x.state) (h6:x.state≤6):zm (vk x):=by
 unfold vk
 split
 ·exact O
 ·split
  ·exact O.b.out
  ·exact Z0 O h3 h6
theorem GC {x:jG} (O:zm x) (h3:3≤x.state) (h6:x.state≤6):zm (xu x):=ML (OY O h3 h6)
theorem Kh {x:jG} {a:AnM} (O:zm x) (ha:Yh a):zm (jU x a):=by
 have hst:=O.st;unfold jU
 split
 ·exact O
 ·split
  ·exact O.b.gone
  ·split
   ·exact⟨O.set,O.good,O.sz,O.fr,O.r,O.job.same λ_=>by omega,by show(0:Int)≤1∧(1:Int)≤8;decide,λh=>(by cases h),λh=>absurd h (by show¬(3:Int)≤1;decide),λh=>absurd h (by show¬(4:Int)≤1;decide),O.c,λ_=>O.c0 omQ,nofun⟩
   ·split
    ·exact⟨O.set,O.good,O.sz,O.fr,O.r,O.job.same λ_=>by omega,by show(0:Int)≤2∧(2:Int)≤8;decide,λh=>(by cases h),λh=>absurd h (by show¬(3:Int)≤2;decide),λh=>absurd h (by show¬(4:Int)≤2;decide),O.c,λ_=>O.c0 omQ,nofun⟩
    ·split
     ·exact O.b.work (O.job.same λ_=>by omega) (O.c0 omQ)
     ·split
      ·exact⟨O.set,O.good,O.sz,O.fr,O.r,O.job.dead (by show¬(8:Int)≤4;decide),by show(0:Int)≤8∧(8:Int)≤8;decide,λh=>(by cases h),λ_ h=>(by cases h),λ_ h=>(by cases h),O.c,λh=>(by cases h),nofun⟩
      ·split
       ·rename_i hs;have hf:=O.f hs;refine GC ?_ (by show 3≤x.state;omega) (by show x.state≤6;omega);exact⟨O.set,O.good,O.sz,O.fr,O.r,O.job,O.st,λ_=>⟨GJ hf.1,Kn hf.2 ha⟩,O.need,O.e,O.c,O.c0,O.c6⟩
       ·split
        ·rename_i hs;refine GC ?_ (by show 3≤x.state;omega) (by show x.state≤6;omega);refine⟨O.set,O.good,O.sz,O.fr,O.r,O.job,O.st,O.f,O.need,O.e,λc h=>?_,λh=>absurd h (by show¬x.state≤5;omega),λh hn=>O.c6 h ?_⟩
         ·obtain⟨c',h1,rfl⟩:=Option.map_eq_some_iff.1 h;exact Kp (O.c c' h1) ha
         ·exact Option.map_eq_none_iff.1 hn
        ·refine GC ?_ (by show 3≤x.state;omega) (by show x.state≤6;omega);exact⟨O.set,O.good,O.sz,O.fr,O.r,O.job,O.st,O.f,O.need,λh1 h2=>Gx (O.e h1 h2),O.c,O.c0,O.c6⟩
theorem YA (w m:Int):jI (w7 w m):=⟨qvS w m,λc hc=>(by cases hc),λx hx c hc=>by
 rcases List.mem_cons.1 hx with rfl |hx
 ·cases hc
 ·cases hx⟩
theorem ZC {me:Int} {S:zv} {j:Jw} (O:yX S) (hj:JobOk True (w7 S.words S.writes) j):zm (GK me S j):=by have:=O.words;refine⟨O,YA _ _,?_,by show(0:Nat)<9000;decide,Nat.zero_le _,hj.same λ_=>trivial,by show(0:Int)≤0∧(0:Int)≤8;decide,λh=>(by cases h),λh=>absurd h (by show¬(3:Int)≤0;decide),λh=>absurd h (by show¬(4:Int)≤0;decide),λc h=>(by cases h),λ_=>rfl,nofun⟩;show((szZ S.words:Nat):Int)=S.words;unfold szZ;omega
theorem GY {me:Int} {S:zv} {l:List qR} (hs:0≤S.start) (hc:(zb l).2=0) (Q:Quiet l):zm (yY me S l):=by
 have O:=yi hs;refine ZC O ?_;have G:=YA (jq S).words (jq S).writes;have hf:jj (jq S).fuel≤400:=by unfold jj;omega
 exact⟨gu hc,Q,(wY (l:=l) rfl G).gb,λ_=>⟨wY rfl G,rfl,rfl,by show(0:Nat)+jj (jq S).fuel<9000;omega⟩,hf⟩
theorem qQ8 {me:Int} {S:zv} {bs:List Int} (hs:0≤S.start) (hl:bs.length≤100000):zm (yr me S bs):=ZC (yi hs) ⟨Nat.zero_le _,hl⟩
end
section
structure Uw where
  thread:Int
  job:Int
  try_:Int
  sweep:Bool
  kind:Int
  err:Int
  begin_:Int
  stamp:Int
  born:Int
  ended:Int
  reads:List Cl
  cells:List Cl
  frees:List Int
  slate:List UInt8
structure YR where
  kind:Int
  err:Int
  slate:List UInt8
  stamp:Int
abbrev GN:Type:=Int×Int
structure qo where
  me:Int
  set:zv
  jobs:List (List qR)
  job:Int
  state:Int
  sweep:Bool
  giving:List GN
  tries:Int
  conf:Int
  now:Option jG
  born:Int
  alarm:Bool
  past:List Uw
  results:List YR
  rests:List GN
  slots:List Int
  by_:Int
  since:Int
  yielding:Bool
  pauses:Int
def xp (x:jG):Int:=if x.state≠8 then 0 else x.err
def QP (x:jG):Int:=if x.state≠8 then-1 else x.by_
def vA (x:jG):Bool:=decide (x.state≠8)&&x.blocking
def zV (t:qo):qo :=
 if t.job=(t.jobs.length:Int)then{ t with born:=0,alarm:=false,state:=6,now:=none }
 else{ t with born:=0,alarm:=false,state:=1,now:=some (if t.sweep=true then yr t.me t.set (t.giving.map (·.1))else yY t.me t.set ((t.jobs[t.job.toNat]?).getD [])) }
def jc (t:qo):qo:=zV { t with job:=t.job+1,sweep:=false,giving:=[],tries:=0,conf:=0 }
def Xq (me:Int) (s:zv) (jobs:List (List qR)):qo :=
 jc ⟨max 0 (min me ((jq s).threads-1)),jq s,jobs.take 6,-1,0,false,[],0,0,none,0,false,[],[],[],[],0,0,false,0⟩
def xL (t:qo):Option OpM:=if t.state=1 then t.now.bind xA else if t.state=2 then some (op0 8 t.by_ 0)else if t.state=5 then some (op0 8 t.slots.length 0)else none
def jb (t:qo) (x:jG) (pick:Int):Uw :=
 ⟨t.me,t.job,t.tries,t.sweep,if zh x=true then 2 else jS x,xp x,x.begin_,x.stamp,t.born,pick,x.v.K,Gp x,zP x,zR x⟩
def vp (conf:Int):Int:=if conf≤0 then 1 else if conf=1 then 2 else if conf=2 then 4 else 8
def xl (t:qo) (draw:Int):qo :=
 if draw%(vp t.conf+1)=0 then zV { t with pauses:=0,state:=3 }else{ t with pauses:=draw%(vp t.conf+1),state:=3 }
def q8 (slots:List Int) (stamp:Int):Bool:=slots.all λx=>decide (x=0∨stamp<x)
def xJ (t:qo):qo :=
 if(t.slots.length:Int)<t.set.threads then t
 else if(t.rests.filter λr=>q8 t.slots r.2)=[]then jc { t with rests:=t.rests.filter λr=>!q8 t.slots r.2 }
 else zV { t with rests:=t.rests.filter (λr=>!q8 t.slots r.2),sweep:=true,giving:=t.rests.filter (λr=>q8 t.slots r.2),tries:=0,conf:=0 }
def xT (t:qo):qo:=xJ (if(t.slots.length:Int)=t.me then{ t with slots:=t.slots++[0] }else t)
def yj (t:qo):qo:=if t.rests=[]then jc t else xT { t with state:=5,slots:=[] }
def vZ (t:qo) (fin:Int):qo:=jc (if fin=4 then{ t with rests:=t.rests++t.giving }else t)
def zk (t:qo) (x:jG) (draw pick:Int):qo :=
 let u:={ t with past:=t.past++[jb t x pick],tries:=t.tries+1 }
 if jS x=5 then
  (if 0≤QP x∧QP x<t.set.threads then{ u with conf:=u.conf+1,state:=2,by_:=QP x,yielding:=false }else xl { u with conf:=u.conf+1 } draw)
 else if jS x=3 then(if u.alarm=true then zV u else{ u with state:=4 })
 else if u.sweep=true then vZ u (jS x)
 else yj { u with results:=u.results++[⟨jS x,xp x,zR x,x.stamp⟩],rests:=u.rests++(zP x).map λb=>(b,x.stamp) }
def gr (t:qo) (x y:jG) (draw pick:Int):qo :=
 let u:={ t with now:=some y,born:=if y.begun=true∧x.begun=false then pick else t.born }
 if jS y=0 then u else zk u y draw pick
def zB (t:qo) (a:AnM) (draw pick:Int):qo :=
 if t.state=1 then(match t.now with
  |none=>t
  |some x=>gr t x (jU x a) draw pick)
 else if t.state=2 then(if a.err=0∧a.word≠0∧(t.yielding=false∨a.word=t.since)then{ t with yielding:=true,since:=a.word }else xl t draw)
 else if t.state=5 then xT { t with slots:=t.slots++[if a.err≠0 then 0 else a.word] }
 else t
def vV (t:qo):qo:=if t.state=3 then(if t.pauses-1=0 then zV { t with pauses:=0 }else{ t with pauses:=t.pauses-1 })else t
def vN (r:List xP) (stripe ver:Int):Bool:=r.any λx=>decide (x.1=stripe∧x.2≠ver)
def xN (t:qo) (stripe ver:Int):qo:=match t.now with
 |none=>t
 |some x=>
  if vN x.r stripe ver=true then(if t.state=4 then zV t else if t.state=1∧vA x=true then{ t with alarm:=true }else t)
  else t
structure wb where
  s:zv
  m:jC
  t:List qo
  picks:Int
  last:OpM
  did:Bool
def wk (S:zv):jC:=⟨List.replicate S.words.toNat 0,List.replicate S.stripes.toNat lk0,S.start,List.replicate S.threads.toNat 0,0⟩
def JG (s:zv) (jobs:List (List (List qR))):wb :=
 let S:=jq { s with threads:=(jobs.take 4).length }
 ⟨S,(jw (wk S) (op0 2 5 14)).2,(List.range S.threads.toNat).map λi:Nat=>Xq i S (((jobs.take 4)[i]?).getD []),0,op0 0 0 0,false⟩
def yO (ts:List qo) (i:Nat) (stripe ver:Int):List qo:=ts.mapIdx λk t=>if k=i then t else xN t stripe ver
def gG (m:wb) (i:Nat) (draw:Int):wb:=match m.t[i]? with
 |none=>m
 |some t=>match xL t with
  |none=>{ m with picks:=m.picks+1,last:=op0 0 0 0,did:=false,t:=m.t.set i (vV t) }
  |some o=>
   let r:=jw m.m o
   let ts:=m.t.set i (zB t r.1 draw (m.picks+1))
   { m with picks:=m.picks+1,last:=o,did:=true,m:=r.2,t:=if o.kind=5 then yO ts i o.at_ o.lk.1 else ts }
def JL (m:wb):Bool:=m.t.all λt=>decide (t.state=6∨t.state=4)
end
end Go.Proofs.YtbiljkdgeekpbacGreatDoor
