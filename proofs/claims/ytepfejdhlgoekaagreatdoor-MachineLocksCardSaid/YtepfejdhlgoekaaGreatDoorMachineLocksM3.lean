/- Lemmas for 'quietus/quietuslaw28.MachineLocks': Transactions step by step: plain, as the program has them;The memory: by the program;Patience, a fetch: by the program;The memorys operations: by the ... No condition. -/
import Derived.Test.YtepfejdhlgoekaaGreatDoorMachineLocksM2
import Derived.Test.YtepfejdhlgoekaaGreatDoorMachineLocksX
namespace Go.Proofs.YtepfejdhlgoekaaGreatDoor
open Go Go.Ae
set_option maxRecDepth 100000
section
abbrev LkM:Type:=Int×Bool×Int
structure OpM where
  kind:Int
  at_:Int
  old:Int
  word:Int
  was:LkM
  lk:LkM
structure AnM where
  word:Int
  lk:LkM
  done:Bool
  err:Int
structure zJ where
  w:List Int
  l:List LkM
  n:Int
  s:List Int
  cnt:Int
def lk0:LkM:=(0,false,0)
def op0 (kind at_ word:Int):OpM:=⟨kind,at_,0,word,lk0,lk0⟩
def an0:AnM:=⟨0,lk0,false,0⟩
def anE (e:Int):AnM:=⟨0,lk0,false,e⟩
def kj (l:LkM):Prop:=l.1<4611686018427387904∧(if l.2.1=true then 0≤l.2.2∧l.2.2<4 else l.2.2=0)
instance {l:LkM}:Decidable (kj l):=by unfold kj;infer_instance
def jF (l:List LkM) (i:Int):LkM:=(l[i.toNat]?).getD lk0
def UF (m:zJ) (o:OpM):AnM×zJ :=
 if o.at_<1∨(m.w.length:Int)≤o.at_ then(anE 2,m)else if o.kind=1 then(⟨qM m.w o.at_,lk0,false,0⟩,m)else(an0,{ m with w:=m.w.set o.at_.toNat o.word })
def Y1 (m:zJ) (o:OpM):AnM×zJ :=
 if o.at_<0∨(m.l.length:Int)≤o.at_ then(anE 2,m)
 else if o.kind=3 then(⟨0,jF m.l o.at_,false,0⟩,m)
 else if¬kj o.lk then(anE 1,m)
 else if o.kind=5 then(an0,{ m with l:=m.l.set o.at_.toNat o.lk })
 else if jF m.l o.at_≠o.was then(an0,m)
 else(⟨0,lk0,true,0⟩,{ m with l:=m.l.set o.at_.toNat o.lk })
def Jy (m:zJ) (o:OpM):AnM×zJ :=
 if o.kind=6 then(⟨m.n,lk0,false,0⟩,m)
 else if o.word≤o.old then(anE 1,m)
 else if 4611686018427387904≤o.word then(anE 7,m)
 else if m.n≠o.old then(an0,m)
 else(⟨0,lk0,true,0⟩,{ m with n:=o.word })
def Zj (m:zJ) (o:OpM):AnM×zJ :=
 if o.at_<0∨(m.s.length:Int)≤o.at_ then(anE 2,m)else if o.kind=8 then(⟨qM m.s o.at_,lk0,false,0⟩,m)else(an0,{ m with s:=m.s.set o.at_.toNat o.word })
def jg (m:zJ) (o:OpM):AnM×zJ :=
 let r:=if o.kind=1∨o.kind=2 then UF m o else if o.kind=3∨o.kind=4∨o.kind=5 then Y1 m o else if o.kind=6∨o.kind=7 then Jy m o else if o.kind=8∨o.kind=9 then Zj m o else(anE 1,m)
 if r.1.err=0 then(r.1,{ r.2 with cnt:=r.2.cnt+1 })else r
def ofM (at_ n wide:Int):Int:=if at_<0 then-1 else(at_/max 1 (min wide 16))%max 1 (min n 16)
def xA (cs:List Cl) (n wide:Int):List Int:=((List.range 16).map λi:Nat=>(i:Int)).filter λs=>cs.any λc=>decide (ofM c.1 n wide=s)
structure JX where
  me:Int
  spins:Int
  fin:Int
  by_:Int
  err:Int
def Zo (me spins:Int):JX:=⟨me,max 0 (min spins 4),0,-1,0⟩
def jO (p:JX) (l:LkM):Bool×JX:=if p.me<l.2.2 then(true,p)else(decide (0≤p.spins-1),{ p with spins:=p.spins-1 })
def xu (p:JX) (fin err by_:Int):JX:={ p with fin:=fin,err:=err,by_:=by_ }
def jZ (p:JX) (a:AnM):Bool×JX:=if p.fin=0∧a.err≠0 then(true,xu p 4 a.err (-1))else(decide (p.fin≠0),p)
abbrev xG:Type:=Int×Int
structure QN where
  p:JX
  at_:Int
  stripe:Int
  stamp:Int
  state:Int
  lk:LkM
  word:Int
def qQ2 (me at_ stripe spins stamp:Int):QN:=⟨Zo me spins,at_,stripe,stamp,0,lk0,0⟩
def Y3 (f:QN):Option OpM:=if f.p.fin≠0 then none else if f.state=1 then some (op0 1 f.at_ 0)else some (op0 3 f.stripe 0)
def kc (f:QN) (l:LkM):QN :=
 if l.2.1=true then(if(jO f.p l).1=true then{ f with state:=0,p:=(jO f.p l).2 }else{ f with state:=0,p:=xu (jO f.p l).2 5 0 l.2.2 })
 else if f.stamp<l.1 then{ f with state:=0,p:=xu f.p 6 0 (-1) }
 else{ f with lk:=l,state:=1 }
def z6 (f:QN) (a:AnM):QN :=
 if(jZ f.p a).1=true then{ f with p:=(jZ f.p a).2 }
 else if f.state=1 then{ f with word:=a.word,state:=2 }
 else if f.state=2∧a.lk=f.lk then{ f with p:=xu f.p 2 0 (-1) }
 else kc f a.lk
def xn (f:QN):Int:=if f.p.fin≠2 then 0 else f.word
def yW (f:QN):xG:=if f.p.fin≠2 then(0,0)else(f.stripe,f.lk.1)
structure JJ where
  p:JX
  seen:List xG
  loaded:Bool
  at_:Int
  stamp:Int
def NC (me spins:Int) (seen:List xG):JJ:=⟨Zo me spins,seen,false,0,0⟩
def zg (l:List xG) (i:Int):xG:=(l[i.toNat]?).getD (0,0)
def Y9 (x:JJ):Option OpM:=if x.p.fin≠0 then none else if x.loaded=false then some (op0 6 0 0)else some (op0 3 (zg x.seen x.at_).1 0)
def Mj (x:JJ):JJ:=if x.at_=(x.seen.length:Int)then{ x with p:=xu x.p 2 0 (-1) }else x
def gd (x:JJ) (a:AnM):JJ :=
 if(jZ x.p a).1=true then{ x with p:=(jZ x.p a).2 }
 else if x.loaded=false then Mj { x with loaded:=true,stamp:=a.word }
 else if a.lk.2.1=true then(if(jO x.p a.lk).1=true then{ x with p:=(jO x.p a.lk).2 }else{ x with p:=xu (jO x.p a.lk).2 5 0 a.lk.2.2 })
 else if a.lk.1≠(zg x.seen x.at_).2 then{ x with p:=xu x.p 5 0 (-1) }
 else Mj { x with at_:=x.at_+1 }
def wa (x:JJ):Int:=if x.p.fin≠2 then 0 else x.stamp
structure zX where
  p:JX
  me:Int
  stamp:Int
  seen:List xG
  cells:List Cl
  s:List Int
  was:List LkM
  state:Int
  at_:Int
  lk:LkM
  now:Int
  writing:Bool
  fin2:Int
  by2:Int
  err2:Int
def vy (c:zX):zX:={ c with state:=if c.was.length=c.s.length then 2 else 0 }
def VY (me spins stamp:Int) (seen:List xG) (cells:List Cl) (n wide:Int):zX :=
 vy ⟨Zo me spins,me,stamp,seen,cells,xA cells n wide,[],0,0,lk0,0,false,0,0,0⟩
def yf (l:List Cl) (i:Int):Cl:=(l[i.toNat]?).getD (0,0)
def vm (c:zX):Option OpM :=
 if c.p.fin≠0 then none
 else if c.state=0 then some (op0 3 (qM c.s c.was.length) 0)
 else if c.state=1 then some ⟨4,qM c.s c.was.length,0,0,c.lk,(c.lk.1,true,c.me)⟩
 else if c.state=2 then some (op0 6 0 0)
 else if c.state=3 then some ⟨7,0,c.now,c.now+1,lk0,lk0⟩
 else if c.state=4 then some (op0 3 (zg c.seen c.at_).1 0)
 else if c.state=5 then some (op0 2 (yf c.cells c.at_).1 (yf c.cells c.at_).2)
 else if c.state=6 then some ⟨5,qM c.s c.at_,0,0,lk0,(c.now+1,false,0)⟩
 else some ⟨5,qM c.s c.at_,0,0,lk0,jF c.was c.at_⟩
def yR (c:zX):zX:=if c.at_=(c.was.length:Int)then{ c with p:=xu c.p c.fin2 c.err2 c.by2 }else c
def vt (c:zX) (fin err by_:Int):zX:=yR { c with fin2:=fin,err2:=err,by2:=by_,at_:=0,state:=7 }
def gH (c:zX) (l:LkM):zX:=if(jO c.p l).1=true then{ c with p:=(jO c.p l).2 }else vt { c with p:=(jO c.p l).2 } 5 0 l.2.2
def ym (c:zX):zX:=if c.at_=(c.s.length:Int)then{ c with p:=xu c.p 2 0 (-1) }else c
def zG (c:zX):zX:=if c.at_=(c.cells.length:Int)then ym { c with at_:=0,state:=6 }else c
def vX (c:zX):zX:=zG { c with writing:=true,at_:=0,state:=5 }
def ownM:List Int→List LkM→Int→Option Int
 |s::r,w::q,x=>if s=x then some w.1 else ownM r q x
 |_,_,_=>none
def yz (c:zX):Nat→zX
 | 0=>vX c
 |n+1=>
  if c.at_<(c.seen.length:Int)then
   (match ownM c.s c.was (zg c.seen c.at_).1 with
   |none=>c
   |some v=>if v≠(zg c.seen c.at_).2 then vt c 5 0 (-1)else yz { c with at_:=c.at_+1 } n)
  else vX c
def gM (c:zX):zX:=yz { c with state:=4 } (c.seen.length+1)
def wI (c:zX) (a:AnM):zX :=
 if c.state=0∧a.lk.2.1=true then gH c a.lk
 else if c.state=0 then{ c with lk:=a.lk,state:=1 }
 else if a.done=true then vy { c with was:=c.was++[c.lk] }
 else{ c with state:=0 }
def vR (c:zX) (a:AnM):zX :=
 if c.state=2∧4611686018427387903≤a.word then vt c 4 7 (-1)
 else if c.state=2 then{ c with now:=a.word,state:=3 }
 else if a.done=false then{ c with state:=2 }
 else if c.now=c.stamp then vX c
 else gM c
def yd (c:zX) (l:LkM):zX :=
 if l.2.1=true then gH c l
 else if l.1≠(zg c.seen c.at_).2 then vt c 5 0 (-1)
 else gM { c with at_:=c.at_+1 }
def jo (c:zX) (a:AnM):zX :=
 if(jZ c.p a).1=true then{ c with p:=(jZ c.p a).2 }
 else if c.state=0∨c.state=1 then wI c a
 else if c.state=2∨c.state=3 then vR c a
 else if c.state=4 then yd c a.lk
 else if c.state=5 then zG { c with at_:=c.at_+1 }
 else if c.state=6 then ym { c with at_:=c.at_+1 }
 else yR { c with at_:=c.at_+1 }
def Gj (c:zX):Int:=if c.writing=false then 0 else c.now+1
def Jj (c:zX):Bool:=c.writing&&decide (c.p.fin=0)
structure zr where
  words:Int
  stripes:Int
  wide:Int
  threads:Int
  start:Int
  spins:Int
  writes:Int
  fuel:Int
def Qp (n lo hi:Int):Int:=max lo (min n hi)
def jz (s:zr):zr:=⟨Qp s.words 32 256,Qp s.stripes 1 16,Qp s.wide 1 16,Qp s.threads 1 4,min s.start 4611686018427387903,Qp s.spins 0 4,Qp s.writes 0 96,Qp s.fuel 0 400⟩
structure RunS where
  l:List qO
  s:IM
  fin:Int
  err:Int
  left:Nat
inductive Yx where
  |prog (r:RunS)
  |sweep (blocks:List Int) (k:Nat)
structure jY where
  me:Int
  set:zr
  job:Yx
  v:VM
  r:List xG
  state:Int
  f:QN
  e:JJ
  c:Option zX
  begun:Bool
  begin_:Int
  stamp:Int
  fin:Int
  by_:Int
  err:Int
  blocking:Bool
def qJA (me:Int) (S:zr) (job:Yx):jY:=⟨me,S,job,Ni S.words S.writes,[],0,qQ2 0 0 0 0 0,NC 0 0 [],none,false,0,0,0,-1,0,false⟩
def QC (me:Int) (S:zr) (l:List qO):jY:=qJA me (jz S) (.prog ⟨l,KU,0,0,Xl (jz S).fuel⟩)
def kI (me:Int) (S:zr) (bs:List Int):jY:=qJA me (jz S) (.sweep bs 0)
def yG (x:jY):Option OpM :=
 if x.state=0 then some (op0 9 x.me 1)
 else if x.state=1 then some (op0 6 0 0)
 else if x.state=2 then some (op0 9 x.me (zR .u64 (x.stamp+1)))
 else if x.state=7 then some (op0 9 x.me 0)
 else if x.state=8 then none
 else if x.state=3 then Y3 x.f
 else if x.state=6 then x.c.bind vm
 else Y9 x.e
def yF (x:jY) (fin err by_:Int):jY:={ x with fin:=fin,err:=err,by_:=by_,state:=7 }
def GN (x:jY) (at_:Int):jY:={ x with state:=3,f:=qQ2 x.me at_ (ofM at_ x.set.stripes x.set.wide) x.set.spins x.stamp }
def Qe (x:jY) (state:Int):jY:={ x with state:=state,e:=NC x.me x.set.spins x.r }
def zf:VM→List Int→Nat→(Nat×Int)×VM
 |V,[],k=>((k,0),V)
 |V,b::r,k=>if(xw V b).1=0 then zf (xw V b).2 r (k+1)else((k,(xw V b).1),(xw V b).2)
def yv (x:jY):(Int×Int)×jY:=match x.job with
 | .sweep bs k=>(if(zf x.v (bs.drop k) k).1.2=11 then(1,0)else if(zf x.v (bs.drop k) k).1.2=0 then(2,0)else(4,(zf x.v (bs.drop k) k).1.2),{ x with job:=.sweep bs (zf x.v (bs.drop k) k).1.1,v:=(zf x.v (bs.drop k) k).2 })
 | .prog q=>(((jf q.l (qS q.l) q.left q.s x.v).kind,(jf q.l (qS q.l) q.left q.s x.v).err),{ x with
   job:=.prog ⟨q.l,(jf q.l (qS q.l) q.left q.s x.v).s,if(jf q.l (qS q.l) q.left q.s x.v).kind=1 then 0 else(jf q.l (qS q.l) q.left q.s x.v).kind,(jf q.l (qS q.l) q.left q.s x.v).err,(jf q.l (qS q.l) q.left q.s x.v).left⟩,
   v:=(jf q.l (qS q.l) q.left q.s x.v).v })
def kg (x:jY) (k e:Int):jY :=
 if k=1 then GN x x.v.need
 else if k=3 then Qe { x with blocking:=true } 5
 else if k=4 then yF x 4 e (-1)
 else if jn x.v.lv=[]then yF x 2 0 (-1)
 else{ x with state:=6,c:=some (VY x.me x.set.spins x.stamp x.r (jn x.v.lv) x.set.stripes x.set.wide) }
def wE (x:jY):jY:=kg (yv x).2 (yv x).1.1 (yv x).1.2
def kz (r:List xG) (x:xG):Int×List xG :=
 if x.1<0∨16≤x.1∨4611686018427387904≤x.2 then(1,r)
 else match r.find? λy=>decide (y.1=x.1)with
  |some y=>if y.2≠x.2 then(14,r)else(0,r)
  |none=>if r.length=16 then(5,r)else(0,r++[x])
def xP (x:jY):jY :=
 if x.f.p.fin=6 then Qe x 4
 else if(kz x.r (yW x.f)).1=0 then wE { x with r:=(kz x.r (yW x.f)).2,v:=(yC x.v x.v.need (xn x.f)).2 }
 else if(kz x.r (yW x.f)).1=14 then yF x 5 0 (-1)
 else yF x 4 (kz x.r (yW x.f)).1 (-1)
def yO (x:jY):Int×Int:=if x.state=3 then(x.f.p.fin,x.f.p.by_)else if x.state=6 then(match x.c with |some c=>(c.p.fin,c.p.by_) |none=>(0,0))else(x.e.p.fin,x.e.p.by_)
def yg (x:jY):jY :=
 if x.state=3 then xP x
 else if x.state=4 then GN { x with stamp:=wa x.e } x.v.need
 else if x.state=5 then yF { x with stamp:=wa x.e } 3 0 (-1)
 else match x.c with |some c=>yF x c.p.fin c.p.err (-1) |none=>x
def yP (x:jY):Bool:=decide (x.state≠8)&&(match x.c with |some c=>Jj c||decide (c.p.fin=2) |none=>false)
def zN (x:jY):jY:=if yP x=true then(match x.c with |some c=>{ x with stamp:=Gj c } |none=>x)else x
def vu (x:jY):jY:=zN (if(yO x).1=0 then x else if(yO x).1=5 then yF x 5 0 (yO x).2 else yg x)
def zV (x:jY) (a:AnM):jY :=
 if x.state=8 then x
 else if a.err≠0 then{ yF x 4 a.err (-1)with state:=8 }
 else if x.state=0 then{ x with state:=1 }
 else if x.state=1 then{ x with begun:=true,begin_:=a.word,stamp:=a.word,state:=2 }
 else if x.state=2 then wE x
 else if x.state=7 then{ x with state:=8 }
 else if x.state=3 then vu { x with f:=z6 x.f a }
 else if x.state=6 then vu { x with c:=x.c.map λc=>jo c a }
 else vu { x with e:=gd x.e a }
def zx (x:jY):Int:=if x.state≠8 then 0 else x.fin
def xr (x:jY):Bool:=decide (zx x=2)||yP x
def Yh (x:jY):List Cl:=if xr x=true then jn x.v.lv else[]
def zD (x:jY):List Int:=if xr x=true then(match x.job with | .sweep bs _=>bs | .prog _=>wV x.v.lv)else[]
def zE (x:jY):List UInt8:=if xr x=true then(match x.job with | .sweep _ _=>[] | .prog q=>txtM q.s.out)else[]
end
section
variable {g h:AH} {L R:List SP}
def jh (l:LkM):List AV:=[.int .u64 l.1,.bool l.2.1,.int .i64 l.2.2]
def yX (o:OpM):List AV:=[.int .i64 o.kind,.int .i64 o.at_,.int .u64 o.old,.int .u64 o.word,.int .u64 o.was.1,.bool o.was.2.1,.int .i64 o.was.2.2,.int .u64 o.lk.1,.bool o.lk.2.1,.int .i64 o.lk.2.2]
def zp (a:AnM):List AV:=[.int .u64 a.word,.int .u64 a.lk.1,.bool a.lk.2.1,.int .i64 a.lk.2.2,.bool a.done,.int .i64 a.err]
theorem qZp {l:List LkM} {k:Nat} (hk:k<l.length):l[k]? =some (jF l (k:Int)):=by unfold jF;rw[Int.toNat_natCast,iW hk];rfl
theorem M2 {l:List LkM} {k:Nat} (hk:k<l.length):((l.flatMap jh).drop (k*3)).take 3=jh (jF l (k:Int)):=vk (sz:=3) (enc:=jh) (λ_=>rfl) (qZp hk)
section
variable {n b m:Nat} {v:AV} {a:Int} {e:TypeId} {xs:List AV} {R2:List SP}
theorem Mi {w o:Int}:kj (w,true,o)↔w<4611686018427387904∧0≤o∧o<4:=by unfold kj;simp
theorem Ul {w o:Int}:kj (w,false,o)↔w<4611686018427387904∧o=0:=by unfold kj;simp
theorem qx7 {o:Int} (hn:1≤n):t_w n 156 [.int .i64 o] h λr h'=>r=.bool (decide (0≤o∧o<4))∧h'=h:=by
 refine t_e1 (S:=S156) rfl omQ λk hk=>?_;unfold S156;try simp only[iZ]
 refine yq (λc2=>?_) (λc2=>?_)
 ·refine qV ?_;(try dsimp only);refine qa ?_;(try dsimp only)
  refine z7 (λc3=>?_) (λc3=>?_)
  ·refine qE ?_;exact qq ⟨by rw[iG omQ],rfl⟩
  ·refine qE ?_;exact qq ⟨by rw[iV omQ],rfl⟩
 ·refine qV ?_;(try dsimp only);refine qR ?_;(try dsimp only);refine qC ?_
  exact qq ⟨by rw[iV omQ],rfl⟩
theorem qwA (hn:2≤n) {l:LkM} (H:HS g h R):t_w n 132 [.agg (jh l)] h λr h'=>r=.bool (decide (kj l))∧HS g h' R:=by
 refine t_e1 (S:=S132) rfl omQ λk hk=>?_;unfold S132;try simp only[iZ]
 obtain⟨w,d,o⟩:=l;refine qI H rfl λb h1 H1=>?_;have H1:HS g h1 (qk b [.int .u64 w,.bool d,.int .i64 o]::R):=H1;refine qQ (qX ‹_› .here rfl ?_);cases d with
 |true=>
  refine qZ (qQ (qX ‹_› .here rfl ?_));refine z7 (λc1=>?_) (λc1=>?_)
  ·refine qV ?_;(try dsimp only);refine qa ?_;(try dsimp only);refine qQ (qX ‹_› .here rfl ?_)
   refine qW (qx7 omQ) ?_;rintro _ _ ⟨rfl,rfl⟩;refine qE (qq ⟨?_,H1.drop⟩);by_cases hc:0≤o∧o<4
   ·rw[iG hc,iG (Mi.2 ⟨by omega,hc⟩)]
   ·rw[iV hc,iV (λh=>hc (Mi.1 h).2)]
  ·refine qV ?_;(try dsimp only);refine qR ?_;(try dsimp only);refine qC ?_
   exact qq ⟨by rw[iV (λh=>by have:=(Mi.1 h).1;omega)],H1.drop⟩
 |false=>
  refine qJ (qQ (qX ‹_› .here rfl ?_));refine z7 (λc1=>?_) (λc1=>?_)
  ·refine qV ?_;(try dsimp only);refine qa ?_;(try dsimp only);refine qQ (qX ‹_› .here rfl ?_)
   refine vp (λc2=>?_) (λc2=>?_)
   ·refine qE ?_;exact qq ⟨by rw[iG (Ul.2 omQ)],H1.drop⟩
   ·refine qE ?_;exact qq ⟨by rw[iV (λh=>by have:=(Ul.1 h).2;omega)],H1.drop⟩
  ·refine qV ?_;(try dsimp only);refine qR ?_;(try dsimp only);refine qC ?_
   exact qq ⟨by rw[iV (λh=>by have:=(Ul.1 h).1;omega)],H1.drop⟩
theorem qYd (hn:1≤n) (H:HS g h L) (s:Sel L (qk b [v]) R) (s2:Sel L (qA e 1 m v xs) R2) :
  t_w n 108 [.ptr b 0,.int .i64 a] h λr h'=>r=.bool (decide (1≤a∧a<m))∧h'=h:=by
 refine t_e2 (S:=S108) rfl omQ λk hk=>?_;unfold S108;try simp only[iZ]
 refine yq (λh1=>?_) (λh1=>?_)
 ·refine qV ?_;(try dsimp only);refine qa ?_;(try dsimp only);refine qG (qQ ?_)
  refine qX H s rfl ?_;refine qi H s2 ?_;refine z7 (λh2=>?_) (λh2=>?_)
  ·refine qE ?_;exact qq ⟨by rw[iG omQ],rfl⟩
  ·refine qE ?_;exact qq ⟨by rw[iV omQ],rfl⟩
 ·refine qV ?_;(try dsimp only);refine qR ?_;(try dsimp only);refine qC ?_
  exact qq ⟨by rw[iV omQ],rfl⟩
theorem qqT (hn:1≤n) (H:HS g h L) (s:Sel L (qk b [v]) R) (s2:Sel L (qA e 1 m v xs) R2) :
  t_w n 111 [.ptr b 0,.int .i64 a] h λr h'=>r=.bool (decide (0≤a∧a<m))∧h'=h:=by
 refine t_e2 (S:=S111) rfl omQ λk hk=>?_;unfold S111;try simp only[iZ]
 refine yq (λh1=>?_) (λh1=>?_)
 ·refine qV ?_;(try dsimp only);refine qa ?_;(try dsimp only);refine qG (qQ ?_)
  refine qX H s rfl ?_;refine qi H s2 ?_;refine z7 (λh2=>?_) (λh2=>?_)
  ·refine qE ?_;exact qq ⟨by rw[iG omQ],rfl⟩
  ·refine qE ?_;exact qq ⟨by rw[iV omQ],rfl⟩
 ·refine qV ?_;(try dsimp only);refine qR ?_;(try dsimp only);refine qC ?_
  exact qq ⟨by rw[iV omQ],rfl⟩
theorem qjO (hn:1≤n) {wd:AV} (H:HS g h L) (s:Sel L (qk b [v,wd]) R) (s2:Sel L (qA e 3 m v xs) R2) :
  t_w n 109 [.ptr b 0,.int .i64 a] h λr h'=>r=.bool (decide (0≤a∧a<m))∧h'=h:=by
 refine t_e2 (S:=S109) rfl omQ λk hk=>?_;unfold S109;try simp only[iZ]
 refine yq (λh1=>?_) (λh1=>?_)
 ·refine qV ?_;(try dsimp only);refine qa ?_;(try dsimp only);refine qG (qQ ?_)
  refine qX H s rfl ?_;refine qi H s2 ?_;refine z7 (λh2=>?_) (λh2=>?_)
  ·refine qE ?_;exact qq ⟨by rw[iG omQ],rfl⟩
  ·refine qE ?_;exact qq ⟨by rw[iV omQ],rfl⟩
 ·refine qV ?_;(try dsimp only);refine qR ?_;(try dsimp only);refine qC ?_
  exact qq ⟨by rw[iV omQ],rfl⟩
theorem qqo {ws:List Int} (hn:2≤n) (H:HS g h L) (s:Sel L (qk b [v]) R) (s2:Sel L (qA e 1 ws.length v (ws.map (.int .u64))) R2) :
  t_w n 75 [.ptr b 0,.int .i64 a] h λr h'=>r=.tup [.int .u64 (if 1≤a∧a<ws.length then qM ws a else 0),.int .i64 (if 1≤a∧a<ws.length then 0 else 2)]∧h'=h:=by
 refine t_e2 (S:=S75) rfl omQ λk hk=>?_;unfold S75;try simp only[iZ]
 refine qW (qYd omQ H s s2) ?_;rintro _ _ ⟨rfl,rfl⟩;by_cases hc:1≤a∧a<ws.length
 ·rw[iG hc,iJ hc,iJ hc];obtain⟨k,rfl⟩:∃k:Nat,a=k:=⟨a.toNat,by omega⟩;refine jW (qJ (qG (qQ (qX H s rfl ?_))));refine jI (H.sl s2) (x:=.int .u64 (qM ws k)) (by rw[List.getElem?_map,wO omQ];rfl) ?_;exact qq ⟨rfl,rfl⟩
 ·rw[iV hc,iQ hc,iQ hc];refine jk (qZ ?_);exact qq ⟨rfl,rfl⟩
theorem qjd {ws:List Int} (hn:2≤n) (H:HS g h L) (s:Sel L (qk b [v]) R) (s2:Sel L (qA e 1 ws.length v (ws.map (.int .u64))) R2) :
  t_w n 81 [.ptr b 0,.int .i64 a] h λr h'=>r=.tup [.int .u64 (if 0≤a∧a<ws.length then qM ws a else 0),.int .i64 (if 0≤a∧a<ws.length then 0 else 2)]∧h'=h:=by
 refine t_e2 (S:=S81) rfl omQ λk hk=>?_;unfold S81;try simp only[iZ]
 refine qW (qqT omQ H s s2) ?_;rintro _ _ ⟨rfl,rfl⟩;by_cases hc:0≤a∧a<ws.length
 ·rw[iG hc,iJ hc,iJ hc];obtain⟨k,rfl⟩:∃k:Nat,a=k:=⟨a.toNat,by omega⟩;refine jW (qJ (qG (qQ (qX H s rfl ?_))));refine jI (H.sl s2) (x:=.int .u64 (qM ws k)) (by rw[List.getElem?_map,wO omQ];rfl) ?_;exact qq ⟨rfl,rfl⟩
 ·rw[iV hc,iQ hc,iQ hc];refine jk (qZ ?_);exact qq ⟨rfl,rfl⟩
theorem qKT {ws:List Int} {w:Int} (hn:2≤n) (H:HS g h (qk b [v]::qA e 1 ws.length v (ws.map (.int .u64))::R)) :
  t_w n 76 [.ptr b 0,.int .i64 a,.int .u64 w] h λr h'=>r=.int .i64 (if 1≤a∧a<ws.length then 0 else 2)∧
   HS g h' (qk b [v]::qA e 1 (if 1≤a∧a<ws.length then ws.set a.toNat w else ws).length v ((if 1≤a∧a<ws.length then ws.set a.toNat w else ws).map (.int .u64))::R):=by
 refine t_e3 (S:=S76) rfl omQ λk hk=>?_;unfold S76;try simp only[iZ]
 refine qW (qYd omQ H .here e_1) ?_;rintro _ _ ⟨rfl,rfl⟩;by_cases hc:1≤a∧a<ws.length
 ·rw[iG hc];simp only[iJ hc];obtain⟨k,rfl⟩:∃k:Nat,a=k:=⟨a.toNat,by omega⟩;refine jW (qJ (qG (qQ (qX ‹_› .here rfl ?_))));refine X0 (H.sel e_1) omQ ⟨rfl,rfl⟩ λh2 H2=>?_;rw[← List.map_set]at H2;exact qq ⟨rfl,by rw[List.length_set];exact H2.sub (.cons e_1 (.cons .here .refl))⟩
 ·rw[iV hc];simp only[iQ hc];refine jk (qZ ?_);exact qq ⟨rfl,H⟩
theorem qX0 {ws:List Int} {w:Int} (hn:2≤n) (H:HS g h (qk b [v]::qA e 1 ws.length v (ws.map (.int .u64))::R)) :
  t_w n 82 [.ptr b 0,.int .i64 a,.int .u64 w] h λr h'=>r=.int .i64 (if 0≤a∧a<ws.length then 0 else 2)∧
   HS g h' (qk b [v]::qA e 1 (if 0≤a∧a<ws.length then ws.set a.toNat w else ws).length v ((if 0≤a∧a<ws.length then ws.set a.toNat w else ws).map (.int .u64))::R):=by
 refine t_e3 (S:=S82) rfl omQ λk hk=>?_;unfold S82;try simp only[iZ]
 refine qW (qqT omQ H .here e_1) ?_;rintro _ _ ⟨rfl,rfl⟩;by_cases hc:0≤a∧a<ws.length
 ·rw[iG hc];simp only[iJ hc];obtain⟨k,rfl⟩:∃k:Nat,a=k:=⟨a.toNat,by omega⟩;refine jW (qJ (qG (qQ (qX ‹_› .here rfl ?_))));refine X0 (H.sel e_1) omQ ⟨rfl,rfl⟩ λh2 H2=>?_;rw[← List.map_set]at H2;exact qq ⟨rfl,by rw[List.length_set];exact H2.sub (.cons e_1 (.cons .here .refl))⟩
 ·rw[iV hc];simp only[iQ hc];refine jk (qZ ?_);exact qq ⟨rfl,H⟩
variable {ls:List LkM} {wd:AV}
theorem qqr (hn:2≤n) (H:HS g h L) (s:Sel L (qk b [v,wd]) R) (s2:Sel L (qA e 3 ls.length v (ls.flatMap jh)) R2) :
  t_w n 77 [.ptr b 0,.int .i64 a] h λr h'=>r=.tup [.agg (jh (if 0≤a∧a<ls.length then jF ls a else lk0)),.int .i64 (if 0≤a∧a<ls.length then 0 else 2)]∧HS g h' L:=by
 refine t_e2 (S:=S77) rfl omQ λk hk=>?_;unfold S77;try simp only[iZ]
 refine qI H rfl λb0 h1 H1=>?_;refine qW (qjO omQ H1 (.there s) (.there s2)) ?_;rintro _ _ ⟨rfl,rfl⟩;by_cases hc:0≤a∧a<ls.length
 ·rw[iG hc,iJ hc,iJ hc];obtain⟨k,rfl⟩:∃k:Nat,a=k:=⟨a.toNat,by omega⟩;refine jW (qJ (qG (qQ (qX H1 (.there s) rfl ?_))));refine zH (l:=jh (jF ls k)) (H1.sl (.there s2)) omQ omQ (M2 omQ) ?_;refine qd H1 (b:=b0) .here rfl (by show 0+3≤3;omega) rfl λh2 H2=>?_;refine qF H2 (b:=b0) (off:=0) .here rfl omQ (l:=jh (jF ls k)) rfl ?_;exact qq ⟨rfl,H2.drop⟩
 ·rw[iV hc,iQ hc,iQ hc];refine jk (qZ (qH rfl ?_));refine qd H1 (b:=b0) .here rfl (by show 0+3≤3;omega) rfl λh2 H2=>?_;refine qF H2 (b:=b0) (off:=0) .here rfl omQ (l:=jh lk0) rfl ?_;exact qq ⟨rfl,H2.drop⟩
def kL (n:Nat) (a:Int) (l:LkM):Int:=if 0≤a∧a<n then(if kj l then 0 else 1)else 2
theorem qZI {l:LkM} (hn:3≤n) (H:HS g h L) (s:Sel L (qk b [v,wd]) R) (s2:Sel L (qA e 3 m v xs) R2) :
  t_w n 110 [.ptr b 0,.int .i64 a,.agg (jh l)] h λr h'=>r=.int .i64 (kL m a l)∧HS g h' L:=by
 refine t_e3 (S:=S110) rfl omQ λk hk=>?_;unfold S110;try simp only[iZ]
 unfold kL;refine qI H rfl λb0 h1 H1=>?_;refine qW (qjO omQ H1 (.there s) (.there s2)) ?_;rintro _ _ ⟨rfl,rfl⟩;by_cases hc:0≤a∧a<m
 ·rw[iG hc,iJ hc];refine jW (qJ (qF H1 (b:=b0) (off:=0) .here rfl omQ (l:=jh l) rfl ?_));refine qW (qwA omQ H1) ?_;rintro _ h2 ⟨rfl,H2⟩;by_cases hl:kj l
  ·rw[iG hl,iJ hl];refine jW (qJ ?_);exact qq ⟨rfl,H2.drop⟩
  ·rw[iV hl,iQ hl];refine jk (qZ ?_);exact qq ⟨rfl,H2.drop⟩
 ·rw[iV hc,iQ hc];refine jk (qZ ?_);exact qq ⟨rfl,H1.drop⟩
theorem qvi (x y:LkM):xV [.bas .int 0,.bas .bool 1,.bas .int 2] (jh x) (jh y)=some (decide (x=y)):=by obtain⟨a,b,c⟩:=x;obtain⟨a',b',c'⟩:=y;show(bif ieq a a' then(bif b==b' then(bif ieq c c' then some true else some false)else some false)else some false)=_;rw[XU,XU];by_cases h1:a=a'<;>by_cases h3:c=c'<;>cases b<;>cases b'<;>simp[h1,h3]
theorem qk6 {was l:LkM} (hn:4≤n) (H:HS g h (qk b [v,wd]::qA e 3 ls.length v (ls.flatMap jh)::R)) :
  t_w n 78 [.ptr b 0,.int .i64 a,.agg (jh was),.agg (jh l)] h λr h'=>r=.tup [.bool (decide (kL ls.length a l=0∧jF ls a=was)),.int .i64 (kL ls.length a l)]∧
   HS g h' (qk b [v,wd]::qA e 3 (if kL ls.length a l=0∧jF ls a=was then ls.set a.toNat l else ls).length v ((if kL ls.length a l=0∧jF ls a=was then ls.set a.toNat l else ls).flatMap jh)::R):=by
 (refine qw (g:=W78) rfl omQ λk hk=>?_;show wp (S78 (callT tab qj k) _ _ _ _ _) _;unfold S78;try simp only[iI,uU,iZ])
 refine qI H rfl λb0 h1 H1=>?_;refine qI H1 rfl λb1 h2 H2=>?_;refine qF H2 (b:=b1) (off:=0) .here rfl omQ (l:=jh l) rfl ?_;refine qW (qZI (l:=l) omQ H2 e_2 e_3) ?_;rintro _ h3 ⟨rfl,H3⟩;by_cases c0:kL ls.length a l=0
 rotate_left
 ·refine qu c0 ?_;refine qZ ?_;rw[iV (λh=>c0 h.1)];simp only[iQ (show¬(kL ls.length a l=0∧jF ls a=was)from λh=>c0 h.1)];exact qq ⟨rfl,H3.drop.drop⟩
 have hc:0≤a∧a<ls.length:=by
  unfold kL at c0
  split at c0
  ·assumption
  ·cases c0
 obtain⟨k,rfl⟩:∃k:Nat,a=k:=⟨a.toNat,by omega⟩;refine q8 c0 ?_;refine qJ (qG (qQ (qX ‹_› e_2 rfl ?_)));refine zH (l:=jh (jF ls k)) (H3.sl e_3) omQ omQ (M2 omQ) ?_;refine qF H3 (b:=b0) (off:=0) e_1 rfl omQ (l:=jh was) rfl ?_;refine qXE (p:=jF ls k=was) (qvi _ _) (λc1=>?_) (λc1=>?_)
 ·rw[iG ⟨c0,c1⟩];simp only[iJ (show kL ls.length k l=0∧jF ls k=was from⟨c0,c1⟩)];rw[c0];refine qJ (qG (qQ (qX ‹_› e_2 rfl ?_)));refine qF H3 (b:=b1) (off:=0) .here rfl omQ (l:=jh l) rfl ?_;refine qJM (l:=jh l) (i:=k) (H3.sel e_3) omQ rfl rfl λh4 H4=>?_;rw[M3 (sz:=3) (enc:=jh) (l:=ls) (i:=k) (a:=l) (λ_=>rfl) omQ]at H4;exact qq ⟨rfl,by rw[List.length_set];exact H4.sub (.cons e_3 (.cons .here (.drop (.drop .refl))))⟩
 ·rw[iV (λh=>c1 h.2)];simp only[iQ (show¬(kL ls.length k l=0∧jF ls k=was)from λh=>c1 h.2)];rw[c0];refine qZ ?_;exact qq ⟨rfl,H3.drop.drop⟩
theorem qV6 {l:LkM} (hn:4≤n) (H:HS g h (qk b [v,wd]::qA e 3 ls.length v (ls.flatMap jh)::R)) :
  t_w n 79 [.ptr b 0,.int .i64 a,.agg (jh l)] h λr h'=>r=.int .i64 (kL ls.length a l)∧
   HS g h' (qk b [v,wd]::qA e 3 (if kL ls.length a l=0 then ls.set a.toNat l else ls).length v ((if kL ls.length a l=0 then ls.set a.toNat l else ls).flatMap jh)::R):=by
 refine t_e3 (S:=S79) rfl omQ λk hk=>?_;unfold S79;try simp only[iZ]
 refine qI H rfl λb0 h1 H1=>?_;refine qF H1 (b:=b0) (off:=0) .here rfl omQ (l:=jh l) rfl ?_;refine qW (qZI (l:=l) omQ H1 e_1 e_2) ?_;rintro _ h3 ⟨rfl,H3⟩;refine qV ?_
 try dsimp only
 by_cases c0:kL ls.length a l=0
 rotate_left
 ·refine qK c0 ?_;refine qJ (qx ?_);simp only[iQ c0];exact qq ⟨rfl,H3.drop⟩
 have hc:0≤a∧a<ls.length:=by
  unfold kL at c0
  split at c0
  ·assumption
  ·cases c0
 obtain⟨k,rfl⟩:∃k:Nat,a=k:=⟨a.toNat,by omega⟩;refine qz c0 ?_;simp only[iJ c0];refine qZ (qG (qQ (qX ‹_› e_1 rfl ?_)));refine qF H3 (b:=b0) (off:=0) .here rfl omQ (l:=jh l) rfl ?_;refine qJM (l:=jh l) (i:=k) (H3.sel e_2) omQ rfl rfl λh4 H4=>?_;rw[M3 (sz:=3) (enc:=jh) (l:=ls) (i:=k) (a:=l) (λ_=>rfl) omQ]at H4;refine qx ?_;exact qq ⟨rfl,by rw[List.length_set];exact H4.sub (.cons e_2 (.cons .here (.drop .refl)))⟩
end
def qJN (p hb tb cb sb:Nat) (wv lv sv:AV) (S:zr) (M:zJ) (R:List SP):List SP :=
 qk p [.int .i64 S.words,.int .i64 S.stripes,.int .i64 S.wide,.int .i64 S.threads,.int .u64 S.start,.ptr hb 0,.ptr tb 0,.ptr cb 0,.ptr sb 0,.int .i64 M.cnt]::qk hb [wv]::qA 22 1 M.w.length wv (M.w.map (.int .u64))::
 qk tb [lv,.int .i64 S.wide]::qA 47 3 M.l.length lv (M.l.flatMap jh)::qk cb [.int .u64 M.n]::qk sb [sv]::qA 22 1 M.s.length sv (M.s.map (.int .u64))::R
def MemC (p:Nat) (S:zr) (M:zJ):SP:=.ex λq:(Nat×Nat×Nat×Nat)×AV×AV×AV=>.all (qJN p q.1.1 q.1.2.1 q.1.2.2.1 q.1.2.2.2 q.2.1 q.2.2.1 q.2.2.2 S M [])
section
variable {p hb tb cb sb:Nat} {wv lv sv:AV} {S:zr} {M:zJ}
theorem MemC.E (H:HS g h (MemC p S M::R)):∃hb tb cb sb wv lv sv,HS g h (qk p [.int .i64 S.words,.int .i64 S.stripes,.int .i64 S.wide,.int .i64 S.threads,.int .u64 S.start,.ptr hb 0,.ptr tb 0,.ptr cb 0,.ptr sb 0,.int .i64 M.cnt]::qk hb [wv]::qA 22 1 M.w.length wv (M.w.map (.int .u64))::
  qk tb [lv,.int .i64 S.wide]::qA 47 3 M.l.length lv (M.l.flatMap jh)::qk cb [.int .u64 M.n]::qk sb [sv]::qA 22 1 M.s.length sv (M.s.map (.int .u64))::R):=by
 obtain⟨⟨⟨hb,tb,cb,sb⟩,wv,lv,sv⟩,H⟩:=H.exE;exact⟨hb,tb,cb,sb,wv,lv,sv,H.allE⟩
theorem MemC.I (H:HS g h (qJN p hb tb cb sb wv lv sv S M R)):HS g h (MemC p S M::R):=HS.exI ((hb,tb,cb,sb),wv,lv,sv) (HS.allI (A:=qJN p hb tb cb sb wv lv sv S M []) H)
end
end
section
variable {g h:AH} {L R:List SP}
def x9 (p:JX) (xs:List AV):List AV:=.int .i64 p.me:: .int .i64 p.spins:: .int .i64 p.fin:: .int .i64 p.by_:: .int .i64 p.err::xs
def opV (o:Option OpM):AV:=.tup [.agg (yX (o.getD (op0 0 0 0))),.bool o.isSome]
def G7 (p:JX):Prop:=p.fin=0→0≤p.spins∧p.spins≤4
section
variable {n b:Nat} {p:JX} {xs:List AV}
theorem NB {me sp:Int} (hn:1≤n) (H:HS g h R):t_w n 145 [.int .i64 me,.int .i64 sp] h λr h'=>r=.agg (x9 (Zo me sp) [])∧HS g h' R:=by
 refine t_e2 (S:=S145) rfl omQ λk hk=>?_;unfold S145;try simp only[iZ]
 refine qI H rfl λb h1 H1=>?_;refine zZ (ze (qH rfl ?_));refine qd H1 (b:=b) .here rfl (by show 0+5≤5;omega) rfl λh2 H2=>?_;refine qF H2 (b:=b) (off:=0) .here rfl omQ (l:=x9 (Zo me sp) []) rfl ?_;exact qq ⟨rfl,H2.drop⟩
theorem XG (hn:1≤n) (H:HS g h L) (s:Sel L (qk b (x9 p xs)) R):t_w n 130 [.ptr b 0] h λr h'=>r=.int .i64 p.fin∧h'=h:=by
 refine t_e1 (S:=S130) rfl omQ λk hk=>?_;unfold S130;try simp only[iZ]
 refine qG (qQ ?_);exact qX H s rfl (qq ⟨rfl,rfl⟩)
theorem qzL (hn:1≤n) (H:HS g h L) (s:Sel L (qk b (x9 p xs)) R):t_w n 182 [.ptr b 0] h λr h'=>r=.int .i64 p.err∧h'=h:=by
 refine t_e1 (S:=S182) rfl omQ λk hk=>?_;unfold S182;try simp only[iZ]
 refine qG (qQ ?_);exact qX H s rfl (qq ⟨rfl,rfl⟩)
theorem qJt (hn:1≤n) (H:HS g h L) (s:Sel L (qk b (x9 p xs)) R):t_w n 370 [.ptr b 0] h λr h'=>r=.int .i64 p.by_∧h'=h:=by
 refine t_e1 (S:=S370) rfl omQ λk hk=>?_;unfold S370;try simp only[iZ]
 refine qG (qQ ?_);exact qX H s rfl (qq ⟨rfl,rfl⟩)
theorem gE {f e y:Int} (hn:1≤n) (H:HS g h (qk b (x9 p xs)::R)):t_w n 372 [.ptr b 0,.int .i64 f,.int .i64 e,.int .i64 y] h λ_ h'=>HS g h' (qk b (x9 (xu p f e y) xs)::R):=by
 refine t_e4 (S:=S372) rfl omQ λk hk=>?_;unfold S372;try simp only[iZ]
 unfold x9 at H;refine qG (qQ (qg H (b:=b) .here ⟨rfl,rfl⟩ osQ λh1 H1=>?_));refine qG (qQ (qg H1 (b:=b) .here ⟨rfl,rfl⟩ osQ λh2 H2=>?_));refine qG (qQ (qg H2 (b:=b) .here ⟨rfl,rfl⟩ osQ λh3 H3=>?_));exact qq H3
theorem GE {l:LkM} (hn:1≤n) (hp:0≤p.spins∧p.spins≤4) (H:HS g h (qk b (x9 p xs)::R)):t_w n 374 [.ptr b 0,.agg (jh l)] h λr h'=>r=.bool (jO p l).1∧HS g h' (qk b (x9 (jO p l).2 xs)::R):=by
 refine t_e2 (S:=S374) rfl omQ λk hk=>?_;unfold S374;try simp only[iZ]
 refine qI H rfl λb0 h1 H1=>?_;have H1:HS g h1 (qk b0 (jh l)::qk b (.int .i64 p.me:: .int .i64 p.spins:: .int .i64 p.fin:: .int .i64 p.by_:: .int .i64 p.err::xs)::R):=H1;unfold jh at H1;refine qQ (qX ‹_› .here rfl ?_);refine qG (qQ (qX ‹_› e_1 rfl ?_));unfold jO;by_cases c:p.me<l.2.2
 ·refine yj c ?_;rw[iJ c];refine qZ ?_;exact qq ⟨rfl,H1.drop⟩
 ·refine xW c ?_;rw[iQ c];refine qJ (qG (qQ (qX ‹_› e_1 rfl ?_)));refine jr omQ ?_;refine qG (qQ (qg H1 (b:=b) e_1 ⟨rfl,rfl⟩ osQ λh2 H2=>?_));have H2:HS g h2 (qk b (.int .i64 p.me:: .int .i64 (p.spins-1):: .int .i64 p.fin:: .int .i64 p.by_:: .int .i64 p.err::xs)::qk b0 (jh l)::R):=H2;refine qG (qQ (qX ‹_› .here rfl ?_));refine yq (λc2=>?_) (λc2=>?_)
  ·exact qq ⟨by rw[iG omQ],H2.sub (.cons .here (.drop .refl))⟩
  ·exact qq ⟨by rw[iV omQ],H2.sub (.cons .here (.drop .refl))⟩
theorem JL {a:AnM} (hn:2≤n) (H:HS g h (qk b (x9 p xs)::R)):t_w n 371 [.ptr b 0,.agg (zp a)] h λr h'=>r=.bool (jZ p a).1∧HS g h' (qk b (x9 (jZ p a).2 xs)::R):=by
 refine t_e2 (S:=S371) rfl omQ λk hk=>?_;unfold S371;try simp only[iZ]
 refine qI H rfl λb0 h1 H1=>?_;have H1:HS g h1 (qk b0 (zp a)::qk b (.int .i64 p.me:: .int .i64 p.spins:: .int .i64 p.fin:: .int .i64 p.by_:: .int .i64 p.err::xs)::R):=H1;unfold zp at H1;refine jd [] (λs h'=>s=(.ptr b 0,())∧HS g h' (qk b (x9 (if p.fin=0∧a.err≠0 then xu p 4 a.err (-1)else p) xs)::R)) ?_ ?_
 rotate_left
 ·rintro s h2 ⟨rfl,H2⟩;unfold x9 at H2;refine qG (qQ (qX ‹_› .here rfl ?_));by_cases c:p.fin=0∧a.err≠0
  ·rw[iJ c]at H2;rw[show jZ p a=(true,xu p 4 a.err (-1))from iJ c];rw[iJ c];refine qu (by show(4:Int)≠0;decide) ?_;refine qx ?_;exact qq ⟨rfl,H2⟩
  ·rw[iQ c]at H2;rw[show jZ p a=(decide (p.fin≠0),p)from iQ c];rw[iQ c];refine vw (λc2=>?_) (λc2=>?_)
   ·refine qx ?_;exact qq ⟨congrArg AV.bool (iG (p:=p.fin≠0) c2).symm,H2⟩
   ·refine qx ?_;exact qq ⟨congrArg AV.bool (iV (p:=p.fin≠0) (λh=>h c2)).symm,H2⟩
 intro j hj;refine qG (qQ (qX ‹_› e_1 rfl ?_));by_cases c:p.fin=0
 ·refine qz c ?_;refine qV ?_;(try dsimp only);refine qa ?_;(try dsimp only);refine qQ (qX ‹_› .here rfl ?_)
  by_cases c2:a.err=0
  ·refine q8 c2 ?_;refine qE (qJ ?_);exact hj _ _ ⟨rfl,by rw[iQ (λh=>h.2 c2)];exact H1.drop⟩
  ·refine qu c2 ?_;refine qE (qZ (qQ (qX ‹_› .here rfl ?_)));refine qW (gE (p:=p) omQ (H1.sel e_1)) λ_ h2 H2=>?_;exact hj _ _ ⟨rfl,by rw[iJ ⟨c,c2⟩];exact H2.sub (.cons .here (.drop .refl))⟩
 ·refine qK c ?_;refine qV ?_;(try dsimp only);refine qR ?_;(try dsimp only);refine qC (qJ ?_)
  exact hj _ _ ⟨rfl,by rw[iQ (λh=>c h.1)];exact H1.drop⟩
end
def ge (f:QN):List AV:=x9 f.p [.int .i64 f.at_,.int .i64 f.stripe,.int .u64 f.stamp,.int .i64 f.state,.int .u64 f.lk.1,.bool f.lk.2.1,.int .i64 f.lk.2.2,.int .u64 f.word]
section
variable {n b:Nat} {f:QN}
theorem qxl {me at_ st sp t:Int} (hn:2≤n) (H:HS g h R):t_w n 141 [.int .i64 me,.int .i64 at_,.int .i64 st,.int .i64 sp,.int .u64 t] h λr h'=>∃b,r=.ptr b 0∧HS g h' (qk b (ge (qQ2 me at_ st sp t))::R):=by
 refine t_e5 (S:=S141) rfl omQ λk hk=>?_;unfold S141;try simp only[iZ]
 refine qW (NB omQ H) ?_;rintro _ h1 ⟨rfl,H1⟩;unfold x9;refine qH rfl ?_;refine qI H1 rfl λb h2 H2=>qq ⟨b,rfl,H2⟩
theorem qG1 (hn:2≤n) (H:HS g h (qk b (ge f)::R)):t_w n 368 [.ptr b 0] h λr h'=>r=opV (Y3 f)∧HS g h' (qk b (ge f)::R):=by
 refine t_e1 (S:=S368) rfl omQ λk hk=>?_;unfold S368;try simp only[iZ]
 refine qI H rfl λb0 h1 H1=>?_;refine qG (qQ (qW (XG omQ H1 e_1) ?_));rintro _ _ ⟨rfl,rfl⟩;unfold Y3;have H2:=H1;unfold ge x9 at H2;by_cases c:f.p.fin=0
 ·refine q8 c ?_;rw[iQ (λh=>h c)];refine qJ (qG (qQ (qX ‹_› e_1 rfl ?_)));by_cases c2:f.state=1
  ·refine qz c2 ?_;rw[iJ c2];refine qZ (qG (qQ (qX ‹_› e_1 rfl ?_)));refine qH rfl ?_;refine qd H1 (b:=b0) .here rfl (by show 0+10≤10;omega) rfl λh3 H3=>?_;refine qF H3 (b:=b0) (off:=0) .here rfl omQ (l:=yX (op0 1 f.at_ 0)) rfl ?_;exact qq ⟨rfl,H3.drop⟩
  ·refine qK c2 ?_;rw[iQ c2];refine qJ (qG (qQ (qX ‹_› e_1 rfl ?_)));refine qH rfl ?_;refine qd H1 (b:=b0) .here rfl (by show 0+10≤10;omega) rfl λh3 H3=>?_;refine qF H3 (b:=b0) (off:=0) .here rfl omQ (l:=yX (op0 3 f.stripe 0)) rfl ?_;exact qq ⟨rfl,H3.drop⟩
 ·refine qu c ?_;rw[iJ c];refine qZ (qH rfl ?_);refine qd H1 (b:=b0) .here rfl (by show 0+10≤10;omega) rfl λh3 H3=>?_;refine qF H3 (b:=b0) (off:=0) .here rfl omQ (l:=yX (op0 0 0 0)) rfl ?_;exact qq ⟨rfl,H3.drop⟩
theorem Vu {l:LkM} (hn:2≤n) (hp:0≤f.p.spins∧f.p.spins≤4) (H:HS g h (qk b (ge f)::R)):t_w n 373 [.ptr b 0,.agg (jh l)] h λ_ h'=>HS g h' (qk b (ge (kc f l))::R):=by
 refine t_e2 (S:=S373) rfl omQ λk hk=>?_;unfold S373;try simp only[iZ]
 refine qI H rfl λb0 h1 H1=>?_;unfold ge x9 jh at H1;refine qG (qQ (qg H1 (b:=b) e_1 ⟨rfl,rfl⟩ osQ λh2 H2=>?_));have H2:HS g h2 (qk b (ge { f with state:=0 })::qk b0 (jh l)::R):=H2;have H3:=H2;unfold ge x9 jh at H3;refine qV ?_;(try dsimp only);refine qQ (qX ‹_› e_1 rfl ?_)
 unfold kc;obtain⟨w,d,o⟩:=l;cases d with
 |true=>
  rw[iJ rfl];refine qZ (qG (qQ (qF H2 (b:=b0) (off:=0) e_1 rfl omQ (l:=jh (w,true,o)) rfl ?_)));refine qW (GE (l:=(w,true,o)) omQ hp H2) ?_;rintro _ h4 ⟨rfl,H4⟩;cases hw:(jO f.p (w,true,o)).1 with
  |true=>rw[iJ rfl];refine jW (qJ (qx ?_));exact qq (H4.sub (.cons .here (.drop .refl)))
  |false=>rw[iQ osQ];have H5:=H4;unfold jh at H5;refine jk (qZ (qG (qQ (qQ (qX ‹_› e_1 rfl ?_)))));refine qW (gE omQ H4) λ_ h5 H5=>?_;refine qx ?_;exact qq (H5.sub (.cons .here (.drop .refl)))
 |false=>
  rw[iQ osQ];refine qJ (qQ (qX ‹_› e_1 rfl ?_));refine qG (qQ (qX ‹_› .here rfl ?_));by_cases c:f.stamp<w
  ·refine yj c ?_;rw[iJ c];refine qZ (qG (qQ (qW (gE omQ H2) λ_ h5 H5=>?_)));refine qx ?_;exact qq (H5.sub (.cons .here (.drop .refl)))
  ·refine xW c ?_;rw[iQ c];refine qJ (qF H3 (b:=b0) (off:=0) e_1 rfl omQ (l:=jh (w,false,o)) rfl ?_);refine qG (qQ (qd H3 (b:=b) .here rfl (by show 9+3≤13;omega) rfl λh5 H5=>?_));refine qG (qQ (qg H5 (b:=b) .here ⟨rfl,rfl⟩ (by simp[kT]) λh6 H6=>?_));refine qx ?_;exact qq (H6.sub (.cons .here (.drop .refl)))
theorem qWp {a:AnM} (hn:3≤n) (hp:G7 f.p) (H:HS g h (qk b (ge f)::R)):t_w n 369 [.ptr b 0,.agg (zp a)] h λ_ h'=>HS g h' (qk b (ge (z6 f a))::R):=by
 (refine qw (g:=W369) rfl omQ λk hk=>?_;show wp (S369 (callT tab qj k) _ _ _) _;unfold S369;try simp only[iI,uU,iZ])
 generalize hF:z6 f a=F;refine qI H rfl λb0 h1 H1=>?_;refine jd [] (λ_ h'=>HS g h' (qk b (ge F)::R)) (λj hj=>?_) λ_ h' H'=>?_
 rotate_left
 ·refine qx ?_;exact qq H'
 refine qG (qQ (qF H1 (b:=b0) (off:=0) .here rfl omQ (l:=zp a) rfl ?_));refine qW (JL omQ (H1.sel e_1)) ?_;rintro _ h2 ⟨rfl,H2⟩;unfold z6 at hF;cases hs:(jZ f.p a).1 with
 |true=>rw[iJ hs]at hF;refine qZ ?_;exact hj _ _ (by rw[← hF];exact H2.sub (.cons .here (.drop .refl)))
 |false=>
  rw[iQ (by rw[hs];simp)]at hF;have hsp:(jZ f.p a).2=f.p∧f.p.fin=0:=by
   unfold jZ at hs ⊢
   split at hs
   ·cases hs
   ·rename_i c;rw[iQ c];exact⟨rfl,by simpa using hs⟩
  rw[hsp.1]at H2;have H3:HS g h2 (qk b (ge f)::qk b0 (zp a)::R):=H2;have H4:=H3;unfold ge x9 zp at H4;refine qJ (qG (qQ (qX ‹_› .here rfl ?_)));by_cases c1:f.state=1
  ·refine qz c1 ?_;rw[iJ c1]at hF;refine qZ (qQ (qX ‹_› e_1 rfl ?_));refine qG (qQ (qg H4 (b:=b) .here ⟨rfl,rfl⟩ osQ λh5 H5=>?_));refine qG (qQ (qg H5 (b:=b) .here ⟨rfl,rfl⟩ osQ λh6 H6=>?_));exact hj _ _ (by rw[← hF];exact H6.sub (.cons .here (.drop .refl)))
  refine qK c1 ?_;rw[iQ c1]at hF;refine qJ (qG (qQ (qX ‹_› .here rfl ?_)));by_cases c2:f.state=2
  ·refine qz c2 ?_;refine qV ?_;(try dsimp only);refine qa ?_;(try dsimp only);refine qQ ?_
   refine qF H4 (b:=b0) (off:=1) e_1 rfl omQ (l:=jh a.lk) rfl ?_;refine qG (qQ (qF H4 (b:=b) (off:=9) .here rfl omQ (l:=jh f.lk) rfl ?_));refine qXE (p:=a.lk=f.lk) (qvi _ _) (λc3=>?_) (λc3=>?_)
   ·rw[iJ ⟨c2,c3⟩]at hF;show wp (gp (.bool true) (.bool true) (.bool false) _) _;refine qE (qZ (qG (qQ (qW (gE omQ H3) λ_ h5 H5=>?_))));exact hj _ _ (by rw[← hF];exact H5.sub (.cons .here (.drop .refl)))
   ·rw[iQ (λh=>c3 h.2)]at hF;refine qE (qJ (qQ (qF H4 (b:=b0) (off:=1) e_1 rfl omQ (l:=jh a.lk) rfl ?_)));refine qW (Vu omQ (hp hsp.2) H3) λ_ h5 H5=>?_;exact hj _ _ (by rw[← hF];exact H5.sub (.cons .here (.drop .refl)))
  ·refine qK c2 ?_;rw[iQ (λh=>c2 h.1)]at hF;refine qV ?_;(try dsimp only);refine qR ?_;(try dsimp only);refine qC (qJ (qQ ?_))
   refine qF H4 (b:=b0) (off:=1) e_1 rfl omQ (l:=jh a.lk) rfl ?_;refine qW (Vu omQ (hp hsp.2) H3) λ_ h5 H5=>?_;exact hj _ _ (by rw[← hF];exact H5.sub (.cons .here (.drop .refl)))
theorem Kz (hn:2≤n) (H:HS g h L) (s:Sel L (qk b (ge f)) R):t_w n 176 [.ptr b 0] h λr h'=>r=.int .i64 f.p.fin∧h'=h:=by
 refine t_e1 (S:=S176) rfl omQ λk hk=>?_;unfold S176;try simp only[iZ]
 refine qG (qQ (qW (XG omQ H s) ?_));rintro _ _ ⟨rfl,rfl⟩;exact qq ⟨rfl,rfl⟩
theorem qgd (hn:2≤n) (H:HS g h L) (s:Sel L (qk b (ge f)) R):t_w n 367 [.ptr b 0] h λr h'=>r=.int .i64 f.p.by_∧h'=h:=by
 refine t_e1 (S:=S367) rfl omQ λk hk=>?_;unfold S367;try simp only[iZ]
 refine qG (qQ (qW (qJt omQ H s) ?_));rintro _ _ ⟨rfl,rfl⟩;exact qq ⟨rfl,rfl⟩
theorem qYP (hn:3≤n) (H:HS g h L) (s:Sel L (qk b (ge f)) R):t_w n 180 [.ptr b 0] h λr h'=>r=.int .u64 (xn f)∧h'=h:=by
 refine t_e1 (S:=S180) rfl omQ λk hk=>?_;unfold S180;try simp only[iZ]
 refine qW (Kz omQ H s) ?_;rintro _ _ ⟨rfl,rfl⟩;unfold xn;by_cases c:f.p.fin=2
 ·refine q8 c ?_;rw[iQ (λh=>h c)];refine qJ (qG (qQ ?_));exact qX H s rfl (qq ⟨rfl,rfl⟩)
 ·refine qu c ?_;rw[iJ c];refine qZ ?_;exact qq ⟨rfl,rfl⟩
def y7 (x:xG):List AV:=[.int .i64 x.1,.int .u64 x.2]
theorem qWT (hn:3≤n) (H:HS g h L) (s:Sel L (qk b (ge f)) R):t_w n 178 [.ptr b 0] h λr h'=>r=.agg (y7 (yW f))∧HS g h' L:=by
 refine t_e1 (S:=S178) rfl omQ λk hk=>?_;unfold S178;try simp only[iZ]
 refine qI H rfl λb0 h1 H1=>?_;refine qW (Kz omQ H1 (.there s)) ?_;rintro _ _ ⟨rfl,rfl⟩;unfold yW;by_cases c:f.p.fin=2
 ·refine q8 c ?_;rw[iQ (λh=>h c)];refine qJ (qG (qQ (qX H1 (.there s) rfl ?_)));refine qG (qQ (qX H1 (.there s) rfl ?_));refine qH rfl ?_;refine qd H1 (b:=b0) .here rfl (by show 0+2≤2;omega) rfl λh3 H3=>?_;refine qF H3 (b:=b0) (off:=0) .here rfl omQ (l:=y7 (f.stripe,f.lk.1)) rfl ?_;exact qq ⟨rfl,H3.drop⟩
 ·refine qu c ?_;rw[iJ c];refine qZ (qH rfl ?_);refine qd H1 (b:=b0) .here rfl (by show 0+2≤2;omega) rfl λh3 H3=>?_;refine qF H3 (b:=b0) (off:=0) .here rfl omQ (l:=y7 (0,0)) rfl ?_;exact qq ⟨rfl,H3.drop⟩
end
end
section
variable {g h:AH} {L R:List SP}
section
variable {n m:Nat} {v:AV} {xs:List AV}
theorem qX8 (hn:1≤n) (H:HS g h L) (s:Sel L (qA 47 3 m v xs) R) (ha:qo xs=true) (hm:m≤1000000) :
  t_w n 99 [v] h λr h'=>HS g h' (qA 47 3 m r xs::L):=by
 refine t_e1 (S:=S99) rfl omQ λk hk=>?_;unfold S99;try simp only[iZ]
 refine Xj H s (λh1 h2=>?_) (qJ ?_)
 ·subst h1 h2;obtain rfl:xs=[]:=iA (by simpa using H.sl_len s);exact qZ (qq H.nils)
 ·refine qe (n:=0) (l:=[]) (sz:=3) H rfl rfl rfl rfl λv2 h2 H2=>?_;refine jR H2 (H2.sl (.there s)) omQ omQ ha λv3 h3 H3=>?_;rw[Nat.zero_add,List.nil_append]at H3;exact qq H3
theorem YC (hn:1≤n) (H:HS g h L) (s:Sel L (qA 125 2 m v xs) R) (ha:qo xs=true) (hm:m≤1000000) :
  t_w n 129 [v] h λr h'=>HS g h' (qA 125 2 m r xs::L):=by
 refine t_e1 (S:=S129) rfl omQ λk hk=>?_;unfold S129;try simp only[iZ]
 refine Xj H s (λh1 h2=>?_) (qJ ?_)
 ·subst h1 h2;obtain rfl:xs=[]:=iA (by simpa using H.sl_len s);exact qZ (qq H.nils)
 ·refine qe (n:=0) (l:=[]) (sz:=2) H rfl rfl rfl rfl λv2 h2 H2=>?_;refine jR H2 (H2.sl (.there s)) omQ omQ ha λv3 h3 H3=>?_;rw[Nat.zero_add,List.nil_append]at H3;exact qq H3
end
theorem qZ9 {f:Int→AV} (hf:∀x,(f x).one=true):∀l:List Int,qo (l.map f)=true:=by intro l;unfold qo;rw[List.all_map,List.all_eq_true];intro x _;exact hf x
theorem Jm {α:Type} {f:α→List AV} (hf:∀x,qo (f x)=true):∀l:List α,qo (l.flatMap f)=true:=by
 intro l
 induction l with
 |nil=>rfl
 |cons x l ih=>rw[List.flatMap_cons];unfold qo at*;rw[List.all_append,hf,ih];rfl
section
variable {n b m:Nat} {v wd:AV} {e:TypeId} {xs:List AV} {R2:List SP}
theorem qvI (hn:2≤n) (H:HS g h L) (s:Sel L (qk b [v,wd]) R) (s2:Sel L (qA 47 3 m v xs) R2) (ha:qo xs=true) (hm:m≤1000000) :
  t_w n 66 [.ptr b 0] h λr h'=>HS g h' (qA 47 3 m r xs::L):=by
 refine t_e1 (S:=S66) rfl omQ λk hk=>?_;unfold S66;try simp only[iZ]
 refine qG (qQ (qX H s rfl ?_));exact qW (qX8 omQ H s2 ha hm) λ_ _ H1=>qq H1
end
section
variable {n p hb tb cb sb:Nat} {wv lv sv:AV} {S:zr} {M:zJ} {o:OpM}
theorem MemC.I1 {X:SP} (H:HS g h (X::qJN p hb tb cb sb wv lv sv S M R)):HS g h (X::MemC p S M::R):=HS.unsel e_1 (MemC.I (HS.back (A:=qJN p hb tb cb sb wv lv sv S M []) H))
theorem qVr (hn:3≤n) (hw:M.l.length≤1000000) (H:HS g h (MemC p S M::R)) :
  t_w n 34 [.ptr p 0] h λr h'=>HS g h' (qA 47 3 M.l.length r (M.l.flatMap jh)::MemC p S M::R):=by
 refine t_e1 (S:=S34) rfl omQ λk hk=>?_;unfold S34;try simp only[iZ]
 obtain⟨hb,tb,cb,sb,wv,lv,sv,H⟩:=MemC.E H;refine qG (qQ (qX ‹_› .here rfl ?_));exact qW (qvI omQ H e_3 e_4 (Jm (λ_=>rfl) _) hw) λ_ _ H1=>qq (MemC.I1 H1)
theorem Z7 {b:Nat} {x:Int} (hn:1≤n) (H:HS g h L) (s:Sel L (qk b [.int .u64 x]) R):t_w n 55 [.ptr b 0] h λr h'=>r=.int .u64 x∧h'=h:=by
 refine t_e1 (S:=S55) rfl omQ λk hk=>?_;unfold S55;try simp only[iZ]
 refine qG (qQ ?_);exact qX H s rfl (qq ⟨rfl,rfl⟩)
theorem qvd (hn:2≤n) (H:HS g h (MemC p S M::R)):t_w n 29 [.ptr p 0] h λr h'=>r=.int .u64 M.n∧h'=h:=by
 refine t_e1 (S:=S29) rfl omQ λk hk=>?_;unfold S29;try simp only[iZ]
 obtain⟨hb,tb,cb,sb,wv,lv,sv,H⟩:=MemC.E H;refine qG (qQ (qX ‹_› .here rfl ?_));refine qW (Z7 omQ H e_5) ?_;rintro _ _ ⟨rfl,rfl⟩;exact qq ⟨rfl,rfl⟩
theorem qkM {b:Nat} (hn:1≤n) (H:HS g h (qk b [.int .u64 M.n]::R)):t_w n 80 [.ptr b 0,.int .u64 o.old,.int .u64 o.word] h λr h'=>
  r=.tup [.bool (Jy M { o with kind:=7 }).1.done,.int .i64 (Jy M { o with kind:=7 }).1.err]∧HS g h' (qk b [.int .u64 (Jy M { o with kind:=7 }).2.n]::R):=by
 refine t_e3 (S:=S80) rfl omQ λk hk=>?_;unfold S80;try simp only[iZ]
 unfold Jy;rw[iQ (show¬(7:Int)=6 by decide)];refine wF (λc1=>?_) (λc1=>?_)
 ·rw[iJ c1];refine qZ ?_;exact qq ⟨rfl,H⟩
 rw[iQ c1];refine qJ (yq (λc2=>?_) (λc2=>?_))
 ·rw[iJ (by dsimp only;omega)];refine qZ ?_;exact qq ⟨rfl,H⟩
 rw[iQ (by dsimp only;omega)];refine qJ (qG (qQ (qX ‹_› .here rfl ?_)));refine vw (λc3=>?_) (λc3=>?_)
 ·rw[iJ c3];refine qZ ?_;exact qq ⟨rfl,H⟩
 ·rw[iQ (λh=>h c3)];refine qJ (qG (qQ (qg H (b:=b) .here ⟨rfl,rfl⟩ osQ λh2 H2=>?_)));exact qq ⟨rfl,H2⟩
def yc (M:zJ) (o:OpM):AnM×zJ:=if o.kind=1∨o.kind=2 then UF M o else if o.kind=3∨o.kind=4∨o.kind=5 then Y1 M o else if o.kind=6∨o.kind=7 then Jy M o else if o.kind=8∨o.kind=9 then Zj M o else(anE 1,M)
theorem wM:jg M o=if(yc M o).1.err=0 then((yc M o).1,{ (yc M o).2 with cnt:=(yc M o).2.cnt+1 })else yc M o:=rfl
theorem ZN:(yc M o).2.cnt=M.cnt:=by
 unfold yc UF Y1 Jy Zj
 repeat' split
 all_goals rfl
theorem qwE (hn:6≤n) (H:HS g h (MemC p S M::R)) :
  t_w n 48 [.ptr p 0,.agg (yX o)] h λr h'=>r=.agg (zp (yc M o).1)∧HS g h' (MemC p S (yc M o).2::R):=by
 refine t_e2 (S:=S48) rfl omQ λk hk=>?_;unfold S48;try simp only[iZ]
 generalize hr:yc M o=r;obtain⟨hb,tb,cb,sb,wv,lv,sv,H⟩:=MemC.E H;refine qI H rfl λb0 h1 H1=>?_;refine qI H1 rfl λb1 h2 H2=>?_;refine qI H2 rfl λb2 h3 H3=>?_;clear H1 H2;unfold yX at H3;refine qQ (qX H3 (b:=b0) e_2 rfl ?_);refine jd [] (λs h'=>s=(.ptr b2 0,.ptr b1 0,())∧HS g h' (qk b2 (zp r.1)::qk b1 (zp an0)::qJN p hb tb cb sb wv lv sv S r.2 R)) ?_ ?_
 rotate_left
 ·rintro s h4 ⟨rfl,H4⟩;dsimp only;refine qF H4 (b:=b2) (off:=0) .here rfl omQ (l:=zp r.1) rfl ?_;refine qd H4 (b:=b1) e_1 rfl (by show 0+6≤6;omega) rfl λh5 H5=>?_;refine qx (qF H5 (b:=b1) (off:=0) .here rfl omQ (l:=zp r.1) rfl ?_);exact qq ⟨rfl,MemC.I (H5.drop.drop)⟩
 intro j hj;by_cases k1:o.kind=1
 ·refine qz k1 ?_;refine qZ (qG (qQ (qX ‹_› e_3 rfl ?_)));refine qQ (qX ‹_› e_2 rfl ?_);have e:r=(⟨(if 1≤o.at_∧o.at_<M.w.length then qM M.w o.at_ else 0),lk0,false,(if 1≤o.at_∧o.at_<M.w.length then 0 else 2)⟩,M):=by
   rw[← hr];unfold yc UF anE;rw[iJ (.inl k1)];by_cases c:1≤o.at_∧o.at_<M.w.length
   ·rw[iQ omQ,iJ k1,iJ c,iJ c]
   ·rw[iJ omQ,iQ c,iQ c]
  subst e;refine qW (qqo omQ H3 e_4 e_5) ?_;rintro _ _ ⟨rfl,rfl⟩;refine qy rfl ?_;refine qy rfl ?_;refine qQ (qg H3 (b:=b2) .here ⟨rfl,rfl⟩ (by show 0<6;omega) λh4 H4=>?_);refine qQ (qg H4 (b:=b2) .here ⟨rfl,rfl⟩ (by show 5<6;omega) λh5 H5=>?_);exact hj _ _ ⟨rfl,H5.sub (.cons .here (.cons .here (.drop .refl)))⟩
 refine qK k1 ?_;refine qJ ?_;by_cases k2:o.kind=2
 ·refine qz k2 ?_;refine qZ (qG (qQ (qX ‹_› e_3 rfl ?_)));refine qQ (qX ‹_› e_2 rfl ?_);refine qQ (qX ‹_› e_2 rfl ?_);have e:r=(⟨0,lk0,false,(if 1≤o.at_∧o.at_<M.w.length then 0 else 2)⟩,{ M with w:=(if 1≤o.at_∧o.at_<M.w.length then M.w.set o.at_.toNat o.word else M.w) }):=by
   rw[← hr];unfold yc UF anE;rw[iJ (.inr k2)];by_cases c:1≤o.at_∧o.at_<M.w.length
   ·rw[iQ omQ,iQ k1,iJ c,iJ c];rfl
   ·rw[iJ omQ,iQ c,iQ c]
  subst e;refine qW (qKT omQ (H3.sub (.cons e_4 (.cons e_4 .refl)))) ?_;rintro _ h4 ⟨rfl,H4⟩;refine qQ (qg H4 (b:=b2) e_2 ⟨rfl,rfl⟩ (by show 5<6;omega) λh5 H5=>?_);exact hj _ _ ⟨rfl,H5.sub (.cons .here (.cons e_2 (.cons e_3 (.cons .here (.cons .here (.drop .refl))))))⟩
 refine qK k2 ?_;refine qJ ?_;by_cases k3:o.kind=3
 ·refine qz k3 ?_;refine qZ (qG (qQ (qX ‹_› e_3 rfl ?_)));refine qQ (qX ‹_› e_2 rfl ?_);have e:r=(⟨0,(if 0≤o.at_∧o.at_<M.l.length then jF M.l o.at_ else lk0),false,(if 0≤o.at_∧o.at_<M.l.length then 0 else 2)⟩,M):=by
   rw[← hr];unfold yc Y1 anE;rw[iQ omQ,iJ (.inl k3)];by_cases c:0≤o.at_∧o.at_<M.l.length
   ·rw[iQ omQ,iJ k3,iJ c,iJ c]
   ·rw[iJ omQ,iQ c,iQ c]
  subst e;refine qW (qqr omQ H3 e_6 e_7) ?_;rintro _ h4 ⟨rfl,H4⟩;refine qy rfl ?_;refine qy rfl ?_;refine qQ (qd H4 (b:=b2) .here rfl (by show 1+3≤6;omega) rfl λh5 H5=>?_);refine qQ (qg H5 (b:=b2) .here ⟨rfl,rfl⟩ (by show 5<6;omega) λh6 H6=>?_);exact hj _ _ ⟨rfl,H6.sub (.cons .here (.cons .here (.drop .refl)))⟩
 refine qK k3 ?_;refine qJ ?_;by_cases k4:o.kind=4
 ·refine qz k4 ?_;refine qZ (qG (qQ (qX ‹_› e_3 rfl ?_)));refine qQ (qX ‹_› e_2 rfl ?_);refine qQ ?_;have e:r=(⟨0,lk0,decide (kL M.l.length o.at_ o.lk=0∧jF M.l o.at_=o.was),kL M.l.length o.at_ o.lk⟩,{ M with l:=if kL M.l.length o.at_ o.lk=0∧jF M.l o.at_=o.was then M.l.set o.at_.toNat o.lk else M.l }):=by
   rw[← hr];unfold yc Y1 kL anE an0;rw[iQ omQ,iJ (.inr (.inl k4))];by_cases c:0≤o.at_∧o.at_<M.l.length
   ·rw[iQ omQ,iQ k3,iJ c];by_cases c2:kj o.lk
    ·rw[iQ (λh=>h c2),iQ omQ,iJ c2];by_cases c3:jF M.l o.at_=o.was
     ·rw[iQ (λh=>h c3),iG ⟨rfl,c3⟩,iJ ⟨rfl,c3⟩]
     ·rw[iJ c3,iV (λh=>c3 h.2),iQ (λh=>c3 h.2)]
    ·rw[iJ c2,iQ c2,iV osQ,iQ osQ]
   ·rw[iJ omQ,iQ c,iV osQ,iQ osQ]
  subst e;refine qF H3 (b:=b0) (off:=4) e_2 rfl omQ (l:=jh o.was) rfl ?_;refine qQ (qF H3 (b:=b0) (off:=7) e_2 rfl omQ (l:=jh o.lk) rfl ?_);refine qW (qk6 omQ (H3.sub (.cons e_6 (.cons e_6 .refl)))) ?_;rintro _ h4 ⟨rfl,H4⟩;refine qy rfl ?_;refine qy rfl ?_;refine qQ (qg H4 (b:=b2) e_2 ⟨rfl,rfl⟩ (by show 4<6;omega) λh5 H5=>?_);refine qQ (qg H5 (b:=b2) .here ⟨rfl,rfl⟩ (by show 5<6;omega) λh6 H6=>?_);exact hj _ _ ⟨rfl,H6.sub (.cons .here (.cons e_2 (.cons e_3 (.cons e_3 (.cons e_3 (.cons .here (.cons .here (.drop .refl))))))))⟩
 refine qK k4 ?_;refine qJ ?_;by_cases k5:o.kind=5
 ·refine qz k5 ?_;refine qZ (qG (qQ (qX ‹_› e_3 rfl ?_)));refine qQ (qX ‹_› e_2 rfl ?_);refine qQ ?_;have e:r=(⟨0,lk0,false,kL M.l.length o.at_ o.lk⟩,{ M with l:=if kL M.l.length o.at_ o.lk=0 then M.l.set o.at_.toNat o.lk else M.l }):=by
   rw[← hr];unfold yc Y1 kL anE an0;rw[iQ omQ,iJ (.inr (.inr k5))];by_cases c:0≤o.at_∧o.at_<M.l.length
   ·rw[iQ omQ,iQ k3,iJ c];by_cases c2:kj o.lk
    ·rw[iQ (λh=>h c2),iJ k5,iJ c2,iJ rfl]
    ·rw[iJ c2,iQ c2,iQ od]
   ·rw[iJ omQ,iQ c,iQ od]
  subst e;refine qF H3 (b:=b0) (off:=7) e_2 rfl omQ (l:=jh o.lk) rfl ?_;refine qW (qV6 omQ (H3.sub (.cons e_6 (.cons e_6 .refl)))) ?_;rintro _ h4 ⟨rfl,H4⟩;refine qQ (qg H4 (b:=b2) e_2 ⟨rfl,rfl⟩ (by show 5<6;omega) λh5 H5=>?_);exact hj _ _ ⟨rfl,H5.sub (.cons .here (.cons e_2 (.cons e_3 (.cons e_3 (.cons e_3 (.cons .here (.cons .here (.drop .refl))))))))⟩
 refine qK k5 ?_;refine qJ ?_;by_cases k6:o.kind=6
 ·refine qz k6 ?_;refine qZ (qG (qQ (qX ‹_› e_3 rfl ?_)));have e:r=(⟨M.n,lk0,false,0⟩,M):=by
   rw[← hr];unfold yc Jy;rw[iQ omQ,iQ omQ,iJ (.inl k6),iJ k6]
  subst e;refine qW (Z7 omQ H3 e_8) ?_;rintro _ _ ⟨rfl,rfl⟩;refine qQ (qg H3 (b:=b2) .here ⟨rfl,rfl⟩ (by show 0<6;omega) λh4 H4=>?_);exact hj _ _ ⟨rfl,H4.sub (.cons .here (.cons .here (.drop .refl)))⟩
 refine qK k6 ?_;refine qJ ?_;by_cases k7:o.kind=7
 ·refine qz k7 ?_;refine qZ (qG (qQ (qX ‹_› e_3 rfl ?_)));refine qQ (qX ‹_› e_2 rfl ?_);refine qQ (qX ‹_› e_2 rfl ?_);have e:r=(⟨0,lk0,(Jy M { o with kind:=7 }).1.done,(Jy M { o with kind:=7 }).1.err⟩,{ M with n:=(Jy M { o with kind:=7 }).2.n }):=by
   rw[← hr];unfold yc Jy anE an0;rw[iQ omQ,iQ omQ,iJ (.inr k7),iQ k6,iQ (show¬(7:Int)=6 by decide)];dsimp only
   repeat' split
   all_goals rfl
  subst e;refine qW (qkM (o:=o) omQ (H3.sub (.cons e_8 .refl))) ?_;rintro _ h4 ⟨rfl,H4⟩;refine qy rfl ?_;refine qy rfl ?_;refine qQ (qg H4 (b:=b2) e_1 ⟨rfl,rfl⟩ (by show 4<6;omega) λh5 H5=>?_);refine qQ (qg H5 (b:=b2) .here ⟨rfl,rfl⟩ (by show 5<6;omega) λh6 H6=>?_);exact hj _ _ ⟨rfl,H6.sub (.cons .here (.cons e_1 (.cons e_2 (.cons e_2 (.cons e_2 (.cons e_2 (.cons e_2 (.cons .here (.drop .refl)))))))))⟩
 refine qK k7 ?_;refine qJ ?_;by_cases k8:o.kind=8
 ·refine qz k8 ?_;refine qZ (qG (qQ (qX ‹_› e_3 rfl ?_)));refine qQ (qX ‹_› e_2 rfl ?_);have e:r=(⟨(if 0≤o.at_∧o.at_<M.s.length then qM M.s o.at_ else 0),lk0,false,(if 0≤o.at_∧o.at_<M.s.length then 0 else 2)⟩,M):=by
   rw[← hr];unfold yc Zj anE;rw[iQ omQ,iQ omQ,iQ omQ,iJ (.inl k8)];by_cases c:0≤o.at_∧o.at_<M.s.length
   ·rw[iQ omQ,iJ k8,iJ c,iJ c]
   ·rw[iJ omQ,iQ c,iQ c]
  subst e;refine qW (qjd omQ H3 e_9 e_10) ?_;rintro _ _ ⟨rfl,rfl⟩;refine qy rfl ?_;refine qy rfl ?_;refine qQ (qg H3 (b:=b2) .here ⟨rfl,rfl⟩ (by show 0<6;omega) λh4 H4=>?_);refine qQ (qg H4 (b:=b2) .here ⟨rfl,rfl⟩ (by show 5<6;omega) λh5 H5=>?_);exact hj _ _ ⟨rfl,H5.sub (.cons .here (.cons .here (.drop .refl)))⟩
 refine qK k8 ?_;refine qJ ?_;by_cases k9:o.kind=9
 ·refine qz k9 ?_;refine qZ (qG (qQ (qX ‹_› e_3 rfl ?_)));refine qQ (qX ‹_› e_2 rfl ?_);refine qQ (qX ‹_› e_2 rfl ?_);have e:r=(⟨0,lk0,false,(if 0≤o.at_∧o.at_<M.s.length then 0 else 2)⟩,{ M with s:=(if 0≤o.at_∧o.at_<M.s.length then M.s.set o.at_.toNat o.word else M.s) }):=by
   rw[← hr];unfold yc Zj anE;rw[iQ omQ,iQ omQ,iQ omQ,iJ (.inr k9)];by_cases c:0≤o.at_∧o.at_<M.s.length
   ·rw[iQ omQ,iQ k8,iJ c,iJ c];rfl
   ·rw[iJ omQ,iQ c,iQ c]
  subst e;refine qW (qX0 omQ (H3.sub (.cons e_9 (.cons e_9 .refl)))) ?_;rintro _ h4 ⟨rfl,H4⟩;refine qQ (qg H4 (b:=b2) e_2 ⟨rfl,rfl⟩ (by show 5<6;omega) λh5 H5=>?_);exact hj _ _ ⟨rfl,H5.sub (.cons .here (.cons e_2 (.cons e_3 (.cons e_3 (.cons e_3 (.cons e_3 (.cons e_3 (.cons e_3 (.cons .here (.cons .here (.drop .refl)))))))))))⟩
 refine qK k9 ?_;refine qJ (qQ ?_);have e:r=(anE 1,M):=by rw[← hr];unfold yc;rw[iQ omQ,iQ omQ,iQ omQ,iQ omQ]
 subst e;refine qg H3 (b:=b2) .here ⟨rfl,rfl⟩ (by show 5<6;omega) λh4 H4=>?_;exact hj _ _ ⟨rfl,H4.sub (.cons .here (.cons .here (.drop .refl)))⟩
theorem qjN (hn:7≤n) (hc:0≤M.cnt∧M.cnt<1000000000) (H:HS g h (MemC p S M::R)) :
  t_w n 26 [.ptr p 0,.agg (yX o)] h λr h'=>r=.agg (zp (jg M o).1)∧HS g h' (MemC p S (jg M o).2::R):=by
 refine t_e2 (S:=S26) rfl omQ λk hk=>?_;unfold S26;try simp only[iZ]
 refine qI H rfl λb0 h1 H1=>?_;refine qI H1 rfl λb1 h2 H2=>?_;refine qF H2 (b:=b0) (off:=0) e_1 rfl omQ (l:=yX o) rfl ?_;refine qW (qwE (o:=o) omQ (H2.sel e_2)) ?_;rintro _ h3 ⟨rfl,H3⟩;have ec:(yc M o).2.cnt=M.cnt:=ZN;rw[wM];generalize yc M o=r at*;obtain⟨r,M'⟩:=r;dsimp only at ec H3 ⊢;refine qI H3 rfl λb2 h4 H4=>?_;refine qd H4 (b:=b2) .here rfl (by show 0+6≤6;omega) rfl λh5 H5=>?_;have H5:HS g h5 (qk b2 (zp r)::MemC p S M'::qk b1 (zp an0)::qk b0 (yX o)::R):=H5;clear H3 H4;have H6:=H5;unfold zp at H6;refine jd [] (λs h'=>s=(.ptr b2 0,.ptr b1 0,())∧HS g h' (qk b2 (zp r)::qk b1 (zp an0)::MemC p S (if r.err=0 then(r,{ M' with cnt:=M'.cnt+1 })else(r,M')).2::R)) ?_ ?_
 rotate_left
 ·rintro s h4 ⟨rfl,H4⟩;dsimp only;refine qF H4 (b:=b2) (off:=0) .here rfl omQ (l:=zp r) rfl ?_;refine qd H4 (b:=b1) e_1 rfl (by show 0+6≤6;omega) rfl λh5 H5=>?_;refine qx (qF H5 (b:=b1) (off:=0) .here rfl omQ (l:=zp r) rfl ?_);refine qq ⟨by split<;>rfl,?_⟩;exact H5.drop.drop
 intro j hj;refine qQ (qX ‹_› .here rfl ?_);by_cases c:r.err=0
 ·refine qz c ?_;rw[iJ c]at hj ⊢;refine qZ (qG (qQ ?_));obtain⟨hb,tb,cb,sb,wv,lv,sv,H7⟩:=MemC.E (H5.sel e_1);refine qX ‹_› .here rfl ?_;refine qb omQ ?_;refine qG (qQ (qg H7 (b:=p) .here ⟨rfl,rfl⟩ (by show 9<10;omega) λh8 H8=>?_));have H9:HS g h8 (MemC p S { M' with cnt:=M'.cnt+1 }::_):=MemC.I (hb:=hb) (tb:=tb) (cb:=cb) (sb:=sb) (wv:=wv) (lv:=lv) (sv:=sv) H8;exact hj _ _ ⟨rfl,H9.sub (.cons e_1 (.cons e_1 (.cons .here (.drop .refl))))⟩
 ·refine qK c ?_;rw[iQ c]at hj ⊢;refine qJ ?_;exact hj _ _ ⟨rfl,H5.sub (.cons .here (.cons e_1 (.cons .here (.drop .refl))))⟩
end
end
section
variable {g h:AH} {L R:List SP}
theorem qYl:∀{a b:List Int},a.Pairwise (· < ·)→b.Pairwise (· < ·)→(∀x,x∈a↔x∈b)→a=b:=by
 intro a
 induction a with
 |nil=>
  intro b _ _ h;cases b with
  |nil=>rfl
  |cons y b=>have:=(h y).2 (iK ..);cases this
 |cons x a ih=>
  intro b ha hb h;cases b with
  |nil=>have:=(h x).1 (iK ..);cases this
  |cons y b=>
   have ha':=List.pairwise_cons.1 ha;have hb':=List.pairwise_cons.1 hb;have e:x=y:=by
    rcases List.mem_cons.1 ((h x).1 (iK ..))with e |e
    ·exact e
    ·rcases List.mem_cons.1 ((h y).2 (iK ..))with e2 |e2
     ·exact e2.symm
     ·have h1:=hb'.1 x e;have h2:=ha'.1 y e2;omega
   subst e
   congr 1
   refine ih ha'.2 hb'.2 λz=>⟨λhz=>?_,λhz=>?_⟩
   ·rcases List.mem_cons.1 ((h z).1 (iX _ hz))with e |e
    ·have:=ha'.1 z hz;omega
    ·exact e
   ·rcases List.mem_cons.1 ((h z).2 (iX _ hz))with e |e
    ·have:=hb'.1 z hz;omega
    ·exact e
theorem qXb {d:Array Int} (hs:∀i j,i≤j→j<d.size→d[i]! ≤d[j]!):∀m,m≤d.size→(Lib.compactUpTo d m).Pairwise (· < ·)∧∀x,x∈Lib.compactUpTo d m↔∃j,j<m∧d[j]! =x:=by
 intro m
 induction m with
 |zero=>intro _;exact⟨List.Pairwise.nil,λx=>⟨(λh=>by cases h),λ⟨j,h,_⟩=>by omega⟩⟩
 |succ m ih=>
  intro hm;obtain⟨p,q⟩:=ih omQ;rw[Lib.compactUpTo_succ];by_cases hk:Lib.keeps d m=true
  ·rw[iJ hk];refine⟨?_,λx=>?_⟩
   ·rw[List.pairwise_append];refine⟨p,List.pairwise_singleton ..,λa ha b hb=>?_⟩;rw[List.mem_singleton]at hb;subst hb;obtain⟨j,hj,rfl⟩:=(q a).1 ha;have h1:=hs j (m-1) omQ omQ;have h2:=hs (m-1) m omQ omQ;have h3:d[m]! ≠d[m-1]!:=by
     intro e;rw[Lib.keeps_neg omQ e]at hk;cases hk
    omega
   ·rw[List.mem_append,q x,List.mem_singleton];refine⟨λh=>?_,λ⟨j,hj,e⟩=>?_⟩
    ·rcases h with⟨j,hj,e⟩ |e
     ·exact⟨j,by omega,e⟩
     ·exact⟨m,by omega,e.symm⟩
    ·by_cases hjm:j=m
     ·subst hjm;exact .inr e.symm
     ·exact .inl ⟨j,by omega,e⟩
  ·rw[iQ hk,List.append_nil];refine⟨p,λx=>?_⟩;rw[q x];refine⟨λ⟨j,hj,e⟩=>⟨j,by omega,e⟩,λ⟨j,hj,e⟩=>?_⟩;by_cases hjm:j=m
   ·subst hjm;have h0:0<j:=by
     rcases Nat.eq_zero_or_pos j with h |h
     ·subst h;exact absurd (Lib.keeps_lt_one d 0 omQ) hk
     ·exact h
    refine⟨j-1,by omega,?_⟩;refine Decidable.byContradiction λhne=>hk (Lib.keeps_pos λh=>hne ?_);rw[← h,e]
   ·exact⟨j,by omega,e⟩
theorem qkb {zs:List Int} (h:zs.Pairwise (· ≤ ·)):(Lib.compact zs).Pairwise (· < ·)∧∀x,x∈Lib.compact zs↔x∈zs:=by
 have hg:∀i:Nat,i<zs.length→zs.toArray[i]! =zs[i]!:=λi hi=>by simp
 obtain⟨p,q⟩:=qXb (d:=zs.toArray) (λi j hij hj=>by
  have hj:j<zs.length:=by simpa using hj
  rw[hg i omQ,hg j hj,getElem!_pos zs i omQ,getElem!_pos zs j hj];by_cases e:i=j
  ·subst e;exact Int.le_refl _
  ·exact List.pairwise_iff_getElem.1 h i j omQ hj omQ) zs.length osQ
 refine⟨p,λx=>?_⟩;refine(q x).trans ⟨λ⟨j,hj,e⟩=>?_,λhx=>?_⟩
 ·rw[hg j hj,getElem!_pos zs j hj]at e;rw[← e];exact List.getElem_mem hj
 ·obtain⟨j,hj,e⟩:=List.mem_iff_getElem.1 hx;exact⟨j,hj,by rw[hg j hj,getElem!_pos zs j hj];exact e⟩
theorem ZI {p n w:Int} (h:0≤p):0≤ofM p n w∧ofM p n w<16:=by unfold ofM;rw[iQ omQ];have h1:=Int.emod_nonneg (p/max 1 (min w 16)) (show max 1 (min n 16)≠0 by omega);have h2:=Int.emod_lt_of_pos (p/max 1 (min w 16)) (show 0<max 1 (min n 16) by omega);omega
theorem Yo {cs:List Cl} {n w:Int}:(xA cs n w).Pairwise (· < ·):=by unfold xA;refine List.Pairwise.filter _ ?_;rw[List.pairwise_map];exact List.pairwise_lt_range.imp λh=>by omega
theorem J2 {cs:List Cl} {n w:Int} (h:∀c∈cs,0≤c.1) {x:Int}:x∈xA cs n w↔x∈cs.map λc=>ofM c.1 n w:=by unfold xA;rw[List.mem_filter,List.any_eq_true,List.mem_map,List.mem_map];refine⟨λ⟨_,c,hc,e⟩=>⟨c,hc,by simpa using e⟩,λ⟨c,hc,e⟩=>⟨?_,c,hc,by simpa using e⟩⟩;have:=ZI (n:=n) (w:=w) (h c hc);exact⟨x.toNat,List.mem_range.2 omQ,by omega⟩
theorem qQb {cs:List Cl} {n w:Int} (h:∀c∈cs,0≤c.1):Lib.compact (kl (cs.map λc=>ofM c.1 n w))=xA cs n w:=by obtain⟨p,q⟩:=qkb (Xo (cs.map λc=>ofM c.1 n w));exact qYl p Yo λx=>by rw[q,(JU _).mem_iff,J2 h]
section
variable {n m:Nat} {v:AV} {zs:List Int}
theorem qjR {e:TypeId} (hn:1≤n) (H:HS g h (qA e 1 m v (zs.map (.int .i64))::R)) (h0:0<m) (hm:m≤1000000) :
  t_w n 174 [v] h λ_ h'=>HS g h' (qA e 1 m v ((kl zs).map (.int .i64))::R):=by
 have hl:zs.length=m:=by have:=H.sl_len .here;simpa using this
 obtain⟨b,cp,o,ys,rfl,HC,q1,q2,q3⟩:=H.slE h0;rw[Nat.mul_one]at q1 q2;refine qw (g:=W174) rfl omQ λk hk=>?_;show wp (ZL _ [.slice b 0 m cp o] h) _;obtain⟨D,⟨hD,A⟩,hb2,kk⟩:=HC.act;obtain⟨c,c1,c2,c3⟩:=A.blk;unfold ZL;simp only[c1,c2];rw[q2,M8];simp only[];rw[show Nat.beq zs.length m=true from by rw[hl];exact Nat.beq_refl _,iY hm];simp only[Bool.and_self,cond_true];refine⟨_,_,rfl,?_⟩;have HC':=kk _ (Cell b ((kl zs).map (.int .i64)++ys.drop m) e o) D ⟨by simp,λa ha hn=>AH.get_put_ne h _ λe=>hn ((hD a).2 e.symm)⟩ ⟨hD,by simpa using A.lt,CT.ofList _,AH.get_put_same ..,CT.ofList_ok _,CT.full_ofList _⟩ λa ha=>⟨.inl ha,by have:=(hb2 a ha).2;simpa using this⟩;have hlen:((kl zs).map (AV.int .i64)).length=m:=by rw[List.length_map,VZ,hl]
 have:=HS.slI (n:=m) (sz:=1) (cp:=cp) HC' (by rw[List.length_append,hlen];omega) (by
  rw[List.length_append,hlen,List.length_drop,show m+(ys.length-m)=ys.length by omega];exact q3)
 rw[Nat.mul_one,List.take_append_of_le_length omQ,List.take_of_length_le omQ]at this;exact this
theorem qqB (hn:1≤n) (H:HS g h (qA 3 1 m v (zs.map (.int .i64))::R)) (h0:0<m) (hm:m≤1000000) :
  t_w n 175 [v] h λr h'=>HS g h' (qA 3 1 (Lib.compact zs).length r ((Lib.compact zs).map (.int .i64))::R):=by
 have hl:zs.length=m:=by have:=H.sl_len .here;simpa using this
 obtain⟨b,cp,o,ys,rfl,HC,q1,q2,q3⟩:=H.slE h0;rw[Nat.mul_one]at q1 q2;refine qw (g:=W175) rfl omQ λk hk=>?_;show wp (Ox 3 _ [.slice b 0 m cp o] h) _;obtain⟨D,⟨hD,A⟩,hb2,kk⟩:=HC.act;obtain⟨c,c1,c2,c3⟩:=A.blk;have hle:=qZO zs;unfold Ox;simp only[c1,c2];rw[q2,M8];simp only[];have hc:(Nat.beq zs.length m&&(Nat.ble m 1000000&&(bif o then Nat.beq cp 0&&(o&&Nat.beq 3 3)else Nat.ble m cp)))=true:=by
  rw[show Nat.beq zs.length m=true from by rw[hl];exact Nat.beq_refl _,iY hm];cases o with
  |true=>rw[iJ rfl]at q3;subst q3;rfl
  |false=>rw[iQ osQ]at q3;simp only[Bool.true_and,cond_false];exact iY q3.2
 rw[hc];simp only[cond_true];refine⟨_,_,rfl,?_⟩;have HC':=kk _ (Cell b ((Lib.compact zs++List.replicate (zs.length-(Lib.compact zs).length) 0).map (.int .i64)++ys.drop m) 3 o) D ⟨by simp,λa ha hn=>AH.get_put_ne h _ λe=>hn ((hD a).2 e.symm)⟩ ⟨hD,by simpa using A.lt,CT.ofList _,AH.get_put_same ..,CT.ofList_ok _,CT.full_ofList _⟩ λa ha=>⟨.inl ha,by have:=(hb2 a ha).2;simpa using this⟩;have hlen:((Lib.compact zs++List.replicate (zs.length-(Lib.compact zs).length) 0).map (AV.int .i64)).length=m:=by simp;omega
 have:=HS.slI (n:=(Lib.compact zs).length) (sz:=1) (cp:=cp) HC' (by rw[List.length_append,hlen];omega) (by
  rw[List.length_append,hlen,List.length_drop,show m+(ys.length-m)=ys.length by omega];cases o with
  |true=>exact q3
  |false=>rw[iQ osQ]at q3 ⊢;exact⟨q3.1,by omega⟩)
 have tk:((Lib.compact zs++List.replicate (zs.length-(Lib.compact zs).length) 0).map (AV.int .i64)++ys.drop m).take (Lib.compact zs).length=(Lib.compact zs).map (AV.int .i64):=by rw[List.take_append_of_le_length omQ,List.map_append,List.take_append_of_le_length osQ,List.take_of_length_le osQ]
 rw[Nat.mul_one,tk]at this;exact this
theorem qjb:∀{l:List Int},l.Pairwise (· ≤ ·)→UH l=true:=by
 intro l
 induction l with
 |nil=>intro _;rfl
 |cons x r ih=>
  intro h;cases r with
  |nil=>rfl
  |cons y r=>have h1:=List.pairwise_cons.1 h;unfold UH;rw[ih h1.2,iG (h1.1 y (iK ..))];rfl
theorem qj2 {e:TypeId} {x:Int} (hn:1≤n) (H:HS g h L) (s:Sel L (qA e 1 m v (zs.map (.int .i64))) R) (h0:0<m) (hm:m≤1000000) (hs:zs.Pairwise (· ≤ ·)) :
  t_w n 391 [v,.int .i64 x] h λr h'=>r=.tup [.int .i64 (zs.countP (· <x):Nat),.bool (zs.contains x)]∧h'=h:=by
 have hl:zs.length=m:=by have:=H.sl_len s;simpa using this
 obtain⟨b,cp,o,ys,rfl,HC,q1,q2,q3⟩:=(H.sel s).slE h0;rw[Nat.mul_one]at q1 q2;refine qw (g:=W391) rfl omQ λk hk=>?_;show wp (Oz _ [.slice b 0 m cp o,.int .i64 x] h) _;obtain⟨D,⟨hD,A⟩,hb2,kk⟩:=HC.act;obtain⟨c,c1,c2,c3⟩:=A.blk;unfold Oz;simp only[c1,c2];rw[q2,M8];simp only[];rw[show Nat.beq zs.length m=true from by rw[hl];exact Nat.beq_refl _,iY hm,qjb hs];exact⟨_,_,rfl,rfl,rfl⟩
end
theorem KH {n:Nat} {a b:Int} (hn:1≤n):t_w n 74 [.int .i64 a,.int .i64 b] h λr h'=>r=.int .i64 (max 1 (min a b))∧h'=h:=by
 refine t_e2 (S:=S74) rfl omQ λk hk=>?_;unfold S74;try simp only[iZ]
 refine zZ (ze ?_);exact qq ⟨rfl,rfl⟩
theorem qG2 {n:Nat} {p a w:Int} (hn:2≤n) (hp:p<4611686018427387904):t_w n 142 [.int .i64 p,.int .i64 a,.int .i64 w] h λr h'=>r=.int .i64 (ofM p a w)∧h'=h:=by
 refine t_e3 (S:=S142) rfl omQ λk hk=>?_;unfold S142;try simp only[iZ]
 unfold ofM;by_cases c:p<0
 ·refine jB c ?_;rw[iJ c];refine qZ ?_;exact qq ⟨rfl,rfl⟩
 ·refine jK c ?_;rw[iQ c];refine qJ (qW (KH omQ) ?_);rintro _ _ ⟨rfl,rfl⟩;refine qwM omQ ?_;have h1:p.tdiv (max 1 (min w ((16:Nat):Int)))=p/max 1 (min w 16):=Int.tdiv_eq_ediv_of_nonneg omQ;have h2:0≤p/max 1 (min w 16):=Int.ediv_nonneg omQ omQ;have h3:p/max 1 (min w 16)≤p:=Int.ediv_le_self _ omQ;rw[h1,ZX omQ];refine qW (KH omQ) ?_;rintro _ _ ⟨rfl,rfl⟩;refine Q7 omQ ?_;rw[Int.tmod_eq_emod_of_nonneg h2];exact qq ⟨rfl,rfl⟩
theorem qJ8 {n:Nat} {cv:AV} {cs:List Cl} {a w:Int} (hn:4≤n) (H:HS g h R) (S:Rd g R 2 cs.length cv (cs.flatMap jL)) (h0:0<cs.length) (hl:cs.length≤1000) (hc:∀c∈cs,0≤c.1∧c.1<100000) :
  t_w n 146 [cv,.int .i64 a,.int .i64 w] h λr h'=>HS g h' (qA 3 1 (xA cs a w).length r ((xA cs a w).map (.int .i64))::R):=by
 refine t_e3 (S:=S146) rfl omQ λk hk=>?_;unfold S146;try simp only[iZ]
 have hLV:=(S.sl H).lenV;refine yY ‹_› ?_
 refine jw (λm s h'=>∃(i:Nat) (v:AV),s=(.int .i64 (i:Int),.int .i64 (cs.length:Int),cv,v,.int .i64 w,.int .i64 a,())∧i≤cs.length∧m=cs.length-i∧
  HS g h' (qA 3 1 i v (((cs.take i).map λc=>ofM c.1 a w).map (.int .i64))::R))
  ?_ (m:=cs.length) (by show _<1000000000;omega) ⟨0,.nils,rfl,by omega,by omega,H.nils⟩
 clear H hLV;rintro m ih s h2 hih ⟨i,v,rfl,hi,rfl,H⟩;dsimp only;by_cases hlt:i<cs.length
 ·refine jB omQ (qZ ?_);have hci:=hc _ (List.getElem_mem hlt);have hr:=ZI (n:=a) (w:=w) hci.1;refine qV ?_
  try dsimp only
  refine zH (l:=jL cs[i]) (S.sl H.drop) hlt omQ (vk (sz:=2) (enc:=jL) (λ_=>rfl) (iW hlt)) ?_;refine qI H rfl λb h3 H3=>?_;refine qd H3 (b:=b) .here rfl (by show 0+2≤2;omega) rfl λh4 H4=>?_;have H4:HS g h4 (qk b [.int .i64 cs[i].1,.int .u64 cs[i].2]::qA 3 1 i v (((cs.take i).map λc=>ofM c.1 a w).map (.int .i64))::R):=H4;refine qQ (qX ‹_› .here rfl ?_);refine qW (qG2 omQ omQ) ?_;rintro _ _ ⟨rfl,rfl⟩;refine zv omQ (qZ ?_);refine qe (n:=1) (l:=[.int .i64 (ofM cs[i].1 a w)]) (sz:=1) H4 rfl rfl rfl rfl λv2 h5 H5=>?_;refine jR (H5.sel e_2) (H5.sl .here) omQ omQ rfl λv3 h6 H6=>?_;refine qb omQ ?_;refine hih (cs.length-(i+1)) _ _ omQ ⟨i+1,v3,rfl,by omega,rfl,?_⟩;have e:(cs.take (i+1)).map (λc=>ofM c.1 a w)=(cs.take i).map (λc=>ofM c.1 a w)++[ofM cs[i].1 a w]:=by rw[List.take_add_one,iW hlt,List.map_append];rfl
  rw[e,List.map_append];exact H6.sub (.cons .here (.drop (.drop .refl)))
 ·obtain rfl:i=cs.length:=by omega
  refine jK omQ (qJ ?_);rw[List.take_of_length_le (Nat.le_refl _)]at H;refine qW (qjR omQ H h0 omQ) λ_ h3 H3=>?_;refine qW (qqB omQ H3 h0 omQ) λr h4 H4=>?_;rw[qQb λc hc'=>(hc c hc').1]at H4;refine qx ?_;exact qq H4
end
section
variable {g h:AH} {L R:List SP}
theorem OQ {l:List xG} {k:Nat} (hk:k<l.length):((l.flatMap y7).drop (k*2)).take 2=y7 (zg l (k:Int)):=vk (sz:=2) (enc:=y7) (λ_=>rfl) (by unfold zg;rw[Int.toNat_natCast,iW hk];rfl)
theorem Qb {l:List xG} {k:Nat} (hk:k<l.length):(l.flatMap y7)[k*2+0]? =some (.int .i64 (zg l (k:Int)).1)∧(l.flatMap y7)[k*2+1]? =some (.int .u64 (zg l (k:Int)).2):=by
 have e:=OQ hk;have hl:(l.flatMap y7).length=l.length*2:=YT (sz:=2) y7 (λ_=>rfl) (l:=l);constructor
 ·have:=congrArg (·[0]?) e;simp only[List.getElem?_take_of_lt (show 0<2 by omega),List.getElem?_drop]at this;exact this
 ·have:=congrArg (·[1]?) e;simp only[List.getElem?_take_of_lt (show 1<2 by omega),List.getElem?_drop]at this;exact this
def RdsC (b:Nat) (r:List xG):SP:=.ex λsv=>.all [qk b [.int .i64 16,sv],qA 125 2 r.length sv (r.flatMap y7)]
section
variable {n b:Nat} {r:List xG} {x:xG}
theorem RdsC.E (H:HS g h (RdsC b r::R)):∃sv,HS g h (qk b [.int .i64 16,sv]::qA 125 2 r.length sv (r.flatMap y7)::R):=by obtain⟨sv,H⟩:=H.exE;exact⟨sv,H.allE⟩
theorem RdsC.I {sv:AV} (H:HS g h (qk b [.int .i64 16,sv]::qA 125 2 r.length sv (r.flatMap y7)::R)):HS g h (RdsC b r::R):=HS.exI sv H.allI
theorem qx2 (hn:1≤n) (H:HS g h R):t_w n 134 [.int .i64 ((16:Nat):Int)] h λv h'=>∃b,v=.ptr b 0∧HS g h' (RdsC b []::R):=by
 refine t_e1 (S:=S134) rfl omQ λk hk=>?_;unfold S134;try simp only[iZ]
 refine zZ (ze (qH rfl ?_));refine qI H rfl λb h1 H1=>qq ⟨b,rfl,RdsC.I (sv:=.nils) ?_⟩;have:=(H1.nils (e:=125) (sz:=2));exact this.sub (.cons e_1 (.cons .here .refl))
theorem qkL {r:List xG} {i:Nat} {st:Int} {y:xG} (hb:∀z∈r.take i,z.1≠st) (hi:r[i]? =some y) (hy:y.1=st):r.find? (λz=>decide (z.1=st))=some y:=by
 obtain⟨hlt,e⟩:=List.getElem?_eq_some_iff.1 hi;have h1:(r.take i).find? (λz=>decide (z.1=st))=none:=List.find?_eq_none.2 λz hz=>by simpa using hb z hz
 have h2:r=r.take i++y::r.drop (i+1):=by rw[← e,← List.drop_eq_getElem_cons hlt,List.take_append_drop]
 rw[h2,List.find?_append,h1,List.find?_cons,iG hy];rfl
theorem qxp {st:Int} (hn:1≤n) (hr:r.length≤1000) (H:HS g h (RdsC b r::R)) :
  t_w n 207 [.ptr b 0,.int .i64 st] h λv h'=>v=.tup [.int .u64 ((r.find? λz=>decide (z.1=st)).getD (0,0)).2,.bool (r.find? λz=>decide (z.1=st)).isSome]∧HS g h' (RdsC b r::R):=by
 refine t_e2 (S:=S207) rfl omQ λk hk=>?_;unfold S207;try simp only[iZ]
 obtain⟨sv,H⟩:=RdsC.E H;refine qG (qQ (qX ‹_› .here rfl ?_));refine qi ‹_› e_1 ?_;refine jw (λm s h'=>∃i:Nat,s=(.int .i64 (i:Int),.int .i64 (r.length:Int),sv,.int .i64 st,())∧i≤r.length∧m=r.length-i∧(∀z∈r.take i,z.1≠st)∧HS g h' (qk b [.int .i64 16,sv]::qA 125 2 r.length sv (r.flatMap y7)::R))
  ?_ (m:=r.length) (by show _<1000000000;omega) ⟨0,rfl,by omega,by omega,by simp,H⟩
 clear H;rintro m ih s h2 hih ⟨i,rfl,hi,rfl,hb,H⟩;dsimp only;by_cases hlt:i<r.length
 ·refine jB omQ (qZ ?_);refine zH (l:=y7 (zg r i)) (H.sl e_1) hlt omQ (OQ hlt) ?_;refine qI H rfl λc h3 H3=>?_;refine qd H3 (b:=c) .here rfl (by show 0+2≤2;omega) rfl λh4 H4=>?_;have H4:HS g h4 (qk c [.int .i64 (zg r i).1,.int .u64 (zg r i).2]::qk b [.int .i64 16,sv]::qA 125 2 r.length sv (r.flatMap y7)::R):=H4;have hg:r[i]? =some (zg r i):=by unfold zg;rw[Int.toNat_natCast,iW hlt];rfl
  refine qQ (qX ‹_› .here rfl ?_);by_cases hy:(zg r i).1=st
  ·refine qz hy ?_;refine qZ (qQ (qX ‹_› .here rfl ?_));refine qx ?_;rw[qkL hb hg hy];exact qq ⟨rfl,RdsC.I H4.drop⟩
  ·refine qK hy ?_;refine qJ (qb omQ ?_);refine hih (r.length-(i+1)) _ _ omQ ⟨i+1,rfl,by omega,rfl,?_,H4.drop⟩;intro z hz;rw[List.take_add_one,hg]at hz;rcases List.mem_append.1 hz with hz |hz
   ·exact hb z hz
   ·simp only[Option.toList_some,List.mem_singleton]at hz;subst hz;exact hy
 ·obtain rfl:i=r.length:=by omega
  refine jK omQ (qJ ?_);rw[List.take_of_length_le (Nat.le_refl _)]at hb;rw[List.find?_eq_none.2 λz hz=>by simpa using hb z hz];refine qx ?_;exact qq ⟨rfl,RdsC.I H⟩
theorem qkC (hn:2≤n) (hr:r.length≤16) (H:HS g h (RdsC b r::R)) :
  t_w n 177 [.ptr b 0,.agg (y7 x)] h λv h'=>v=.int .i64 (kz r x).1∧HS g h' (RdsC b (kz r x).2::R):=by
 refine t_e2 (S:=S177) rfl omQ λk hk=>?_;unfold S177;try simp only[iZ]
 generalize hA:kz r x=A;refine qI H rfl λb0 h1 H1=>?_;have H1:HS g h1 (qk b0 [.int .i64 x.1,.int .u64 x.2]::RdsC b r::R):=H1;unfold kz at hA;refine qQ (qX ‹_› .here rfl ?_);by_cases c1:x.1<0
 ·refine jB c1 ?_;refine qV ?_;(try dsimp only);refine qp ?_;(try dsimp only);refine qE (qV ?_);(try dsimp only);refine qp ?_;(try dsimp only);refine qE (qZ ?_)
  rw[iJ (.inl c1)]at hA;subst hA;exact qq ⟨rfl,H1.drop⟩
 refine jK c1 ?_;refine qV ?_;(try dsimp only);refine qc ?_;(try dsimp only);refine qQ (qX ‹_› .here rfl ?_)
 by_cases c2:16≤x.1
 ·refine zv omQ ?_;refine qC (qV ?_);(try dsimp only);refine qp ?_;(try dsimp only);refine qE (qZ ?_)
  rw[iJ (.inr (.inl c2))]at hA;subst hA;exact qq ⟨rfl,H1.drop⟩
 refine zK omQ ?_;refine qC (qV ?_);(try dsimp only);refine qc ?_;(try dsimp only);refine qQ (qX ‹_› .here rfl ?_)
 by_cases c3:4611686018427387904≤x.2
 ·refine zv omQ ?_;refine qC (qZ ?_);rw[iJ (.inr (.inr c3))]at hA;subst hA;exact qq ⟨rfl,H1.drop⟩
 refine zK omQ ?_;refine qC (qJ (qQ (qX ‹_› .here rfl ?_)));rw[iQ omQ]at hA;refine qW (qxp omQ omQ (H1.sel e_1)) ?_;rintro _ h2 ⟨rfl,H2⟩;have H3:=H2.sel e_1;refine qy rfl ?_;refine qy rfl ?_;cases hf:r.find? λz=>decide (z.1=x.1)with
 |some y=>
  rw[hf]at hA;dsimp only at hA;refine qZ (qQ (qX ‹_› .here rfl ?_));by_cases c4:y.2=x.2
  ·refine q8 c4 ?_;rw[iQ (λh=>h c4)]at hA;subst hA;refine qJ ?_;exact qq ⟨rfl,H3.drop⟩
  ·refine qu c4 ?_;rw[iJ c4]at hA;subst hA;refine qZ ?_;exact qq ⟨rfl,H3.drop⟩
 |none=>
  rw[hf]at hA;dsimp only at hA;refine qJ ?_;obtain⟨sv,H4⟩:=RdsC.E H2;refine qG (qQ (qX ‹_› .here rfl ?_));refine qi ‹_› e_1 ?_;refine qG (qQ (qX ‹_› .here rfl ?_));by_cases c4:r.length=16
  ·refine qz omQ ?_;rw[iJ c4]at hA;subst hA;refine qZ ?_;exact qq ⟨rfl,H3.drop⟩
  ·refine qK omQ ?_;rw[iQ c4]at hA;subst hA;refine qJ (qG (qQ (qX ‹_› .here rfl ?_)));refine qF H4 (b:=b0) (off:=0) e_2 rfl omQ (l:=y7 x) rfl ?_;refine qe (n:=1) (l:=y7 x) (sz:=2) H4 rfl rfl rfl rfl λv2 h5 H5=>?_;refine jR (H5.sel e_2) (H5.sl .here) omQ omQ rfl λv3 h6 H6=>?_;have o6:=H6.one .here;refine qG (qQ (qg H6 (b:=b) e_2 o6 osQ λh7 H7=>?_));refine qq ⟨rfl,RdsC.I (sv:=v3) ?_⟩;rw[List.length_append,List.flatMap_append];exact H7.sub (.cons .here (.cons .here (.drop (.drop .refl))))
theorem Nd (hn:2≤n) (hr:r.length≤1000) (H:HS g h (RdsC b r::R)):t_w n 98 [.ptr b 0] h λv h'=>HS g h' (qA 125 2 r.length v (r.flatMap y7)::RdsC b r::R):=by
 refine t_e1 (S:=S98) rfl omQ λk hk=>?_;unfold S98;try simp only[iZ]
 obtain⟨sv,H⟩:=RdsC.E H;refine qG (qQ (qX ‹_› .here rfl ?_));refine qW (YC omQ H e_1 (Jm (λ_=>rfl) _) omQ) λv h1 H1=>qq ?_;exact HS.unsel e_1 (RdsC.I (sv:=sv) (H1.sub (.cons e_1 (.cons e_1 (.cons .here .refl)))))
end
def UX (x:JJ) (sv:AV):List AV:=x9 x.p [sv,.bool x.loaded,.int .i64 x.at_,.int .u64 x.stamp]
def ExtC (b:Nat) (x:JJ):SP:=.ex λsv=>.all [qk b (UX x sv),qA 125 2 x.seen.length sv (x.seen.flatMap y7)]
structure KS (x:JJ):Prop where
  p:G7 x.p
  lo:0≤x.at_
  hi:x.at_≤1000
  len:x.seen.length≤16
  le:x.at_≤x.seen.length
  in_:x.p.fin=0→x.loaded=true→x.at_<x.seen.length
section
variable {n b:Nat} {x:JJ}
theorem ExtC.E (H:HS g h (ExtC b x::R)):∃sv,HS g h (qk b (UX x sv)::qA 125 2 x.seen.length sv (x.seen.flatMap y7)::R):=by obtain⟨sv,H⟩:=H.exE;exact⟨sv,H.allE⟩
theorem ExtC.I {sv:AV} (H:HS g h (qk b (UX x sv)::qA 125 2 x.seen.length sv (x.seen.flatMap y7)::R)):HS g h (ExtC b x::R):=HS.exI sv H.allI
theorem qzU {me sp:Int} {v:AV} {r:List xG} (hn:2≤n) (hr:r.length≤1000) (H:HS g h (qA 125 2 r.length v (r.flatMap y7)::R)) :
  t_w n 143 [.int .i64 me,.int .i64 sp,v] h λv h'=>∃b,v=.ptr b 0∧HS g h' (ExtC b (NC me sp r)::R):=by
 refine t_e3 (S:=S143) rfl omQ λk hk=>?_;unfold S143;try simp only[iZ]
 refine qW (NB omQ H) ?_;rintro _ h1 ⟨rfl,H1⟩;refine qW (YC omQ H1 .here (Jm (λ_=>rfl) _) omQ) λv h2 H2=>?_;unfold x9;have o2:=H2.one .here;refine qH (l:=UX (NC me sp r) v) (by simp only[yB,o2.1];rfl) ?_;refine qI H2 (by show qo [_,_,_,_,_,v,_,_,_]=true;simp only[qo,List.all_cons,o2.2];rfl) λb h3 H3=>qq ⟨b,rfl,?_⟩;exact ExtC.I (sv:=v) (H3.sub (.cons .here (.cons .here (.drop .refl))))
theorem qZh (hn:2≤n) {sv:AV} (H:HS g h L) (s:Sel L (qk b (UX x sv)) R):t_w n 181 [.ptr b 0] h λr h'=>r=.int .i64 x.p.fin∧h'=h:=by
 refine t_e1 (S:=S181) rfl omQ λk hk=>?_;unfold S181;try simp only[iZ]
 refine qG (qQ (qW (XG omQ H s) ?_));rintro _ _ ⟨rfl,rfl⟩;exact qq ⟨rfl,rfl⟩
theorem qg1 (hn:2≤n) {sv:AV} (H:HS g h L) (s:Sel L (qk b (UX x sv)) R):t_w n 375 [.ptr b 0] h λr h'=>r=.int .i64 x.p.by_∧h'=h:=by
 refine t_e1 (S:=S375) rfl omQ λk hk=>?_;unfold S375;try simp only[iZ]
 refine qG (qQ (qW (qJt omQ H s) ?_));rintro _ _ ⟨rfl,rfl⟩;exact qq ⟨rfl,rfl⟩
theorem VE (hn:3≤n) {sv:AV} (H:HS g h L) (s:Sel L (qk b (UX x sv)) R):t_w n 149 [.ptr b 0] h λr h'=>r=.int .u64 (wa x)∧h'=h:=by
 refine t_e1 (S:=S149) rfl omQ λk hk=>?_;unfold S149;try simp only[iZ]
 refine qW (qZh omQ H s) ?_;rintro _ _ ⟨rfl,rfl⟩;unfold wa;by_cases c:x.p.fin=2
 ·refine q8 c ?_;rw[iQ (λh=>h c)];refine qJ (qG (qQ ?_));exact qX H s rfl (qq ⟨rfl,rfl⟩)
 ·refine qu c ?_;rw[iJ c];refine qZ ?_;exact qq ⟨rfl,rfl⟩
theorem qWA (hn:2≤n) (O:KS x) (H:HS g h (ExtC b x::R)):t_w n 376 [.ptr b 0] h λr h'=>r=opV (Y9 x)∧HS g h' (ExtC b x::R):=by
 refine t_e1 (S:=S376) rfl omQ λk hk=>?_;unfold S376;try simp only[iZ]
 obtain⟨sv,H⟩:=ExtC.E H;refine qI H rfl λb0 h1 H1=>?_;refine qG (qQ (qW (XG omQ H1 e_1) ?_));rintro _ _ ⟨rfl,rfl⟩;unfold Y9;have H2:=H1;unfold UX x9 at H2;by_cases c:x.p.fin=0
 ·refine q8 c ?_;rw[iQ (λh=>h c)];refine qJ (qG (qQ (qX ‹_› e_1 rfl ?_)));cases hl:x.loaded with
  |false=>rw[iJ rfl];refine jk (qZ (qH rfl ?_));refine qd H1 (b:=b0) .here rfl (by show 0+10≤10;omega) rfl λh3 H3=>?_;refine qF H3 (b:=b0) (off:=0) .here rfl omQ (l:=yX (op0 6 0 0)) rfl ?_;exact qq ⟨rfl,ExtC.I H3.drop⟩
  |true=>rw[iQ osQ];refine jW (qJ (qG (qQ (qX ‹_› e_1 rfl ?_))));refine qG (qQ (qX ‹_› e_1 rfl ?_));have hin:=O.in_ c hl;have hlo:=O.lo;obtain⟨k,hk⟩:∃k:Nat,x.at_=k:=⟨x.at_.toNat,by omega⟩;rw[hk]at hin ⊢;refine xo (H1.sl e_2) omQ omQ (Qb omQ).1 ?_;refine qH rfl ?_;refine qd H1 (b:=b0) .here rfl (by show 0+10≤10;omega) rfl λh3 H3=>?_;refine qF H3 (b:=b0) (off:=0) .here rfl omQ (l:=yX (op0 3 (zg x.seen k).1 0)) rfl ?_;exact qq ⟨rfl,ExtC.I H3.drop⟩
 ·refine qu c ?_;rw[iJ c];refine qZ (qH rfl ?_);refine qd H1 (b:=b0) .here rfl (by show 0+10≤10;omega) rfl λh3 H3=>?_;refine qF H3 (b:=b0) (off:=0) .here rfl omQ (l:=yX (op0 0 0 0)) rfl ?_;exact qq ⟨rfl,ExtC.I H3.drop⟩
theorem Ju {p:JX} {a:AnM} (hs:(jZ p a).1=false):(jZ p a).2=p∧p.fin=0:=by
 unfold jZ at hs ⊢
 split at hs
 ·cases hs
 ·rename_i c;rw[iQ c];exact⟨rfl,by simpa using hs⟩
theorem qW5 {a:AnM} (hn:3≤n) (O:KS x) (H:HS g h (ExtC b x::R)):t_w n 377 [.ptr b 0,.agg (zp a)] h λ_ h'=>HS g h' (ExtC b (gd x a)::R):=by
 refine t_e2 (S:=S377) rfl omQ λk hk=>?_;unfold S377;try simp only[iZ]
 generalize hF:gd x a=F;obtain⟨sv,H⟩:=ExtC.E H;refine qI H rfl λb0 h1 H1=>?_;refine jd [] (λs h'=>s=(.ptr b 0,())∧∃y,F=Mj y∧y.seen.length≤16∧HS g h' (ExtC b y::R)) (λj hj=>?_) ?_
 rotate_left
 ·rintro s h2 ⟨rfl,y,rfl,hy,H2⟩;obtain⟨sv,H2⟩:=ExtC.E H2;have H3:=H2;unfold UX x9 at H3;unfold Mj;refine qG (qQ (qX ‹_› .here rfl ?_));refine qG (qQ (qX ‹_› .here rfl ?_));refine qi ‹_› e_1 ?_;by_cases c:y.at_=(y.seen.length:Int)
  ·refine qz c ?_;rw[iJ c];refine qZ (qG (qQ (qW (gE omQ H2) λ_ h4 H4=>?_)));refine qx ?_;exact qq (ExtC.I H4)
  ·refine qK c ?_;rw[iQ c];refine qJ (qx ?_);exact qq (ExtC.I H2)
 refine qG (qQ (qF H1 (b:=b0) (off:=0) .here rfl omQ (l:=zp a) rfl ?_));refine qW (JL omQ (H1.sel e_1)) ?_;rintro _ h2 ⟨rfl,H2⟩;unfold gd at hF;cases hs:(jZ x.p a).1 with
 |true=>rw[iJ hs]at hF;subst hF;refine qZ ?_;exact qq (ExtC.I (x:={ x with p:=(jZ x.p a).2 }) (sv:=sv) (H2.sub (.cons .here (.cons e_1 (.drop .refl)))))
 |false=>
  rw[iQ (by rw[hs];simp)]at hF;have hsp:=Ju hs;rw[hsp.1]at H2;have H3:HS g h2 (qk b (UX x sv)::qk b0 (zp a)::qA 125 2 x.seen.length sv (x.seen.flatMap y7)::R):=H2;have H4:=H3;unfold UX x9 zp at H4;have hlo:=O.lo;have hhi:=O.hi;have hlen:=O.len;refine qJ (qG (qQ (qX ‹_› .here rfl ?_)));cases hl:x.loaded with
  |false=>
   rw[iJ hl]at hF;refine jk (qZ (qV ?_));(try dsimp only);refine qQ (qX ‹_› e_1 rfl ?_);refine qG (qQ ?_)
   refine qg H4 (b:=b) .here ⟨rfl,rfl⟩ osQ λh5 H5=>?_;refine qG (qQ (qg H5 (b:=b) .here ⟨rfl,rfl⟩ osQ λh6 H6=>?_));refine qU ‹_› e_1 rfl ‹_› e_1 rfl (HS.lt ‹_› e_1) ?_;exact hj _ _ ⟨rfl,{ x with loaded:=true,stamp:=a.word },hF.symm,hlen,ExtC.I (sv:=sv) (H6.sub (.cons .here (.cons e_1 (.drop .refl))))⟩
  |true=>
   rw[iQ (by rw[hl];simp)]at hF;refine jW (qJ (qQ (qh (qX H4 (b:=b0) e_1 rfl ?_))));cases hd:a.lk.2.1 with
   |true=>
    rw[iJ hd]at hF;refine qZ (qV ?_);(try dsimp only);refine qG (qQ (qQ ?_))
    refine qF H4 (b:=b0) (off:=1) e_1 rfl omQ (l:=jh a.lk) rfl ?_;refine qW (GE (l:=a.lk) omQ (O.p hsp.2) H3) ?_;rintro _ h5 ⟨rfl,H5⟩;cases hw:(jO x.p a.lk).1 with
    |true=>rw[iJ hw]at hF;subst hF;refine jW (qJ (qx ?_));exact qq (ExtC.I (x:={ x with p:=(jO x.p a.lk).2 }) (sv:=sv) (H5.sub (.cons .here (.cons e_1 (.drop .refl)))))
    |false=>rw[iQ (by rw[hw];simp)]at hF;subst hF;have H6:=H5;unfold zp at H6;refine jk (qZ (qG (qQ (qQ (qh (qX H6 (b:=b0) e_1 rfl ?_))))));refine qW (gE omQ H5) λ_ h7 H7=>?_;refine qx ?_;exact qq (ExtC.I (x:={ x with p:=xu (jO x.p a.lk).2 5 0 a.lk.2.2 }) (sv:=sv) (H7.sub (.cons .here (.cons e_1 (.drop .refl)))))
   |false=>
    rw[iQ (by rw[hd];simp)]at hF;refine qJ (qQ (qh (qX H4 (b:=b0) e_1 rfl ?_)));refine qG (qQ (qX ‹_› .here rfl ?_));refine qG (qQ (qX ‹_› .here rfl ?_));have hin:=O.in_ hsp.2 hl;obtain⟨k,hk⟩:∃k:Nat,x.at_=k:=⟨x.at_.toNat,by omega⟩;rw[hk]at hin ⊢;rw[hk]at hF;refine xo (H3.sl e_2) omQ omQ (Qb omQ).2 ?_;by_cases c:a.lk.1=(zg x.seen k).2
    ·refine q8 c ?_;rw[iQ (λh=>h c)]at hF;refine qJ (qG (qQ (qX ‹_› .here rfl ?_)));refine qb omQ ?_;refine qG (qQ ?_);rw[hk]
     skip
     refine qg H4 (b:=b) .here ⟨rfl,rfl⟩ osQ λh5 H5=>?_;exact hj _ _ ⟨rfl,{ x with at_:=(k:Int)+1 },hF.symm,hlen,ExtC.I (sv:=sv) (H5.sub (.cons .here (.cons e_1 (.drop .refl))))⟩
    ·refine qu c ?_;rw[iJ c,← hk]at hF;subst hF;refine qZ (qG (qQ (qW (gE omQ H3) λ_ h7 H7=>?_)));exact qq (ExtC.I (x:={ x with p:=xu x.p 5 0 (-1) }) (sv:=sv) (H7.sub (.cons .here (.cons e_1 (.drop .refl)))))
end
end
section
variable {g h:AH} {L R:List SP}
structure ComL (c:zX):Prop where
  seen:c.seen.length≤16
  cells:c.cells.length≤1000
  s:c.s.length≤16
  was:c.was.length≤c.s.length
  pos:0<c.s.length
  rise:c.s.Pairwise (· < ·)
  lo:0≤c.at_
  hi:c.at_≤1000
  now:0≤c.now∧c.now<9223372036854775807
def zQ (fin spins state at_ now fin2:Int) (sl cl tl wl:Nat):Prop :=
 (sl≤16∧cl≤1000∧tl≤16∧wl≤tl∧0<tl∧0≤at_∧at_≤1000∧0≤now∧now<9223372036854775807∧0≤state∧state≤7)∧(fin=0→state≤6→0≤spins∧spins≤4)∧(fin=0→state≤1→wl<tl)∧(state≤4→at_≤sl)∧
 (2≤state→state≤6→wl=tl)∧(fin=0→state=4→at_<sl)∧(fin=0→state=5→at_<cl)∧(fin=0→state=6→at_<tl)∧(fin=0→state=7→at_<wl)∧(state=7→fin2≠0)
structure zS (c:zX):Prop where
  rise:c.s.Pairwise (· < ·)
  ar:zQ c.p.fin c.p.spins c.state c.at_ c.now c.fin2 c.seen.length c.cells.length c.s.length c.was.length
section
variable {c:zX} (O:zS c)
include O
theorem zS.toComL:ComL c:=by have h:=O.ar;unfold zQ at h;exact⟨by omega,by omega,by omega,by omega,by omega,O.rise,by omega,by omega,by omega⟩
theorem zS.p (hg:c.p.fin=0) (hs:c.state≤6):0≤c.p.spins∧c.p.spins≤4:=by have h:=O.ar;unfold zQ at h;omega
theorem zS.st0 (hg:c.p.fin=0) (hs:c.state≤1):c.was.length<c.s.length:=by have h:=O.ar;unfold zQ at h;omega
theorem zS.st3 (h1:2≤c.state) (h2:c.state≤4):c.was.length=c.s.length∧c.at_≤c.seen.length:=by have h:=O.ar;unfold zQ at h;omega
theorem zS.st4 (hg:c.p.fin=0) (hs:c.state=4):c.at_<c.seen.length:=by have h:=O.ar;unfold zQ at h;omega
theorem zS.st5 (hg:c.p.fin=0) (hs:c.state=5):c.at_<c.cells.length:=by have h:=O.ar;unfold zQ at h;omega
theorem zS.st6 (hg:c.p.fin=0) (hs:c.state=6):c.at_<c.s.length:=by have h:=O.ar;unfold zQ at h;omega
theorem zS.st7 (hg:c.p.fin=0) (hs:c.state=7):c.at_<c.was.length:=by have h:=O.ar;unfold zQ at h;omega
theorem zS.st:0≤c.state∧c.state≤7:=by have h:=O.ar;unfold zQ at h;omega
theorem zS.s:c.s.length≤16:=O.toComL.s
theorem zS.was:c.was.length≤c.s.length:=O.toComL.was
theorem zS.seen:c.seen.length≤16:=O.toComL.seen
theorem zS.lo:0≤c.at_:=O.toComL.lo
theorem zS.hi:c.at_≤1000:=O.toComL.hi
theorem zS.now:0≤c.now∧c.now<9223372036854775807:=O.toComL.now
end
theorem qY8:∀{s:List Int} {was:List LkM} {x:Int},s.Pairwise (· < ·)→was.length=s.length→ownM s was x=if x∈s then some (jF was (s.countP (· <x):Nat)).1 else none:=by
 intro s
 induction s with
 |nil=>intro was x _ _;cases was<;>rfl
 |cons y s ih=>
  intro was x hp hl;cases was with
  |nil=>cases hl
  |cons w was=>
   have h1:=List.pairwise_cons.1 hp;unfold ownM;by_cases e:y=x
   ·subst e;rw[iJ rfl,iJ (iK ..),List.countP_cons,List.countP_eq_zero.2 (λa ha=>by have:=h1.1 a ha;simp;omega),iV omQ];rfl
   ·rw[iQ e,ih h1.2 (by simpa using hl)];by_cases hm:x∈s
    ·rw[iJ hm,iJ (iX _ hm),List.countP_cons,iG (h1.1 x hm)];unfold jF;simp
    ·rw[iQ hm,iQ (λh=>by rcases List.mem_cons.1 h with h |h;exact e h.symm;exact hm h)]
theorem qkc {s:List Int} {x:Int} (hp:s.Pairwise (· < ·)) (h:x∈s):s.countP (· <x)<s.length:=by
 rcases Nat.lt_or_ge (s.countP (· <x)) s.length with h' |h'
 ·exact h'
 ·have:=List.countP_eq_length.1 (Nat.le_antisymm List.countP_le_length h') x h;simp at this
def Qj (c:zX) (sv cv tv wv:AV):List AV:=x9 c.p [.int .i64 c.me,.int .u64 c.stamp,sv,cv,tv,wv,.int .i64 c.state,.int .i64 c.at_,.int .u64 c.lk.1,.bool c.lk.2.1,.int .i64 c.lk.2.2,.int .u64 c.now,.bool c.writing,.int .i64 c.fin2,.int .i64 c.by2,.int .i64 c.err2]
def ComC (b:Nat) (c:zX):SP:=.ex λq:AV×AV×AV×AV=>.all [qk b (Qj c q.1 q.2.1 q.2.2.1 q.2.2.2),qA 125 2 c.seen.length q.1 (c.seen.flatMap y7),qA 177 2 c.cells.length q.2.1 (c.cells.flatMap jL),
 qA 3 1 c.s.length q.2.2.1 (c.s.map (.int .i64)),qA 47 3 c.was.length q.2.2.2 (c.was.flatMap jh)]
section
variable {n b:Nat} {c:zX} {sv cv tv wv:AV}
theorem ComC.E (H:HS g h (ComC b c::R)):∃sv cv tv wv,HS g h (qk b (Qj c sv cv tv wv)::qA 125 2 c.seen.length sv (c.seen.flatMap y7)::qA 177 2 c.cells.length cv (c.cells.flatMap jL)::
  qA 3 1 c.s.length tv (c.s.map (.int .i64))::qA 47 3 c.was.length wv (c.was.flatMap jh)::R):=by
 obtain⟨⟨sv,cv,tv,wv⟩,H⟩:=H.exE;exact⟨sv,cv,tv,wv,H.allE⟩
theorem ComC.I (H:HS g h (qk b (Qj c sv cv tv wv)::qA 125 2 c.seen.length sv (c.seen.flatMap y7)::qA 177 2 c.cells.length cv (c.cells.flatMap jL)::
  qA 3 1 c.s.length tv (c.s.map (.int .i64))::qA 47 3 c.was.length wv (c.was.flatMap jh)::R)):HS g h (ComC b c::R):=HS.exI (sv,cv,tv,wv) H.allI
theorem ZC (hn:2≤n) (H:HS g h (ComC b c::R)):t_w n 386 [.ptr b 0] h λ_ h'=>HS g h' (ComC b (ym c)::R):=by
 refine t_e1 (S:=S386) rfl omQ λk hk=>?_;unfold S386;try simp only[iZ]
 obtain⟨sv,cv,tv,wv,H⟩:=ComC.E H;have H1:=H;unfold Qj x9 at H1;unfold ym;refine qG (qQ (qX ‹_› .here rfl ?_));refine qG (qQ (qX ‹_› .here rfl ?_));refine qi ‹_› e_3 ?_;by_cases c0:c.at_=(c.s.length:Int)
 ·refine qz c0 ?_;rw[iJ c0];refine qZ (qG (qQ (qW (gE omQ H) λ_ h2 H2=>?_)));exact qq (ComC.I (c:={ c with p:=xu c.p 2 0 (-1) }) H2)
 ·refine qK c0 ?_;rw[iQ c0];refine qJ ?_;exact qq (ComC.I H)
theorem MZ (hn:3≤n) (H:HS g h (ComC b c::R)):t_w n 385 [.ptr b 0] h λ_ h'=>HS g h' (ComC b (zG c)::R):=by
 refine t_e1 (S:=S385) rfl omQ λk hk=>?_;unfold S385;try simp only[iZ]
 obtain⟨sv,cv,tv,wv,H⟩:=ComC.E H;have H1:=H;unfold Qj x9 at H1;unfold zG;refine qG (qQ (qX ‹_› .here rfl ?_));refine qG (qQ (qX ‹_› .here rfl ?_));refine qi ‹_› e_2 ?_;by_cases c0:c.at_=(c.cells.length:Int)
 ·refine qz c0 ?_;rw[iJ c0];refine qZ (qG (qQ (qg H1 (b:=b) .here ⟨rfl,rfl⟩ osQ λh2 H2=>?_)));refine qG (qQ (qg H2 (b:=b) .here ⟨rfl,rfl⟩ osQ λh3 H3=>?_));refine qW (ZC (c:={ c with at_:=0,state:=6 }) omQ (ComC.I H3)) λ_ h4 H4=>qq H4
 ·refine qK c0 ?_;rw[iQ c0];refine qJ ?_;exact qq (ComC.I H)
theorem Vc (hn:4≤n) (H:HS g h (ComC b c::R)):t_w n 381 [.ptr b 0] h λ_ h'=>HS g h' (ComC b (vX c)::R):=by
 refine t_e1 (S:=S381) rfl omQ λk hk=>?_;unfold S381;try simp only[iZ]
 obtain⟨sv,cv,tv,wv,H⟩:=ComC.E H;unfold Qj x9 at H;refine qG (qQ (qg H (b:=b) .here ⟨rfl,rfl⟩ osQ λh2 H2=>?_));refine qG (qQ (qg H2 (b:=b) .here ⟨rfl,rfl⟩ osQ λh3 H3=>?_));refine qG (qQ (qg H3 (b:=b) .here ⟨rfl,rfl⟩ osQ λh4 H4=>?_));refine qW (MZ (c:={ c with writing:=true,at_:=0,state:=5 }) omQ (ComC.I H4)) λ_ h5 H5=>qq H5
theorem VL (hn:2≤n) (H:HS g h (ComC b c::R)):t_w n 387 [.ptr b 0] h λ_ h'=>HS g h' (ComC b (yR c)::R):=by
 refine t_e1 (S:=S387) rfl omQ λk hk=>?_;unfold S387;try simp only[iZ]
 obtain⟨sv,cv,tv,wv,H⟩:=ComC.E H;have H1:=H;unfold Qj x9 at H1;unfold yR;refine qG (qQ (qX ‹_› .here rfl ?_));refine qG (qQ (qX ‹_› .here rfl ?_));refine qi ‹_› e_4 ?_;by_cases c0:c.at_=(c.was.length:Int)
 ·refine qz c0 ?_;rw[iJ c0];refine qZ (qG (qQ (qG (qQ (qX ‹_› .here rfl ?_)))));refine qG (qQ (qX ‹_› .here rfl ?_));refine qG (qQ (qX ‹_› .here rfl ?_));refine qW (gE omQ H) λ_ h2 H2=>?_;exact qq (ComC.I (c:={ c with p:=xu c.p c.fin2 c.err2 c.by2 }) H2)
 ·refine qK c0 ?_;rw[iQ c0];refine qJ ?_;exact qq (ComC.I H)
theorem YR {f e y:Int} (hn:3≤n) (H:HS g h (ComC b c::R)):t_w n 389 [.ptr b 0,.int .i64 f,.int .i64 e,.int .i64 y] h λ_ h'=>HS g h' (ComC b (vt c f e y)::R):=by
 refine t_e4 (S:=S389) rfl omQ λk hk=>?_;unfold S389;try simp only[iZ]
 obtain⟨sv,cv,tv,wv,H⟩:=ComC.E H;unfold Qj x9 at H;refine qG (qQ (qg H (b:=b) .here ⟨rfl,rfl⟩ osQ λh2 H2=>?_));refine qG (qQ (qg H2 (b:=b) .here ⟨rfl,rfl⟩ osQ λh3 H3=>?_));refine qG (qQ (qg H3 (b:=b) .here ⟨rfl,rfl⟩ osQ λh4 H4=>?_));refine qG (qQ (qg H4 (b:=b) .here ⟨rfl,rfl⟩ osQ λh5 H5=>?_));refine qG (qQ (qg H5 (b:=b) .here ⟨rfl,rfl⟩ osQ λh6 H6=>?_));refine qW (VL (c:={ c with fin2:=f,err2:=e,by2:=y,at_:=0,state:=7 }) omQ (ComC.I H6)) λ_ h5 H5=>qq H5
theorem Zr (hn:1≤n) (H:HS g h (ComC b c::R)):t_w n 147 [.ptr b 0] h λ_ h'=>HS g h' (ComC b (vy c)::R):=by
 refine t_e1 (S:=S147) rfl omQ λk hk=>?_;unfold S147;try simp only[iZ]
 obtain⟨sv,cv,tv,wv,H⟩:=ComC.E H;unfold Qj x9 at H;unfold vy;refine qG (qQ (qg H (b:=b) .here ⟨rfl,rfl⟩ osQ λh2 H2=>?_));refine qG (qQ (qX ‹_› .here rfl ?_));refine qi ‹_› e_4 ?_;refine qG (qQ (qX ‹_› .here rfl ?_));refine qi ‹_› e_3 ?_;by_cases c0:c.was.length=c.s.length
 ·refine qz omQ ?_;rw[iJ c0];refine qZ (qG (qQ (qg H2 (b:=b) .here ⟨rfl,rfl⟩ osQ λh3 H3=>?_)));exact qq (ComC.I (c:={ c with state:=2 }) H3)
 ·refine qK omQ ?_;rw[iQ c0];refine qJ ?_;exact qq (ComC.I (c:={ c with state:=0 }) H2)
theorem Oj {l:LkM} (hn:4≤n) (hp:0≤c.p.spins∧c.p.spins≤4) (H:HS g h (ComC b c::R)):t_w n 388 [.ptr b 0,.agg (jh l)] h λ_ h'=>HS g h' (ComC b (gH c l)::R):=by
 refine t_e2 (S:=S388) rfl omQ λk hk=>?_;unfold S388;try simp only[iZ]
 obtain⟨sv,cv,tv,wv,H⟩:=ComC.E H;refine qI H rfl λb0 h1 H1=>?_;unfold gH;refine qG (qQ (qF H1 (b:=b0) (off:=0) .here rfl omQ (l:=jh l) rfl ?_));refine qW (GE (l:=l) omQ hp (H1.sel e_1)) ?_;rintro _ h2 ⟨rfl,H2⟩;have H3:HS g h2 (ComC b { c with p:=(jO c.p l).2 }::qk b0 (jh l)::R):=ComC.I (sv:=sv) (cv:=cv) (tv:=tv) (wv:=wv) (H2.sub (.cons .here (.cons e_1 (.cons e_1 (.cons e_1 (.cons e_1 .refl))))));cases hw:(jO c.p l).1 with
 |true=>rw[iJ rfl];refine jW (qJ ?_);exact qq (H3.sub (.cons .here (.drop .refl)))
 |false=>rw[iQ osQ];unfold jh at H3;refine jk (qZ (qQ (qX ‹_› e_1 rfl ?_)));refine qW (YR omQ H3) λ_ h4 H4=>?_;exact qq (H4.sub (.cons .here (.drop .refl)))
theorem Mx (hn:5≤n) (O:ComL c) (hw:c.was.length=c.s.length) (ha:c.at_≤c.seen.length) (H:HS g h (ComC b c::R)):t_w n 390 [.ptr b 0] h λ_ h'=>HS g h' (ComC b (gM c)::R):=by
 refine t_e1 (S:=S390) rfl omQ λk hk=>?_;unfold S390;try simp only[iZ]
 generalize hF:gM c=F;unfold gM at hF;obtain⟨sv,cv,tv,wv,H⟩:=ComC.E H;unfold Qj x9 at H;have l1:=O.seen;have l2:=O.s;have l3:=O.pos;have l4:=O.lo;refine qG (qQ (qg H (b:=b) .here ⟨rfl,rfl⟩ osQ λh2 H2=>?_));have H2:HS g h2 (ComC b { c with state:=4 }::R):=ComC.I H2;refine jw (λm s h'=>s=(.ptr b 0,())∧∃a:Int,yz { c with state:=4,at_:=a } m=F∧0≤a∧a≤c.seen.length∧c.seen.length<a+m∧HS g h' (ComC b { c with state:=4,at_:=a }::R))
  ?_ (m:=c.seen.length+1) (by show _<1000000000;omega) ⟨rfl,c.at_,hF,l4,ha,by omega,H2⟩
 clear H H2 hF;rintro m ih s h3 hih ⟨rfl,a,hF,ha0,ha,hm,H⟩;dsimp only;obtain⟨m,rfl⟩:∃k,m=k+1:=⟨m-1,by omega⟩;unfold yz at hF;dsimp only at hF;obtain⟨sv,cv,tv,wv,H⟩:=ComC.E H;have H1:=H;unfold Qj x9 at H1;dsimp only at H1;refine qG (qQ (qX ‹_› .here rfl ?_));refine qG (qQ (qX ‹_› .here rfl ?_));refine qi ‹_› e_1 ?_;by_cases hlt:a<c.seen.length
 ·refine jB hlt ?_;rw[iJ hlt]at hF;obtain⟨k,rfl⟩:∃k:Nat,a=k:=⟨a.toNat,by omega⟩;refine qZ (qG (qQ (qX ‹_› .here rfl ?_)));refine qG (qQ (qX ‹_› .here rfl ?_));refine qG (qQ (qX ‹_› .here rfl ?_));refine xo (H.sl e_1) omQ (by show k<c.seen.length;omega) (Qb (by show k<c.seen.length;omega)).1 ?_;refine qW (qj2 omQ H1 e_3 l3 omQ (O.rise.imp λh=>by omega)) ?_;rintro _ _ ⟨rfl,rfl⟩;rw[qY8 O.rise hw]at hF;by_cases hc:(zg c.seen k).1∈c.s
  ·rw[iJ hc]at hF;dsimp only at hF;rw[show c.s.contains (zg c.seen k).1=true from List.contains_iff_mem.2 hc];have hfl:=qkc O.rise hc;refine qy rfl ?_;refine qy rfl ?_;refine jW (qJ (qG (qQ (qX ‹_› .here rfl ?_))));refine xo (f:=0) (x:=.int .u64 (jF c.was (c.s.countP (· <(zg c.seen k).1):Nat)).1) (H.sl e_4) omQ (Nat.lt_of_lt_of_eq hfl hw.symm) ?_ ?_
   ·have:=congrArg (·[0]?) (M2 (l:=c.was) (k:=c.s.countP (· <(zg c.seen k).1)) omQ);simp only[List.getElem?_take_of_lt (show 0<3 by omega),List.getElem?_drop]at this;exact this
   refine qG (qQ (qX ‹_› .here rfl ?_));refine qG (qQ (qX ‹_› .here rfl ?_));refine xo (H.sl e_1) omQ (by show k<c.seen.length;omega) (Qb (by show k<c.seen.length;omega)).2 ?_;by_cases hv:(jF c.was (c.s.countP (· <(zg c.seen k).1):Nat)).1=(zg c.seen k).2
   ·refine q8 hv ?_;rw[iQ (λh=>h hv)]at hF;refine qJ (qG (qQ (qX ‹_› .here rfl ?_)));refine qb omQ ?_;refine qG (qQ (qg H1 (b:=b) .here ⟨rfl,rfl⟩ osQ λh4 H4=>?_));exact hih m _ _ omQ ⟨rfl,(k:Int)+1,hF,by omega,by omega,by omega,ComC.I (c:={ c with state:=4,at_:=(k:Int)+1 }) H4⟩
   ·refine qu hv ?_;rw[iJ hv]at hF;subst hF;refine qZ (qW (YR omQ (ComC.I H)) λ_ h4 H4=>?_);refine qx ?_;exact qq H4
  ·rw[iQ hc]at hF;dsimp only at hF;subst hF;rw[show c.s.contains (zg c.seen k).1=false from by simpa using hc];refine qy rfl ?_;refine qy rfl ?_;refine jk (qZ (qx ?_));exact qq (ComC.I H)
 ·refine jK hlt ?_;rw[iQ hlt]at hF;subst hF;refine qJ (qW (Vc omQ (ComC.I H)) λ_ h4 H4=>?_);refine qx ?_;exact qq H4
end
end
section
variable {g h:AH} {L R:List SP}
section
variable {n b:Nat} {c:zX} {sv cv tv wv:AV} {a:AnM}
theorem qJa {l:LkM} (hn:6≤n) (O:zS c) (hg:c.p.fin=0) (h4:c.state=4) (H:HS g h (ComC b c::R)):t_w n 384 [.ptr b 0,.agg (jh l)] h λ_ h'=>HS g h' (ComC b (yd c l)::R):=by
 refine t_e2 (S:=S384) rfl omQ λk hk=>?_;unfold S384;try simp only[iZ]
 generalize hF:yd c l=F;refine qI H rfl λb0 h1 H1=>?_;refine jd [] (λ_ h'=>HS g h' (ComC b F::R)) (λj hj=>?_) λ_ h' H'=>?_
 rotate_left
 ·refine qx ?_;exact qq H'
 unfold yd at hF;have H2:=H1;unfold jh at H2;refine qQ (qX ‹_› .here rfl ?_);cases hd:l.2.1 with
 |true=>rw[iJ hd]at hF;subst hF;refine qZ (qF H1 (b:=b0) (off:=0) .here rfl omQ (l:=jh l) rfl ?_);refine qW (Oj omQ (O.p hg omQ) (H1.sel e_1)) λ_ h3 H3=>?_;exact hj _ _ (H3.sub (.cons .here (.drop .refl)))
 |false=>
  rw[iQ (by rw[hd];simp)]at hF;obtain⟨sv,cv,tv,wv,H3⟩:=ComC.E (H2.sel e_1);have H4:=H3;unfold Qj x9 at H4;have hlt:=O.st4 hg h4;have hlo:=O.lo;have l1:=O.seen;obtain⟨k,hk⟩:∃k:Nat,c.at_=k:=⟨c.at_.toNat,by omega⟩;refine qJ (qQ (qX ‹_› e_5 rfl ?_));refine qG (qQ (qX ‹_› .here rfl ?_));refine qG (qQ (qX ‹_› .here rfl ?_));rw[hk]at hF hlt ⊢;refine xo (H3.sl e_1) omQ omQ (Qb omQ).2 ?_;by_cases c0:l.1=(zg c.seen k).2
  ·refine q8 c0 ?_;rw[iQ (λh=>h c0)]at hF;subst hF;refine qJ (qG (qQ (qX ‹_› .here rfl ?_)));refine qb omQ ?_;refine qG (qQ ?_);rw[hk]
   skip
   refine qg H4 (b:=b) .here ⟨rfl,rfl⟩ osQ λh5 H5=>?_;refine qW (Mx (c:={ c with at_:=(k:Int)+1 }) omQ { O.toComL with lo:=(by show(0:Int)≤k+1;omega),hi:=(by show(k:Int)+1≤1000;have:=O.seen;omega) } (O.st3 omQ omQ).1 (by show(k:Int)+1≤c.seen.length;omega) (ComC.I H5)) λ_ h6 H6=>?_;exact hj _ _ (H6.sub (.cons .here (.drop .refl)))
  ·refine qu c0 ?_;rw[iJ c0]at hF;subst hF;refine qZ (qW (YR omQ (ComC.I H3)) λ_ h6 H6=>?_);exact hj _ _ (H6.sub (.cons .here (.drop .refl)))
theorem OR (hn:5≤n) (O:zS c) (hg:c.p.fin=0) (H:HS g h (ComC b c::R)):t_w n 382 [.ptr b 0,.agg (zp a)] h λ_ h'=>HS g h' (ComC b (wI c a)::R):=by
 refine t_e2 (S:=S382) rfl omQ λk hk=>?_;unfold S382;try simp only[iZ]
 generalize hF:wI c a=F;refine qI H rfl λb0 h1 H1=>?_;refine jd [] (λ_ h'=>HS g h' (ComC b F::R)) (λj hj=>?_) λ_ h' H'=>?_
 rotate_left
 ·refine qx ?_;exact qq H'
 unfold wI at hF;obtain⟨sv,cv,tv,wv,H2⟩:=ComC.E (H1.sel e_1);have H3:=H2;unfold Qj x9 zp at H3;have l1:=O.s;have l2:=O.was;refine qG (qQ (qX ‹_› .here rfl ?_));by_cases c0:c.state=0
 ·refine qz c0 ?_;refine qV ?_;(try dsimp only);refine qa ?_;(try dsimp only);refine qQ ?_
  refine qh (qX H3 (b:=b0) e_5 rfl ?_);cases hd:a.lk.2.1 with
  |true=>rw[iJ ⟨c0,hd⟩]at hF;subst hF;refine qE (qZ (qQ (qF H1 (b:=b0) (off:=1) .here rfl omQ (l:=jh a.lk) rfl ?_)));refine qW (Oj omQ (O.p hg omQ) (H1.sel e_1)) λ_ h3 H3=>?_;exact hj _ _ (H3.sub (.cons .here (.drop .refl)))
  |false=>rw[iQ (λh=>by rw[hd]at h;cases h.2),iJ c0]at hF;subst hF;refine qE (qJ (qG (qQ (qX ‹_› .here rfl ?_))));refine qz omQ ?_;refine qZ (qQ (qF H1 (b:=b0) (off:=1) .here rfl omQ (l:=jh a.lk) rfl ?_));refine qG (qQ (qd H3 (b:=b) .here rfl (by show 13+3≤21;omega) rfl λh5 H5=>?_));refine qG (qQ (qg H5 (b:=b) .here ⟨rfl,rfl⟩ (by simp[kT]) λh6 H6=>?_));have H7:HS g h6 (ComC b { c with lk:=a.lk,state:=1 }::qk b0 (zp a)::R):=ComC.I (sv:=sv) (cv:=cv) (tv:=tv) (wv:=wv) H6;exact hj _ _ (H7.sub (.cons .here (.drop .refl)))
 ·refine qK c0 ?_;rw[iQ (λh=>c0 h.1),iQ c0]at hF;refine qV ?_;(try dsimp only);refine qR ?_;(try dsimp only);refine qC (qJ (qG (qQ (qX ‹_› .here rfl ?_))));refine qK omQ ?_;refine qJ (qQ (qX ‹_› e_5 rfl ?_))
  cases hd:a.done with
  |true=>
   rw[iJ hd]at hF;subst hF;refine qZ (qG (qQ (qX ‹_› .here rfl ?_)));refine qG (qQ (qF H3 (b:=b) (off:=13) .here rfl omQ (l:=jh c.lk) rfl ?_));refine qe (n:=1) (l:=jh c.lk) (sz:=3) H3 rfl rfl rfl rfl λv2 h5 H5=>?_;refine jR (H5.sel e_5) (H5.sl .here) omQ omQ rfl λv3 h6 H6=>?_;have o6:=H6.one .here;refine qG (qQ (qg H6 (b:=b) e_2 o6 osQ λh7 H7=>?_));have H8:HS g h7 (ComC b { c with was:=c.was++[c.lk] }::qk b0 (zp a)::R):=by refine ComC.I (sv:=sv) (cv:=cv) (tv:=tv) (wv:=v3) ?_;rw[List.length_append,List.flatMap_append];exact H7.sub (.cons .here (.cons e_2 (.cons e_2 (.cons e_2 (.cons .here (.drop .refl))))))
   refine qW (Zr omQ H8) λ_ h9 H9=>?_;exact hj _ _ (H9.sub (.cons .here (.drop .refl)))
  |false=>rw[iQ (by rw[hd];simp)]at hF;subst hF;refine qJ (qG (qQ (qg H3 (b:=b) .here ⟨rfl,rfl⟩ osQ λh6 H6=>?_)));have H7:HS g h6 (ComC b { c with state:=0 }::qk b0 (zp a)::R):=ComC.I (sv:=sv) (cv:=cv) (tv:=tv) (wv:=wv) H6;exact hj _ _ (H7.sub (.cons .here (.drop .refl)))
theorem V8 (hn:6≤n) (O:zS c) (h23:c.state=2∨c.state=3) (H:HS g h (ComC b c::R)):t_w n 383 [.ptr b 0,.agg (zp a)] h λ_ h'=>HS g h' (ComC b (vR c a)::R):=by
 refine t_e2 (S:=S383) rfl omQ λk hk=>?_;unfold S383;try simp only[iZ]
 generalize hF:vR c a=F;refine qI H rfl λb0 h1 H1=>?_;refine jd [] (λ_ h'=>HS g h' (ComC b F::R)) (λj hj=>?_) λ_ h' H'=>?_
 rotate_left
 ·refine qx ?_;exact qq H'
 unfold vR at hF;obtain⟨sv,cv,tv,wv,H2⟩:=ComC.E (H1.sel e_1);have H3:=H2;unfold Qj x9 zp at H3;refine qG (qQ (qX ‹_› .here rfl ?_));by_cases c0:c.state=2
 ·refine qz c0 ?_;refine qV ?_;(try dsimp only);refine qa ?_;(try dsimp only);refine qQ (qX ‹_› e_5 rfl ?_)
  by_cases c1:4611686018427387903≤a.word
  ·refine zv omQ ?_;rw[iJ ⟨c0,c1⟩]at hF;subst hF;refine qE (qZ (qW (YR omQ (ComC.I H2)) λ_ h6 H6=>?_));exact hj _ _ (H6.sub (.cons .here (.drop .refl)))
  ·refine zK omQ ?_;rw[iQ (λh=>c1 h.2),iJ c0]at hF;subst hF;refine qE (qJ (qG (qQ (qX ‹_› .here rfl ?_))));refine qz omQ ?_;refine qZ (qQ (qX ‹_› e_5 rfl ?_));refine qG (qQ (qg H3 (b:=b) .here ⟨rfl,rfl⟩ osQ λh6 H6=>?_));refine qG (qQ (qg H6 (b:=b) .here ⟨rfl,rfl⟩ osQ λh7 H7=>?_));have H8:HS g h7 (ComC b { c with now:=a.word,state:=3 }::qk b0 (zp a)::R):=ComC.I (sv:=sv) (cv:=cv) (tv:=tv) (wv:=wv) H7;exact hj _ _ (H8.sub (.cons .here (.drop .refl)))
 ·refine qK c0 ?_;rw[iQ (λh=>c0 h.1),iQ c0]at hF;have h3:=O.st3 omQ omQ;refine qV ?_;(try dsimp only);refine qR ?_;(try dsimp only);refine qC (qJ (qG (qQ (qX ‹_› .here rfl ?_))));refine qK omQ ?_;refine qJ (qQ (qX ‹_› e_5 rfl ?_))
  cases hd:a.done with
  |false=>rw[iJ hd]at hF;subst hF;refine jk (qZ (qG (qQ (qg H3 (b:=b) .here ⟨rfl,rfl⟩ osQ λh6 H6=>?_))));have H7:HS g h6 (ComC b { c with state:=2 }::qk b0 (zp a)::R):=ComC.I (sv:=sv) (cv:=cv) (tv:=tv) (wv:=wv) H6;exact hj _ _ (H7.sub (.cons .here (.drop .refl)))
  |true=>
   rw[iQ (by rw[hd];simp)]at hF;refine jW (qJ (qG (qQ (qX ‹_› .here rfl ?_))));refine qG (qQ (qX ‹_› .here rfl ?_));by_cases c1:c.now=c.stamp
   ·refine qz c1 ?_;rw[iJ c1]at hF;subst hF;refine qZ (qW (Vc omQ (ComC.I H2)) λ_ h6 H6=>?_);exact hj _ _ (H6.sub (.cons .here (.drop .refl)))
   ·refine qK c1 ?_;rw[iQ c1]at hF;subst hF;refine qJ (qW (Mx omQ O.toComL h3.1 h3.2 (ComC.I H2)) λ_ h6 H6=>?_);exact hj _ _ (H6.sub (.cons .here (.drop .refl)))
theorem qj3 (hn:7≤n) (O:zS c) (H:HS g h (ComC b c::R)):t_w n 380 [.ptr b 0,.agg (zp a)] h λ_ h'=>HS g h' (ComC b (jo c a)::R):=by
 refine t_e2 (S:=S380) rfl omQ λk hk=>?_;unfold S380;try simp only[iZ]
 generalize hF:jo c a=F;refine qI H rfl λb0 h1 H1=>?_;obtain⟨sv,cv,tv,wv,H2⟩:=ComC.E (H1.sel e_1);have hlo:=O.lo;have hhi:=O.hi;have hst:=O.st;unfold jo at hF;refine qG (qQ (qF H1 (b:=b0) (off:=0) .here rfl omQ (l:=zp a) rfl ?_));refine qW (JL omQ H2) ?_;rintro _ h2 ⟨rfl,H3⟩;cases hs:(jZ c.p a).1 with
 |true=>rw[iJ hs]at hF;subst hF;refine qZ ?_;have H4:HS g h2 (ComC b { c with p:=(jZ c.p a).2 }::qk b0 (zp a)::R):=ComC.I (sv:=sv) (cv:=cv) (tv:=tv) (wv:=wv) H3;exact qq (H4.sub (.cons .here (.drop .refl)))
 |false=>
  rw[iQ (by rw[hs];simp)]at hF;have hsp:=Ju hs;rw[hsp.1]at H3;have hg:=hsp.2;clear H1 H2 H hsp hs;have H2:HS g h2 (ComC b c::qk b0 (zp a)::R):=ComC.I (sv:=sv) (cv:=cv) (tv:=tv) (wv:=wv) H3
  have H4:HS g h2 (qk b (Qj c sv cv tv wv)::qA 125 2 c.seen.length sv (c.seen.flatMap y7)::qA 177 2 c.cells.length cv (c.cells.flatMap jL)::
   qA 3 1 c.s.length tv (c.s.map (.int .i64))::qA 47 3 c.was.length wv (c.was.flatMap jh)::qk b0 (zp a)::R):=H3
  unfold Qj x9 at H4;refine qJ (qG (qh (qX H4 (b:=b) .here rfl ?_)));refine jd [] (λ_ h'=>HS g h' (ComC b F::R)) (λj hj=>?_) λ_ h' H'=>?_
  rotate_left
  ·refine qx ?_;exact qq H'
  by_cases c0:c.state=0∨c.state=1
  ·rw[iJ c0]at hF;subst hF;rcases c0 with c0 |c0
   ·refine qV ?_;(try dsimp only);refine qz omQ ?_;refine qZ (qZ ?_)
    refine qF H3 (b:=b0) (off:=0) e_5 rfl omQ (l:=zp a) rfl ?_;refine qW (OR omQ O hg H2) λ_ h6 H6=>?_;exact hj _ _ (H6.sub (.cons .here (.drop .refl)))
   ·refine qV ?_;(try dsimp only);refine qK omQ ?_;refine qJ (qz omQ ?_);refine qZ ?_
    refine qF H3 (b:=b0) (off:=0) e_5 rfl omQ (l:=zp a) rfl ?_;refine qW (OR omQ O hg H2) λ_ h6 H6=>?_;exact hj _ _ (H6.sub (.cons .here (.drop .refl)))
  rw[iQ c0]at hF;by_cases c1:c.state=2∨c.state=3
  ·rw[iJ c1]at hF;subst hF;have c2:=c1;rcases c1 with c1' |c1'
   ·refine qV ?_;(try dsimp only);refine qK omQ ?_;refine qJ (qK omQ ?_);refine qJ (qV ?_);(try dsimp only);refine qz omQ ?_;refine qZ (qZ ?_)
    refine qF H3 (b:=b0) (off:=0) e_5 rfl omQ (l:=zp a) rfl ?_;refine qW (V8 omQ O c2 H2) λ_ h6 H6=>?_;exact hj _ _ (H6.sub (.cons .here (.drop .refl)))
   ·refine qV ?_;(try dsimp only);refine qK omQ ?_;refine qJ (qK omQ ?_);refine qJ (qV ?_);(try dsimp only);refine qK omQ ?_;refine qJ (qz omQ ?_);refine qZ ?_
    refine qF H3 (b:=b0) (off:=0) e_5 rfl omQ (l:=zp a) rfl ?_;refine qW (V8 omQ O c2 H2) λ_ h6 H6=>?_;exact hj _ _ (H6.sub (.cons .here (.drop .refl)))
  rw[iQ c1]at hF;by_cases c4:c.state=4
  ·rw[iJ c4]at hF;subst hF;refine qV ?_;(try dsimp only);refine qK omQ ?_;refine qJ (qK omQ ?_);refine qJ (qV ?_);(try dsimp only);refine qK omQ ?_;refine qJ (qK omQ ?_);refine qJ (qz omQ ?_);refine qZ (qQ ?_)
   refine qF H3 (b:=b0) (off:=1) e_5 rfl omQ (l:=jh a.lk) rfl ?_;refine qW (qJa omQ O hg c4 H2) λ_ h6 H6=>?_;exact hj _ _ (H6.sub (.cons .here (.drop .refl)))
  rw[iQ c4]at hF;by_cases c5:c.state=5
  ·rw[iJ c5]at hF;subst hF;refine qV ?_;(try dsimp only);refine qK omQ ?_;refine qJ (qK omQ ?_);refine qJ (qV ?_);(try dsimp only);refine qK omQ ?_;refine qJ (qK omQ ?_);refine qJ (qK omQ ?_);refine qJ (qz omQ ?_);refine qZ (qG (qQ (qX ‹_› .here rfl ?_)));refine qb omQ ?_;refine qG (qQ ?_)
   refine qg H4 (b:=b) .here ⟨rfl,rfl⟩ osQ λh5 H5=>?_;have H6:HS g h5 (ComC b { c with at_:=c.at_+1 }::qk b0 (zp a)::R):=ComC.I (sv:=sv) (cv:=cv) (tv:=tv) (wv:=wv) H5;refine qW (MZ omQ H6) λ_ h6 H6=>?_;exact hj _ _ (H6.sub (.cons .here (.drop .refl)))
  rw[iQ c5]at hF;by_cases c6:c.state=6
  ·rw[iJ c6]at hF;subst hF;refine qV ?_;(try dsimp only);refine qK omQ ?_;refine qJ (qK omQ ?_);refine qJ (qV ?_);(try dsimp only);refine qK omQ ?_;refine qJ (qK omQ ?_);refine qJ (qK omQ ?_);refine qJ (qK omQ ?_);refine qJ (qz omQ ?_);refine qZ (qG (qQ (qX ‹_› .here rfl ?_)));refine qb omQ ?_;refine qG (qQ ?_)
   refine qg H4 (b:=b) .here ⟨rfl,rfl⟩ osQ λh5 H5=>?_;have H6:HS g h5 (ComC b { c with at_:=c.at_+1 }::qk b0 (zp a)::R):=ComC.I (sv:=sv) (cv:=cv) (tv:=tv) (wv:=wv) H5;refine qW (ZC omQ H6) λ_ h6 H6=>?_;exact hj _ _ (H6.sub (.cons .here (.drop .refl)))
  rw[iQ c6]at hF;subst hF;refine qV ?_;(try dsimp only);refine qK omQ ?_;refine qJ (qK omQ ?_);refine qJ (qV ?_);(try dsimp only);refine qK omQ ?_;refine qJ (qK omQ ?_);refine qJ (qK omQ ?_);refine qJ (qK omQ ?_);refine qJ (qK omQ ?_);refine qJ (qz omQ ?_);refine qZ (qG (qQ (qX ‹_› .here rfl ?_)));refine qb omQ ?_;refine qG (qQ ?_)
  refine qg H4 (b:=b) .here ⟨rfl,rfl⟩ osQ λh5 H5=>?_;have H6:HS g h5 (ComC b { c with at_:=c.at_+1 }::qk b0 (zp a)::R):=ComC.I (sv:=sv) (cv:=cv) (tv:=tv) (wv:=wv) H5;refine qW (VL omQ H6) λ_ h6 H6=>?_;exact hj _ _ (H6.sub (.cons .here (.drop .refl)))
end
end
section
variable {g h:AH} {L R:List SP}
theorem Zk {l:List Cl} {k:Nat} (hk:k<l.length):(l.flatMap jL)[k*2+0]? =some (.int .i64 (yf l (k:Int)).1)∧(l.flatMap jL)[k*2+1]? =some (.int .u64 (yf l (k:Int)).2):=by
 have e:((l.flatMap jL).drop (k*2)).take 2=jL (yf l (k:Int)):=vk (sz:=2) (enc:=jL) (λ_=>rfl) (by unfold yf;rw[Int.toNat_natCast,iW hk];rfl);constructor
 ·have:=congrArg (·[0]?) e;simp only[List.getElem?_take_of_lt (show 0<2 by omega),List.getElem?_drop]at this;exact this
 ·have:=congrArg (·[1]?) e;simp only[List.getElem?_take_of_lt (show 1<2 by omega),List.getElem?_drop]at this;exact this
section
variable {n b:Nat} {c:zX} {sv cv tv wv:AV}
theorem Kv (hn:2≤n) (H:HS g h (ComC b c::R)):t_w n 102 [.ptr b 0] h λr h'=>r=.int .i64 c.p.fin∧h'=h:=by
 refine t_e1 (S:=S102) rfl omQ λk hk=>?_;unfold S102;try simp only[iZ]
 obtain⟨sv,cv,tv,wv,H⟩:=ComC.E H;refine qG (qQ (qW (XG omQ H .here) ?_));rintro _ _ ⟨rfl,rfl⟩;exact qq ⟨rfl,rfl⟩
theorem qzH (hn:2≤n) (H:HS g h (ComC b c::R)):t_w n 150 [.ptr b 0] h λr h'=>r=.int .i64 c.p.err∧h'=h:=by
 refine t_e1 (S:=S150) rfl omQ λk hk=>?_;unfold S150;try simp only[iZ]
 obtain⟨sv,cv,tv,wv,H⟩:=ComC.E H;refine qG (qQ (qW (qzL omQ H .here) ?_));rintro _ _ ⟨rfl,rfl⟩;exact qq ⟨rfl,rfl⟩
theorem qwB (hn:2≤n) (H:HS g h (ComC b c::R)):t_w n 378 [.ptr b 0] h λr h'=>r=.int .i64 c.p.by_∧h'=h:=by
 refine t_e1 (S:=S378) rfl omQ λk hk=>?_;unfold S378;try simp only[iZ]
 obtain⟨sv,cv,tv,wv,H⟩:=ComC.E H;refine qG (qQ (qW (qJt omQ H .here) ?_));rintro _ _ ⟨rfl,rfl⟩;exact qq ⟨rfl,rfl⟩
theorem qKe (hn:1≤n) (hw:0≤c.now∧c.now<9223372036854775807) (H:HS g h (ComC b c::R)):t_w n 122 [.ptr b 0] h λr h'=>r=.int .u64 (Gj c)∧h'=h:=by
 refine t_e1 (S:=S122) rfl omQ λk hk=>?_;unfold S122;try simp only[iZ]
 obtain⟨sv,cv,tv,wv,H⟩:=ComC.E H;unfold Qj x9 at H;unfold Gj;refine qG (qQ (qX ‹_› .here rfl ?_));cases hd:c.writing with
 |true=>rw[iQ osQ];refine jW (qJ (qG (qQ (qX ‹_› .here rfl ?_))));refine yN omQ ?_;exact qq ⟨rfl,rfl⟩
 |false=>rw[iJ rfl];refine jk (qZ ?_);exact qq ⟨rfl,rfl⟩
theorem On (hn:3≤n) (H:HS g h (ComC b c::R)):t_w n 101 [.ptr b 0] h λr h'=>r=.bool (Jj c)∧h'=h:=by
 refine t_e1 (S:=S101) rfl omQ λk hk=>?_;unfold S101;try simp only[iZ]
 obtain⟨sv,cv,tv,wv,H1⟩:=ComC.E H;unfold Qj x9 at H1;unfold Jj;refine qG (qQ (qX ‹_› .here rfl ?_));refine qV ?_;(try dsimp only)
 cases hd:c.writing with
 |true=>
  refine qa ?_;(try dsimp only)
  refine qW (Kv omQ H) ?_;rintro _ _ ⟨rfl,rfl⟩;refine vp (λc1=>?_) (λc1=>?_)
  ·refine qE ?_;exact qq ⟨congrArg AV.bool (by rw[iG (p:=c.p.fin=0) c1];rfl),rfl⟩
  ·refine qE ?_;exact qq ⟨congrArg AV.bool (by rw[iV (p:=c.p.fin=0) c1];rfl),rfl⟩
 |false=>
  refine qR ?_;(try dsimp only);refine qC ?_
  exact qq ⟨rfl,rfl⟩
theorem qWM (hn:2≤n) (O:zS c) (H:HS g h (ComC b c::R)):t_w n 379 [.ptr b 0] h λr h'=>r=opV (vm c)∧HS g h' (ComC b c::R):=by
 refine t_e1 (S:=S379) rfl omQ λk hk=>?_;unfold S379;try simp only[iZ]
 obtain⟨sv,cv,tv,wv,H⟩:=ComC.E H;refine qI H rfl λb0 h1 H1=>?_;have hlo:=O.lo;have hst:=O.st;have hnow:=O.now;have l1:=O.s;have l2:=O.was;refine qG (qQ (qW (XG omQ H1 e_1) ?_));rintro _ _ ⟨rfl,rfl⟩;unfold vm;have H2:=H1;unfold Qj x9 at H2;by_cases hg:c.p.fin=0
 rotate_left
 ·refine qu hg ?_;rw[iJ hg];refine qZ (qH rfl ?_);refine qd H1 (b:=b0) .here rfl (by show 0+10≤10;omega) rfl λh3 H3=>?_;refine qF H3 (b:=b0) (off:=0) .here rfl omQ (l:=yX (op0 0 0 0)) rfl ?_;exact qq ⟨rfl,ComC.I H3.drop⟩
 refine q8 hg ?_;rw[iQ (λh=>h hg)];refine qJ (qG (qQ (qX ‹_› e_1 rfl ?_)));by_cases c0:c.state=0
 ·refine qz c0 ?_;rw[iJ c0];refine qZ (qG (qQ (qX ‹_› e_1 rfl ?_)));refine qG (qQ (qX ‹_› e_1 rfl ?_));refine qi ‹_› e_5 ?_;have hw:=O.st0 hg omQ;refine jI (H1.sl e_4) (x:=.int .i64 (qM c.s c.was.length)) (by rw[List.getElem?_map,wO hw];rfl) ?_;refine qH rfl ?_;refine qd H2 (b:=b0) .here rfl (by show 0+10≤10;omega) rfl λh3 H3=>?_;refine qF H3 (b:=b0) (off:=0) .here rfl omQ (l:=yX (op0 3 (qM c.s c.was.length) 0)) rfl ?_;exact qq ⟨rfl,ComC.I H3.drop⟩
 refine qK c0 ?_;rw[iQ c0];refine qJ ?_;by_cases c1:c.state=1
 ·refine qz c1 ?_;rw[iJ c1];refine qZ (qG (qQ ?_));have hw:=O.st0 hg omQ;refine qh (qX H2 (b:=b) e_1 rfl ?_);refine qG (qQ (qX ‹_› e_1 rfl ?_));refine qH rfl ?_;refine qI H2 rfl λb1 h3 H3=>?_;refine qd H3 (b:=b1) .here rfl (by show 0+3≤3;omega) rfl λh4 H4=>?_;have H4:HS g h4 (qk b1 (jh (c.lk.1,true,c.me))::qk b0 _::qk b (Qj c sv cv tv wv)::_):=H4;have H5:=H4;unfold Qj x9 at H5;refine qG (qQ (qX ‹_› e_2 rfl ?_));refine qG (qQ (qX ‹_› e_2 rfl ?_));refine qi ‹_› e_6 ?_;refine jI (H4.sl e_5) (x:=.int .i64 (qM c.s c.was.length)) (by rw[List.getElem?_map,wO hw];rfl) ?_;refine qG (qQ (qF H5 (b:=b) (off:=13) e_2 rfl omQ (l:=jh c.lk) rfl ?_));refine qF H5 (b:=b1) (off:=0) .here rfl omQ (l:=jh (c.lk.1,true,c.me)) rfl ?_;refine qH rfl ?_;refine qd H5 (b:=b0) e_1 rfl (by show 0+10≤10;omega) rfl λh6 H6=>?_;refine qF H6 (b:=b0) (off:=0) .here rfl omQ (l:=yX ⟨4,qM c.s c.was.length,0,0,c.lk,(c.lk.1,true,c.me)⟩) rfl ?_;exact qq ⟨rfl,ComC.I H6.drop.drop⟩
 refine qK c1 ?_;rw[iQ c1];refine qJ ?_;by_cases c2:c.state=2
 ·refine qz c2 ?_;rw[iJ c2];refine qZ (qH rfl ?_);refine qd H2 (b:=b0) .here rfl (by show 0+10≤10;omega) rfl λh3 H3=>?_;refine qF H3 (b:=b0) (off:=0) .here rfl omQ (l:=yX (op0 6 0 0)) rfl ?_;exact qq ⟨rfl,ComC.I H3.drop⟩
 refine qK c2 ?_;rw[iQ c2];refine qJ ?_;by_cases c3:c.state=3
 ·refine qz c3 ?_;rw[iJ c3];refine qZ (qG (qQ (qX ‹_› e_1 rfl ?_)));refine qG (qQ (qX ‹_› e_1 rfl ?_));refine yN omQ ?_;refine qH rfl ?_;refine qd H2 (b:=b0) .here rfl (by show 0+10≤10;omega) rfl λh3 H3=>?_;refine qF H3 (b:=b0) (off:=0) .here rfl omQ (l:=yX (⟨7,0,c.now,c.now+1,lk0,lk0⟩)) rfl ?_;exact qq ⟨rfl,ComC.I H3.drop⟩
 refine qK c3 ?_;rw[iQ c3];refine qJ ?_;by_cases c4:c.state=4
 ·refine qz c4 ?_;rw[iJ c4];refine qZ (qG (qQ (qX ‹_› e_1 rfl ?_)));refine qG (qQ (qX ‹_› e_1 rfl ?_));have hlt:=O.st4 hg c4;obtain⟨k,hk⟩:∃k:Nat,c.at_=k:=⟨c.at_.toNat,by omega⟩;rw[hk]at hlt ⊢;refine xo (H1.sl e_2) omQ omQ (Qb omQ).1 ?_;refine qH rfl ?_;refine qd H2 (b:=b0) .here rfl (by show 0+10≤10;omega) rfl λh3 H3=>?_;refine qF H3 (b:=b0) (off:=0) .here rfl omQ (l:=yX (op0 3 (zg c.seen k).1 0)) rfl ?_;exact qq ⟨rfl,ComC.I H3.drop⟩
 refine qK c4 ?_;rw[iQ c4];refine qJ ?_;by_cases c5:c.state=5
 ·refine qz c5 ?_;rw[iJ c5];refine qZ (qG (qQ (qX ‹_› e_1 rfl ?_)));refine qG (qQ (qX ‹_› e_1 rfl ?_));have hlt:=O.st5 hg c5;obtain⟨k,hk⟩:∃k:Nat,c.at_=k:=⟨c.at_.toNat,by omega⟩;rw[hk]at hlt ⊢;refine xo (H1.sl e_3) omQ omQ (Zk omQ).1 ?_;refine qG (qQ (qX ‹_› e_1 rfl ?_));refine qG (qQ (qX ‹_› e_1 rfl ?_));rw[hk];refine xo (H1.sl e_3) omQ omQ (Zk omQ).2 ?_;refine qH rfl ?_;refine qd H2 (b:=b0) .here rfl (by show 0+10≤10;omega) rfl λh3 H3=>?_;refine qF H3 (b:=b0) (off:=0) .here rfl omQ (l:=yX (op0 2 (yf c.cells k).1 (yf c.cells k).2)) rfl ?_;exact qq ⟨rfl,ComC.I H3.drop⟩
 refine qK c5 ?_;rw[iQ c5];refine qJ ?_;by_cases c6:c.state=6
 ·refine qz c6 ?_;rw[iJ c6];refine qZ (qG (qQ (qX ‹_› e_1 rfl ?_)));refine qG (qQ (qX ‹_› e_1 rfl ?_));have hlt:=O.st6 hg c6;obtain⟨k,hk⟩:∃k:Nat,c.at_=k:=⟨c.at_.toNat,by omega⟩;rw[hk]at hlt ⊢;refine jI (H1.sl e_4) (x:=.int .i64 (qM c.s k)) (by rw[List.getElem?_map,wO omQ];rfl) ?_;refine qG (qQ (qX ‹_› e_1 rfl ?_));refine yN omQ ?_;refine qH rfl ?_;refine qH rfl ?_;refine qd H2 (b:=b0) .here rfl (by show 0+10≤10;omega) rfl λh3 H3=>?_;refine qF H3 (b:=b0) (off:=0) .here rfl omQ (l:=yX (⟨5,qM c.s k,0,0,lk0,(c.now+1,false,0)⟩)) rfl ?_;exact qq ⟨rfl,ComC.I H3.drop⟩
 refine qK c6 ?_;rw[iQ c6];refine qJ (qG (qQ (qX ‹_› e_1 rfl ?_)));refine qG (qQ (qX ‹_› e_1 rfl ?_));have hlt:=O.st7 hg omQ;obtain⟨k,hk⟩:∃k:Nat,c.at_=k:=⟨c.at_.toNat,by omega⟩;rw[hk]at hlt ⊢;refine jI (H1.sl e_4) (x:=.int .i64 (qM c.s k)) (by rw[List.getElem?_map,wO omQ];rfl) ?_;refine qG (qQ (qX ‹_› e_1 rfl ?_));refine qG (qQ (qX ‹_› e_1 rfl ?_));rw[hk];refine zH (l:=jh (jF c.was k)) (H1.sl e_5) omQ omQ (M2 omQ) ?_;refine qH rfl ?_;refine qd H2 (b:=b0) .here rfl (by show 0+10≤10;omega) rfl λh3 H3=>?_;refine qF H3 (b:=b0) (off:=0) .here rfl omQ (l:=yX (⟨5,qM c.s k,0,0,lk0,jF c.was k⟩)) rfl ?_;exact qq ⟨rfl,ComC.I H3.drop⟩
theorem qzh {me sp st a w:Int} {v1 v2:AV} {r:List xG} {cs:List Cl} (hn:5≤n) (hr:r.length≤1000) (h0:0<cs.length) (hl:cs.length≤1000) (hc:∀c∈cs,0≤c.1∧c.1<100000)
  (H:HS g h (qA 125 2 r.length v1 (r.flatMap y7)::qA 177 2 cs.length v2 (cs.flatMap jL)::R)) :
  t_w n 119 [.int .i64 me,.int .i64 sp,.int .u64 st,v1,v2,.int .i64 a,.int .i64 w] h λv h'=>∃b,v=.ptr b 0∧HS g h' (ComC b (VY me sp st r cs a w)::R):=by
 refine t_e7 (S:=S119) rfl omQ λk hk=>?_;unfold S119;try simp only[iZ]
 refine qW (NB omQ H) ?_;rintro _ h1 ⟨rfl,H1⟩;refine qW (YC omQ H1 .here (Jm (λ_=>rfl) _) omQ) λu1 h2 H2=>?_;refine qW (Z5 omQ H2 e_2 omQ) λu2 h3 H3=>?_;refine qW (qJ8 omQ H3 (H3.rd e_3) h0 hl hc) λu3 h4 H4=>?_;have o1:=H4.one e_2;have o2:=H4.one e_1;have o3:=H4.one .here;unfold x9;refine qH (l:=Qj ⟨Zo me sp,me,st,r,cs,xA cs a w,[],0,0,lk0,0,false,0,0,0⟩ u1 u2 u3 .nils) (by simp only[yB,o1.1,o2.1,o3.1];rfl) ?_;refine qI H4 (by show qo [_,_,_,_,_,_,_,u1,u2,u3,_,_,_,_,_,_,_,_,_,_,_]=true;simp only[qo,List.all_cons,o1.2,o2.2,o3.2];rfl) λb h5 H5=>?_;have H6:=H5.nils (e:=47) (sz:=3);have H7:HS g h5 (ComC b ⟨Zo me sp,me,st,r,cs,xA cs a w,[],0,0,lk0,0,false,0,0,0⟩::R) :=
  ComC.I (sv:=u1) (cv:=u2) (tv:=u3) (wv:=.nils) (H6.sub (.cons e_1 (.cons e_3 (.cons e_2 (.cons e_1 (.cons .here (.drop (.drop .refl))))))))
 refine qW (Zr omQ H7) λ_ h6 H8=>qq ⟨b,rfl,H8⟩
end
end
section
def vW (a:AnM):Prop:=0≤a.word∧a.word<18446744073709551616
theorem Qv {p:JX} {a:AnM} (h:(jZ p a).1=true):(jZ p a).2.fin≠0:=by
 unfold jZ at h ⊢
 split
 ·show(4:Int)≠0;decide
 ·rename_i c;rw[iQ c]at h;simpa using h
theorem NF {p:JX} {l:LkM} (hp:0≤p.spins∧p.spins≤4) (h:(jO p l).1=true):(jO p l).2.fin=p.fin∧0≤(jO p l).2.spins∧(jO p l).2.spins≤4:=by
 unfold jO at h ⊢
 split
 ·exact⟨rfl,hp⟩
 ·rename_i c;rw[iQ c]at h;have:0≤p.spins-1:=by simpa using h
  refine⟨rfl,?_⟩;show 0≤p.spins-1∧p.spins-1≤4;omega
theorem qZe {me sp:Int}:G7 (Zo me sp):=λ_=>by show 0≤max 0 (min sp 4)∧max 0 (min sp 4)≤4;omega
theorem Xa {p:JX} {f e y:Int} (h:f≠0):G7 (xu p f e y):=λhf=>absurd hf h
theorem Yq {f:QN} {a:AnM} (hp:G7 f.p):G7 (z6 f a).p:=by
 unfold z6;cases hs:(jZ f.p a).1 with
 |true=>rw[iJ rfl];exact λh=>absurd h (Qv hs)
 |false=>
  rw[iQ osQ];have hg:=(Ju hs).2;unfold kc
  split
  ·exact hp
  ·split
   ·exact Xa od
   ·split
    ·split
     ·rename_i hw;exact λ_=>(NF (hp hg) hw).2
     ·exact Xa od
    ·split
     ·exact Xa od
     ·exact hp
theorem qzl {me sp:Int} {r:List xG} (hr:r.length≤16):KS (NC me sp r):=⟨qZe,Int.le_refl _,by show(0:Int)≤1000;decide,hr,by show(0:Int)≤_;omega,λ_ h=>by cases h⟩
theorem Zc {x:JJ} (hp:G7 x.p) (h0:0≤x.at_) (h1:x.at_≤x.seen.length) (hr:x.seen.length≤16):KS (Mj x):=by
 unfold Mj
 split
 ·exact⟨Xa od,h0,by show x.at_≤1000;omega,hr,h1,λh=>by cases h⟩
 ·exact⟨hp,h0,by omega,hr,h1,λ_ _=>by omega⟩
theorem Yg {x:JJ} {a:AnM} (O:KS x):KS (gd x a):=by
 unfold gd;cases hs:(jZ x.p a).1 with
 |true=>rw[iJ rfl];exact⟨λh=>absurd h (Qv hs),O.lo,O.hi,O.len,O.le,λh=>absurd h (Qv hs)⟩
 |false=>
  rw[iQ osQ];have hg:=(Ju hs).2;have hlo:=O.lo;have hhi:=O.hi;have hlen:=O.len
  split
  ·exact Zc (x:={ x with loaded:=true,stamp:=a.word }) O.p hlo O.le hlen
  ·rename_i hl;have hl:x.loaded=true:=by simpa using hl
   have hin:=O.in_ hg hl
   split
   ·split
    ·rename_i hw;have:=NF (O.p hg) hw;exact⟨λ_=>this.2,hlo,hhi,hlen,O.le,λ_ _=>hin⟩
    ·exact⟨Xa od,hlo,hhi,hlen,O.le,λh=>by cases h⟩
   ·split
    ·exact⟨Xa od,hlo,hhi,hlen,O.le,λh=>by cases h⟩
    ·exact Zc (x:={ x with at_:=x.at_+1 }) O.p (by show 0≤x.at_+1;omega) (by show x.at_+1≤(x.seen.length:Int);omega) hlen
section
variable {c:zX}
theorem MA (r:c.s.Pairwise (· < ·)) (h:zQ 1 c.p.spins 6 c.at_ c.now c.fin2 c.seen.length c.cells.length c.s.length c.was.length) (hs:c.state=6) (hp:0≤c.p.spins∧c.p.spins≤4) (ha:c.at_≤c.s.length):zS (ym c):=by
 unfold ym;unfold zQ at h
 split
 ·refine⟨r,?_⟩;show zQ 2 c.p.spins c.state c.at_ c.now c.fin2 c.seen.length c.cells.length c.s.length c.was.length;unfold zQ;omega
 ·refine⟨r,?_⟩;unfold zQ;omega
theorem Uw (r:c.s.Pairwise (· < ·)) (h:zQ 1 c.p.spins 5 c.at_ c.now c.fin2 c.seen.length c.cells.length c.s.length c.was.length) (hs:c.state=5) (hp:0≤c.p.spins∧c.p.spins≤4) (ha:c.at_≤c.cells.length):zS (zG c):=by
 unfold zG;unfold zQ at h
 split
 ·refine MA (c:={ c with at_:=0,state:=6 }) r ?_ rfl hp (by show(0:Int)≤_;omega);show zQ 1 c.p.spins 6 0 c.now c.fin2 c.seen.length c.cells.length c.s.length c.was.length;unfold zQ;omega
 ·refine⟨r,?_⟩;unfold zQ;omega
theorem YK (r:c.s.Pairwise (· < ·)) (h:zQ 1 c.p.spins 4 c.at_ c.now c.fin2 c.seen.length c.cells.length c.s.length c.was.length) (hp:0≤c.p.spins∧c.p.spins≤4):zS (vX c):=by unfold vX;unfold zQ at h;refine Uw (c:={ c with writing:=true,at_:=0,state:=5 }) r ?_ rfl hp (by show(0:Int)≤_;omega);show zQ 1 c.p.spins 5 0 c.now c.fin2 c.seen.length c.cells.length c.s.length c.was.length;unfold zQ;omega
theorem Uk (r:c.s.Pairwise (· < ·)) (h:zQ 1 c.p.spins 7 c.at_ c.now c.fin2 c.seen.length c.cells.length c.s.length c.was.length) (hs:c.state=7) (ha:c.at_≤c.was.length):zS (yR c):=by
 unfold yR;unfold zQ at h
 split
 ·refine⟨r,?_⟩;show zQ c.fin2 c.p.spins c.state c.at_ c.now c.fin2 c.seen.length c.cells.length c.s.length c.was.length;unfold zQ;omega
 ·refine⟨r,?_⟩;unfold zQ;omega
theorem XN {f e y:Int} (r:c.s.Pairwise (· < ·)) (h:zQ 1 c.p.spins c.state c.at_ c.now c.fin2 c.seen.length c.cells.length c.s.length c.was.length) (hf:f≠0):zS (vt c f e y):=by unfold vt;unfold zQ at h;refine Uk (c:={ c with fin2:=f,err2:=e,by2:=y,at_:=0,state:=7 }) r ?_ rfl (by show(0:Int)≤_;omega);show zQ 1 c.p.spins 7 0 c.now f c.seen.length c.cells.length c.s.length c.was.length;unfold zQ;omega
theorem zS.dead (O:zS c):zQ 1 c.p.spins c.state c.at_ c.now c.fin2 c.seen.length c.cells.length c.s.length c.was.length:=by have h:=O.ar;unfold zQ at h ⊢;omega
theorem VN {l:LkM} (O:zS c) (hg:c.p.fin=0) (hs:c.state≤6):zS (gH c l):=by
 unfold gH;have h:=O.ar
 split
 ·rename_i hw;have:=NF (O.p hg hs) hw;refine⟨O.rise,?_⟩;show zQ (jO c.p l).2.fin (jO c.p l).2.spins c.state c.at_ c.now c.fin2 c.seen.length c.cells.length c.s.length c.was.length;unfold zQ at h ⊢;omega
 ·refine XN (c:={ c with p:=(jO c.p l).2 }) O.rise ?_ od;show zQ 1 (jO c.p l).2.spins c.state c.at_ c.now c.fin2 c.seen.length c.cells.length c.s.length c.was.length;unfold zQ at h ⊢;omega
theorem OH (r:c.s.Pairwise (· < ·)):∀(m:Nat) (a:Int),zQ 1 c.p.spins 4 a c.now c.fin2 c.seen.length c.cells.length c.s.length c.was.length→(0≤c.p.spins∧c.p.spins≤4)→zS (yz { c with state:=4,at_:=a } m):=by
 intro m
 induction m with
 |zero=>intro a h hp;exact YK (c:={ c with state:=4,at_:=a }) r h hp
 |succ m ih=>
  intro a h hp;unfold yz;dsimp only
  split
  ·rename_i hlt
   split
   ·refine⟨r,?_⟩;show zQ c.p.fin c.p.spins 4 a c.now c.fin2 c.seen.length c.cells.length c.s.length c.was.length;unfold zQ at h ⊢;omega
   ·split
    ·exact XN (c:={ c with state:=4,at_:=a }) r h od
    ·refine ih (a+1) ?_ hp;unfold zQ at h ⊢;omega
  ·exact YK (c:={ c with state:=4,at_:=a }) r h hp
theorem Uq (r:c.s.Pairwise (· < ·)) (h:zQ 1 c.p.spins 4 c.at_ c.now c.fin2 c.seen.length c.cells.length c.s.length c.was.length) (hp:0≤c.p.spins∧c.p.spins≤4):zS (gM c):=OH r _ c.at_ h hp
set_option maxHeartbeats 4000000 in
theorem xL {a:AnM} (O:zS c) (ha:vW a):zS (jo c a):=by
 have h:=O.ar;have hd:=O.dead;unfold jo;cases hs:(jZ c.p a).1 with
 |true=>rw[iJ rfl];have hf:=Qv hs;refine⟨O.rise,?_⟩;show zQ (jZ c.p a).2.fin (jZ c.p a).2.spins c.state c.at_ c.now c.fin2 c.seen.length c.cells.length c.s.length c.was.length;unfold zQ at h ⊢;omega
 |false=>
  rw[iQ osQ];have hg:=(Ju hs).2;have ha:=ha.1;rw[hg]at h
  split
  ·rename_i hst;unfold wI
   split
   ·exact VN O hg omQ
   ·split
    ·refine⟨O.rise,?_⟩;show zQ c.p.fin c.p.spins 1 c.at_ c.now c.fin2 c.seen.length c.cells.length c.s.length c.was.length;rw[hg];unfold zQ at h ⊢;omega
    ·split
     ·unfold vy;dsimp only;have hl:(c.was++[c.lk]).length=c.was.length+1:=by simp
      split
      ·refine⟨O.rise,?_⟩;show zQ c.p.fin c.p.spins 2 c.at_ c.now c.fin2 c.seen.length c.cells.length c.s.length (c.was++[c.lk]).length;rw[hg];unfold zQ at h ⊢;omega
      ·refine⟨O.rise,?_⟩;show zQ c.p.fin c.p.spins 0 c.at_ c.now c.fin2 c.seen.length c.cells.length c.s.length (c.was++[c.lk]).length;rw[hg];unfold zQ at h ⊢;omega
     ·refine⟨O.rise,?_⟩;show zQ c.p.fin c.p.spins 0 c.at_ c.now c.fin2 c.seen.length c.cells.length c.s.length c.was.length;rw[hg];unfold zQ at h ⊢;omega
  split
  ·unfold vR
   split
   ·exact XN O.rise hd od
   ·split
    ·refine⟨O.rise,?_⟩;show zQ c.p.fin c.p.spins 3 c.at_ a.word c.fin2 c.seen.length c.cells.length c.s.length c.was.length;rw[hg];unfold zQ at h ⊢;omega
    ·split
     ·refine⟨O.rise,?_⟩;show zQ c.p.fin c.p.spins 2 c.at_ c.now c.fin2 c.seen.length c.cells.length c.s.length c.was.length;rw[hg];unfold zQ at h ⊢;omega
     ·have h4:zQ 1 c.p.spins 4 c.at_ c.now c.fin2 c.seen.length c.cells.length c.s.length c.was.length:=by unfold zQ at h ⊢;omega
      split
      ·exact YK O.rise h4 (O.p hg omQ)
      ·exact Uq O.rise h4 (O.p hg omQ)
  split
  ·rename_i h4;unfold yd
   split
   ·exact VN O hg omQ
   ·split
    ·exact XN O.rise hd od
    ·refine Uq (c:={ c with at_:=c.at_+1 }) O.rise ?_ (O.p hg omQ);show zQ 1 c.p.spins 4 (c.at_+1) c.now c.fin2 c.seen.length c.cells.length c.s.length c.was.length;unfold zQ at h ⊢;omega
  split
  ·rename_i h5;have:=O.st5 hg h5;refine Uw (c:={ c with at_:=c.at_+1 }) O.rise ?_ h5 (O.p hg omQ) (by show c.at_+1≤(c.cells.length:Int);omega);show zQ 1 c.p.spins 5 (c.at_+1) c.now c.fin2 c.seen.length c.cells.length c.s.length c.was.length;unfold zQ at h ⊢;omega
  split
  ·rename_i h6;have:=O.st6 hg h6;refine MA (c:={ c with at_:=c.at_+1 }) O.rise ?_ h6 (O.p hg omQ) (by show c.at_+1≤(c.s.length:Int);omega);show zQ 1 c.p.spins 6 (c.at_+1) c.now c.fin2 c.seen.length c.cells.length c.s.length c.was.length;unfold zQ at h ⊢;omega
  ·have hst:=O.st;have h7:c.state=7:=by omega
   have:=O.st7 hg h7;refine Uk (c:={ c with at_:=c.at_+1 }) O.rise ?_ h7 (by show c.at_+1≤(c.was.length:Int);omega);show zQ 1 c.p.spins 7 (c.at_+1) c.now c.fin2 c.seen.length c.cells.length c.s.length c.was.length;unfold zQ at h ⊢;omega
theorem qqP {me sp st a w:Int} {r:List xG} {cs:List Cl} (hr:r.length≤16) (h0:0<cs.length) (hl:cs.length≤1000) (hc:∀c∈cs,0≤c.1):zS (VY me sp st r cs a w):=by
 have h1:(xA cs a w).length≤16:=by unfold xA;exact Nat.le_trans (List.length_filter_le ..) osQ
 have h2:0<(xA cs a w).length:=by obtain⟨c,hcm⟩:=List.exists_mem_of_length_pos h0;exact List.length_pos_of_mem ((J2 (n:=a) (w:=w) hc).2 (List.mem_map.2 ⟨c,hcm,rfl⟩))
 unfold VY vy;rw[iQ (by show¬(0:Nat)=(xA cs a w).length;omega)];refine⟨Yo,?_⟩;show zQ 0 (max 0 (min sp 4)) 0 0 0 0 r.length cs.length (xA cs a w).length 0;unfold zQ;omega
end
end
section
theorem qgh {l:List qO} (F:Fit l) (Q:Quiet l):∀(n:Nat) {s:IM} {V:VM},GI l s V→frS V.lv+n<9000→(jf l (qS l) n s V).kind=1→frS (jf l (qS l) n s V).v.lv+(jf l (qS l) n s V).left≤frS V.lv+n:=by
 intro n
 induction n with
 |zero=>
  intro s V G hf;rw[kH]
  split<;>(intro h;cases h)
 |succ n ih=>
  intro s V G hf;rw[QW]
  split
  ·intro h;cases h
  ·rename_i h0;obtain⟨i,hi,hil⟩:=G.pc;have hlt:i<l.length:=by omega
   rw[hi];have S:=GV F G hi hlt omQ (Q.at hlt).2 (Q.at hlt).1;generalize doM (qS l) s V (qL l i)=D at*
   split
   ·rename_i h1
    split
    ·intro h;cases h
    ·rename_i h2;have hfr:=S.fr;intro h;have:=ih (S.next h1 (by simpa using h2)) omQ h;omega
   ·split
    ·rename_i h11;obtain⟨n1,n2,_⟩:=S.need h11;intro _;show frS D.v.lv+(n+1)≤_;rw[n2];omega
    ·intro h;cases h
theorem qgm {l:List qO} {mt:List Int}:∀(n:Nat) {s:IM} {V:VM},(jf l mt n s V).kind=1→(jf l mt n s V).err=0:=by
 intro n
 induction n with
 |zero=>intro s V;rw[kH];split<;>(intro h;cases h)
 |succ n ih=>
  intro s V;rw[QW];generalize doM mt s V (qL l s.pc)=D
  split
  ·intro h;cases h
  ·split
   ·split
    ·intro h;cases h
    ·exact ih
   ·split
    ·intro _;rfl
    ·intro h;cases h
theorem qzo {l:List qO} {s:IM} {V:VM} {p x:Int} (G:GI l s V) (hx:0≤x∧x<18446744073709551616):GI l s (yC V p x).2:=by
 have hl:(yC V p x).2.lv=V.lv:=by
  unfold yC
  repeat' split
  all_goals rfl
 refine⟨G.gb,G.pc,G.pts,G.told,G.stk,by rw[hl];exact G.lv,⟨Z6 G.good.ok,?_⟩⟩;unfold yC
 split
 ·split
  ·exact G.good.wd
  ·refine⟨λc hc=>?_,G.good.wd.l⟩;rcases List.mem_append.1 hc with hc |hc
   ·exact G.good.wd.k c hc
   ·rw[List.mem_singleton]at hc;subst hc;exact hx
 ·exact G.good.wd
theorem qg3 {l:List qO} {mt:List Int}:∀(n:Nat) {s:IM} {V:VM},(jf l mt n s V).left≤n:=by
 intro n
 induction n with
 |zero=>intro s V;rw[kH];split<;>exact Nat.le_refl _
 |succ n ih=>
  intro s V;rw[QW];generalize doM mt s V (qL l s.pc)=D
  split
  ·exact Nat.le_refl _
  ·split
   ·split
    ·exact Nat.le_succ n
    ·exact Nat.le_trans ih (Nat.le_succ n)
   ·split<;>exact Nat.le_refl _
end
section
structure xd (S:zr):Prop where
  words:32≤S.words∧S.words≤256
  stripes:1≤S.stripes∧S.stripes≤16
  wide:1≤S.wide∧S.wide≤16
  threads:1≤S.threads∧S.threads≤4
  start:0≤S.start∧S.start≤4611686018427387903
  spins:0≤S.spins∧S.spins≤4
  writes:0≤S.writes∧S.writes≤96
  fuel:0≤S.fuel∧S.fuel≤400
theorem JZ {n lo hi:Int} (h:lo≤hi):lo≤Qp n lo hi∧Qp n lo hi≤hi:=by unfold Qp;omega
theorem yx {n lo hi:Int} (h:lo≤n∧n≤hi):Qp n lo hi=n:=by unfold Qp;omega
theorem yr {s:zr} (h:0≤s.start):xd (jz s) :=
 ⟨JZ omQ,JZ omQ,JZ omQ,JZ omQ,by show 0≤min s.start 4611686018427387903∧min s.start 4611686018427387903≤4611686018427387903;omega,JZ omQ,JZ omQ,JZ omQ⟩
theorem kN {S:zr} (O:xd S):jz S=S:=by obtain⟨a,b,c,d,e,f,g,i⟩:=O;obtain⟨w,s,wi,t,st,sp,wr,fu⟩:=S;unfold jz;dsimp only at*;rw[yx a,yx b,yx c,yx d,yx f,yx g,yx i,show min st 4611686018427387903=st by omega]
theorem qKp {M:VM} {b:Int} (h:(xw M b).1=11):Jg M (xw M b).2:=by
 have ha:=qkN M b;unfold xw at h ⊢
 split
 ·rename_i h1;rw[iJ h1]at h;have e:=ha.2 h1
  split
  ·rename_i h2;rw[iJ h2]at h;cases h
  ·rename_i h2;rw[iQ h2]at h
   split
   ·rename_i h3;rw[iJ h3]at h;exact(Ym h).elim
   ·rename_i h3;rw[iQ h3]at h;rw[e]at h ⊢;exact kB h
 ·rename_i h1;rw[iQ h1]at h;exact ZS h
theorem qXl {M:VM} {b:Int} (O:OkV M):Jk M (xw M b).2:=by
 have ha:=OS M b;unfold xw
 repeat' split
 ·exact ha
 ·exact(ha.trans (xX _ _)).trans (gY (xO (XB O)))
 ·exact ha.trans (xX _ _)
 ·exact ha
theorem qja:∀(bs:List Int) (k:Nat) {V:VM},jC V→jC (zf V bs k).2∧Jk V (zf V bs k).2∧frS (zf V bs k).2.lv=frS V.lv∧(zf V bs k).1.1≤k+bs.length∧
  ((zf V bs k).1.2=11→1≤(zf V bs k).2.need∧(zf V bs k).2.need<V.sz∧zj (zf V bs k).2.need V.K=none):=by
 intro bs
 induction bs with
 |nil=>intro k V G;exact⟨G,.refl V,rfl,Nat.le_refl _,λh=>by cases h⟩
 |cons b r ih=>
  intro k V G;have hg:=G.give (b:=b);have hk:=qXl (b:=b) G.ok;by_cases h0:(xw V b).1=0
  ·rw[show zf V (b::r) k=zf (xw V b).2 r (k+1)from iJ h0];obtain⟨a1,a2,a3,a4,a5⟩:=ih (k+1) hg.1;refine⟨a1,hk.trans a2,a3.trans hg.2,by rw[List.length_cons];omega,λh=>?_⟩;have:=a5 h;rw[hk.sz,hk.K]at this;exact this
  ·rw[show zf V (b::r) k=((k,(xw V b).1),(xw V b).2)from iQ h0];exact⟨hg.1,hk,hg.2,by dsimp only;omega,λh=>(qKp h).2⟩
def JobOk (live:Prop) (V:VM):Yx→Prop
 | .prog q=>Fit q.l∧Quiet q.l∧GB q.s∧(live→GI q.l q.s V∧q.fin=0∧q.err=0∧frS V.lv+q.left<9000)∧q.left≤400
 | .sweep bs k=>k≤bs.length∧bs.length≤100000
theorem JobOk.dead {live live':Prop} {V V':VM} {j:Yx} (O:JobOk live V j) (h:¬live'):JobOk live' V' j:=by
 cases j with
 |prog q=>exact⟨O.1,O.2.1,O.2.2.1,λh'=>absurd h' h,O.2.2.2.2⟩
 |sweep bs k=>exact O
theorem JobOk.same {live live':Prop} {V:VM} {j:Yx} (O:JobOk live V j) (h:live'→live):JobOk live' V j:=by
 cases j with
 |prog q=>exact⟨O.1,O.2.1,O.2.2.1,λh'=>O.2.2.2.1 (h h'),O.2.2.2.2⟩
 |sweep bs k=>exact O
structure zT (x:jY):Prop where
  set:xd x.set
  good:jC x.v
  sz:(x.v.sz:Int)=x.set.words
  fr:frS x.v.lv<9000
  r:x.r.length≤16
  job:JobOk (x.state≤4) x.v x.job
  st:0≤x.state∧x.state≤8
  f:x.state=3→G7 x.f.p∧0≤x.f.word∧x.f.word<18446744073709551616
  need:3≤x.state→x.state≤4→1≤x.v.need∧x.v.need<x.v.sz∧zj x.v.need x.v.K=none
  e:4≤x.state→x.state≤5→KS x.e
  c:∀c,x.c=some c→zS c
  c0:x.state≤5→x.c=none
  c6:x.state=6→x.c≠none
structure DoneK (x:jY) (k:Int) (y:jY):Prop where
  good:jC y.v
  kept:y.v.sz=x.v.sz∧y.v.K=x.v.K∧y.v.most=x.v.most
  fr:frS y.v.lv<9000
  job:JobOk (k=1) y.v y.job
  need:k=1→1≤y.v.need∧y.v.need<x.v.sz∧zj y.v.need x.v.K=none
  same:y.me=x.me∧y.set=x.set∧y.r=x.r∧y.stamp=x.stamp∧y.c=x.c
theorem KF {x:jY} (hg:jC x.v) (hf:frS x.v.lv<9000) (hj:JobOk True x.v x.job):DoneK x (yv x).1.1 (yv x).2:=by
 unfold yv;cases hx:x.job with
 |prog q=>
  rw[hx]at hj;obtain⟨F,Q,gb,h,hl⟩:=hj;obtain⟨G,h0,h1,h2⟩:=h trivial;obtain⟨RB,rfr,_,rn,_⟩:=qQo F Q q.left G h2;dsimp only;refine⟨RB.good,⟨RB.sz,RB.K,RB.most⟩,by dsimp only;omega,⟨F,Q,RB.gb,λhk=>?_,?_⟩,λhk=>?_,⟨rfl,rfl,rfl,rfl,rfl⟩⟩
  ·have hr:=qgh F Q q.left G h2 hk;exact⟨(rn hk).1,iJ hk,qgm _ hk,by dsimp only;omega⟩
  ·have hr:=qg3 (l:=q.l) (mt:=qS q.l) q.left (s:=q.s) (V:=x.v);dsimp only;omega
  ·exact(rn hk).2
 |sweep bs k=>
  rw[hx]at hj;obtain⟨a1,a2,a3,a4,a5⟩:=qja (bs.drop k) k hg;dsimp only;refine⟨a1,⟨a2.sz,a2.K,a2.most⟩,by dsimp only;omega,⟨by rw[List.length_drop]at a4;have:=hj.1;omega,hj.2⟩,λh=>?_,⟨rfl,rfl,rfl,rfl,rfl⟩⟩
  ·refine a5 ?_
   split at h
   ·assumption
   ·split at h<;>cases h
structure ku (x:jY):Prop where
  set:xd x.set
  good:jC x.v
  sz:(x.v.sz:Int)=x.set.words
  fr:frS x.v.lv<9000
  r:x.r.length≤16
  job:JobOk False x.v x.job
  c:∀c,x.c=some c→zS c
theorem zT.b {x:jY} (O:zT x):ku x:=⟨O.set,O.good,O.sz,O.fr,O.r,O.job.dead not_false,O.c⟩
theorem ku.out {x:jY} (B:ku x) {f e y:Int}:zT (yF x f e y) :=
 ⟨B.set,B.good,B.sz,B.fr,B.r,B.job.dead (by show¬(7:Int)≤4;decide),by show(0:Int)≤7∧(7:Int)≤8;decide,λh=>(by cases h),λ_ h=>(by cases h),λ_ h=>(by cases h),B.c,λh=>(by cases h),λh=>by cases h⟩
theorem ku.gone {x:jY} (B:ku x) {f e y:Int}:zT { yF x f e y with state:=8 } :=
 ⟨B.set,B.good,B.sz,B.fr,B.r,B.job.dead (by show¬(8:Int)≤4;decide),by show(0:Int)≤8∧(8:Int)≤8;decide,λh=>(by cases h),λ_ h=>(by cases h),λ_ h=>(by cases h),B.c,λh=>(by cases h),λh=>by cases h⟩
theorem ku.ask {x:jY} (B:ku x) (hj:JobOk True x.v x.job) (hn:1≤x.v.need∧x.v.need<x.v.sz∧zj x.v.need x.v.K=none) (hc:x.c=none):zT (GN x x.v.need) :=
 ⟨B.set,B.good,B.sz,B.fr,B.r,hj.same λ_=>trivial,by show(0:Int)≤3∧(3:Int)≤8;decide,λ_=>⟨qZe,by show(0:Int)≤0;decide,by show(0:Int)<_;decide⟩,λ_ _=>hn,λh=>absurd h (by show¬(4:Int)≤3;decide),B.c,λ_=>hc,λh=>by cases h⟩
theorem ku.later {x:jY} (B:ku x) (hc:x.c=none) {s:Int} (hs:s=4∨s=5) (hj:s=4→JobOk True x.v x.job∧1≤x.v.need∧x.v.need<x.v.sz∧zj x.v.need x.v.K=none):zT (Qe x s):=by
 refine⟨B.set,B.good,B.sz,B.fr,B.r,?_,by show 0≤s∧s≤8;omega,λh=>?_,λ_ h=>(hj ?_).2,λ_ _=>qzl B.r,B.c,λ_=>hc,λh=>?_⟩
 ·show JobOk (s≤4) x.v x.job;rcases hs with rfl |rfl
  ·exact(hj rfl).1.same λ_=>trivial
  ·exact B.job.dead od
 ·have h:s=3:=h;omega
 ·have h:s≤4:=h;omega
 ·have h:s=6:=h;omega
theorem Ku {V:VM} (O:OkV V):(jn V.lv).length≤96∧∀c∈jn V.lv,1≤c.1∧c.1<256:=by have h1:=UB V.lv [];have h2:=O.lvs.held;have h3:=O.lvs.le;refine⟨by simp at h1;unfold jn;omega,?_⟩;exact VA V.lv [] (λc hc=>by cases hc) O.lvs.ins
theorem ku.work {x:jY} (B:ku x) (hj:JobOk True x.v x.job) (hc:x.c=none):zT (wE x):=by
 have D:=KF B.good B.fr hj;unfold wE;generalize(yv x).1.1=k at*;generalize(yv x).1.2=e at*;generalize(yv x).2=y at*;obtain⟨e1,e2,e3,e4,e5⟩:=D.same;have hyc:y.c=none:=by rw[e5,hc]
 have B':ku y:=⟨by rw[e2];exact B.set,D.good,by rw[D.kept.1,e2];exact B.sz,D.fr,by rw[e3];exact B.r,D.job.same λh=>h.elim,λc h=>by rw[hyc]at h;cases h⟩;unfold kg
 split
 ·rename_i h1;exact B'.ask (D.job.same λ_=>h1) (by have:=D.need h1;rw[D.kept.1,D.kept.2.1];exact this) hyc
 ·split
  ·exact ku.later (x:={ y with blocking:=true }) ⟨B'.set,B'.good,B'.sz,B'.fr,B'.r,B'.job,B'.c⟩ hyc (.inr rfl) λh=>by cases h
  ·split
   ·exact B'.out
   ·split
    ·exact B'.out
    ·rename_i hm;have hmo:=Ku D.good.ok;refine⟨B'.set,B'.good,B'.sz,B'.fr,B'.r,B'.job.dead (by show¬(6:Int)≤4;decide),by show(0:Int)≤6∧(6:Int)≤8;decide,λh=>(by cases h),λ_ h=>(by cases h),λ_ h=>(by cases h),λc h=>?_,λh=>(by cases h),λ_ h=>by cases h⟩;cases h;exact qqP B'.r (List.length_pos_iff.2 hm) omQ λc hc=>by have:=hmo.2 c hc;omega
theorem Y0 {r:List xG} {x:xG} (h:r.length≤16):(kz r x).2.length≤16:=by
 unfold kz
 split
 ·exact h
 ·split
  ·split<;>exact h
  ·split
   ·exact h
   ·rw[List.length_append,List.length_singleton];omega
theorem kZ {V:VM} {p x:Int}:(yC V p x).2.lv=V.lv∧(yC V p x).2.sz=V.sz:=by
 unfold yC
 repeat' split
 all_goals exact⟨rfl,rfl⟩
theorem XK {V:VM} {p x:Int} (G:jC V) (hx:0≤x∧x<18446744073709551616):jC (yC V p x).2:=by
 refine⟨Z6 G.ok,?_⟩;unfold yC
 split
 ·split
  ·exact G.wd
  ·refine⟨λc hc=>?_,G.wd.l⟩;rcases List.mem_append.1 hc with hc |hc
   ·exact G.wd.k c hc
   ·rw[List.mem_singleton]at hc;subst hc;exact hx
 ·exact G.wd
theorem JobOk.know {V:VM} {j:Yx} {p x:Int} (O:JobOk True V j) (hx:0≤x∧x<18446744073709551616):JobOk True (yC V p x).2 j:=by
 cases j with
 |prog q=>exact⟨O.1,O.2.1,O.2.2.1,λ_=>⟨qzo (O.2.2.2.1 trivial).1 hx,(O.2.2.2.1 trivial).2.1,(O.2.2.2.1 trivial).2.2.1,by rw[kZ.1];exact(O.2.2.2.1 trivial).2.2.2⟩,O.2.2.2.2⟩
 |sweep bs k=>exact O
theorem XD {f:QN} (h:0≤f.word∧f.word<18446744073709551616):0≤xn f∧xn f<18446744073709551616:=by
 unfold xn
 split
 ·omega
 ·exact h
theorem XS {f:QN} {a:AnM} (h:0≤f.word∧f.word<18446744073709551616) (ha:vW a):0≤(z6 f a).word∧(z6 f a).word<18446744073709551616:=by
 unfold z6 kc
 repeat' split
 all_goals first |exact h |exact ha
theorem ku.fetched {x:jY} (B:ku x) (hj:JobOk True x.v x.job) (hn:1≤x.v.need∧x.v.need<x.v.sz∧zj x.v.need x.v.K=none) (hc:x.c=none) (hw:0≤x.f.word∧x.f.word<18446744073709551616):zT (xP x):=by
 unfold xP
 split
 ·exact B.later hc (.inl rfl) λ_=>⟨hj,hn⟩
 ·have hx:=XD hw
  split
  ·refine ku.work ?_ (hj.know hx) hc;exact⟨B.set,XK B.good hx,by show((yC x.v x.v.need (xn x.f)).2.sz:Int)=_;rw[kZ.2];exact B.sz,by show frS (yC x.v x.v.need (xn x.f)).2.lv<9000;rw[kZ.1];exact B.fr,Y0 B.r,(hj.know hx).same λh=>h.elim,B.c⟩
  ·split<;>exact B.out
theorem VG {x:jY} (O:zT x):zT (zN x):=by
 unfold zN
 split
 ·split
  ·exact⟨O.set,O.good,O.sz,O.fr,O.r,O.job,O.st,O.f,O.need,O.e,O.c,O.c0,O.c6⟩
  ·exact O
 ·exact O
theorem Ok {x:jY} (O:zT x) (h3:3≤x.state) (h6:x.state≤6):zT (yg x):=by
 unfold yg
 split
 ·rename_i hs;exact O.b.fetched (O.job.same λ_=>by omega) (O.need omQ omQ) (O.c0 omQ) (O.f hs).2
 ·split
  ·rename_i hs;exact ku.ask (x:={ x with stamp:=wa x.e }) ⟨O.set,O.good,O.sz,O.fr,O.r,O.job.dead not_false,O.c⟩ (O.job.same λ_=>by omega) (O.need omQ omQ) (O.c0 omQ)
  ·split
   ·exact ku.out (x:={ x with stamp:=wa x.e }) ⟨O.set,O.good,O.sz,O.fr,O.r,O.job.dead not_false,O.c⟩
   ·split
    ·exact O.b.out
    ·rename_i hc;exact absurd hc (O.c6 omQ)
def yt (x:jY):jY:=if(yO x).1=0 then x else if(yO x).1=5 then yF x 5 0 (yO x).2 else yg x
theorem MH {x:jY} (O:zT x) (h3:3≤x.state) (h6:x.state≤6):zT (yt x):=by
 unfold yt
 split
 ·exact O
 ·split
  ·exact O.b.out
  ·exact Ok O h3 h6
theorem YD {x:jY} (O:zT x) (h3:3≤x.state) (h6:x.state≤6):zT (vu x):=VG (MH O h3 h6)
theorem MC {x:jY} {a:AnM} (O:zT x) (ha:vW a):zT (zV x a):=by
 have hst:=O.st;unfold zV
 split
 ·exact O
 ·split
  ·exact O.b.gone
  ·split
   ·exact⟨O.set,O.good,O.sz,O.fr,O.r,O.job.same λ_=>by omega,by show(0:Int)≤1∧(1:Int)≤8;decide,λh=>(by cases h),λh=>absurd h (by show¬(3:Int)≤1;decide),λh=>absurd h (by show¬(4:Int)≤1;decide),O.c,λ_=>O.c0 omQ,λh=>by cases h⟩
   ·split
    ·exact⟨O.set,O.good,O.sz,O.fr,O.r,O.job.same λ_=>by omega,by show(0:Int)≤2∧(2:Int)≤8;decide,λh=>(by cases h),λh=>absurd h (by show¬(3:Int)≤2;decide),λh=>absurd h (by show¬(4:Int)≤2;decide),O.c,λ_=>O.c0 omQ,λh=>by cases h⟩
    ·split
     ·exact O.b.work (O.job.same λ_=>by omega) (O.c0 omQ)
     ·split
      ·exact⟨O.set,O.good,O.sz,O.fr,O.r,O.job.dead (by show¬(8:Int)≤4;decide),by show(0:Int)≤8∧(8:Int)≤8;decide,λh=>(by cases h),λ_ h=>(by cases h),λ_ h=>(by cases h),O.c,λh=>(by cases h),λh=>by cases h⟩
      ·split
       ·rename_i hs;have hf:=O.f hs;refine YD (x:={ x with f:=z6 x.f a }) ?_ (by show 3≤x.state;omega) (by show x.state≤6;omega);exact⟨O.set,O.good,O.sz,O.fr,O.r,O.job,O.st,λ_=>⟨Yq hf.1,XS hf.2 ha⟩,O.need,O.e,O.c,O.c0,O.c6⟩
       ·split
        ·rename_i hs;refine YD (x:={ x with c:=x.c.map λc=>jo c a }) ?_ (by show 3≤x.state;omega) (by show x.state≤6;omega);refine⟨O.set,O.good,O.sz,O.fr,O.r,O.job,O.st,O.f,O.need,O.e,λc h=>?_,λh=>absurd h (by show¬x.state≤5;omega),λh hn=>O.c6 h ?_⟩
         ·obtain⟨c',h1,rfl⟩:=Option.map_eq_some_iff.1 h;exact xL (O.c c' h1) ha
         ·exact Option.map_eq_none_iff.1 hn
        ·refine YD (x:={ x with e:=gd x.e a }) ?_ (by show 3≤x.state;omega) (by show x.state≤6;omega);exact⟨O.set,O.good,O.sz,O.fr,O.r,O.job,O.st,O.f,O.need,λh1 h2=>Yg (O.e h1 h2),O.c,O.c0,O.c6⟩
theorem Mk (w m:Int):jC (Ni w m):=⟨qzr w m,λc hc=>(by cases hc),λx hx c hc=>by
 rcases List.mem_cons.1 hx with rfl |hx
 ·cases hc
 ·cases hx⟩
theorem qXC {me:Int} {S:zr} {j:Yx} (O:xd S) (hj:JobOk True (Ni S.words S.writes) j):zT (qJA me S j):=by have:=O.words;refine⟨O,Mk _ _,?_,by show(0:Nat)<9000;decide,Nat.zero_le _,hj.same λ_=>trivial,by show(0:Int)≤0∧(0:Int)≤8;decide,λh=>(by cases h),λh=>absurd h (by show¬(3:Int)≤0;decide),λh=>absurd h (by show¬(4:Int)≤0;decide),λc h=>(by cases h),λ_=>rfl,λh=>by cases h⟩;show((szZ S.words:Nat):Int)=S.words;unfold szZ;omega
theorem qJC {me:Int} {S:zr} {l:List qO} (hs:0≤S.start) (hc:(zt l).2=0) (Q:Quiet l):zT (QC me S l):=by
 have O:=yr hs;refine qXC O ?_;have G:=Mk (jz S).words (jz S).writes;have hf:Xl (jz S).fuel≤400:=by unfold Xl;omega
 exact⟨GP hc,Q,(NT (l:=l) rfl G).gb,λ_=>⟨NT rfl G,rfl,rfl,by show(0:Nat)+Xl (jz S).fuel<9000;omega⟩,hf⟩
theorem Zz {me:Int} {S:zr} {bs:List Int} (hs:0≤S.start) (hl:bs.length≤100000):zT (kI me S bs):=qXC (yr hs) ⟨Nat.zero_le _,hl⟩
end
section
structure KV where
  thread:Int
  job:Int
  try_:Int
  sweep:Bool
  kind:Int
  err:Int
  begin_:Int
  stamp:Int
  born:Int
  ended:Int
  reads:List Cl
  cells:List Cl
  frees:List Int
  slate:List UInt8
structure Vj where
  kind:Int
  err:Int
  slate:List UInt8
  stamp:Int
abbrev KO:Type:=Int×Int
structure jJ where
  me:Int
  set:zr
  jobs:List (List qO)
  job:Int
  state:Int
  sweep:Bool
  giving:List KO
  tries:Int
  conf:Int
  now:Option jY
  born:Int
  alarm:Bool
  past:List KV
  results:List Vj
  rests:List KO
  slots:List Int
  by_:Int
  since:Int
  yielding:Bool
  pauses:Int
def xl (x:jY):Int:=if x.state≠8 then 0 else x.err
def QX (x:jY):Int:=if x.state≠8 then-1 else x.by_
def vQ (x:jY):Bool:=decide (x.state≠8)&&x.blocking
def zC (t:jJ):jJ :=
 if t.job=(t.jobs.length:Int)then{ t with born:=0,alarm:=false,state:=6,now:=none }
 else{ t with born:=0,alarm:=false,state:=1,now:=some (if t.sweep=true then kI t.me t.set (t.giving.map (·.1))else QC t.me t.set ((t.jobs[t.job.toNat]?).getD [])) }
def zn (t:jJ):jJ:=zC { t with job:=t.job+1,sweep:=false,giving:=[],tries:=0,conf:=0 }
def VV (me:Int) (s:zr) (jobs:List (List qO)):jJ :=
 zn ⟨max 0 (min me ((jz s).threads-1)),jz s,jobs.take 6,-1,0,false,[],0,0,none,0,false,[],[],[],[],0,0,false,0⟩
def yH (t:jJ):Option OpM:=if t.state=1 then t.now.bind yG else if t.state=2 then some (op0 8 t.by_ 0)else if t.state=5 then some (op0 8 t.slots.length 0)else none
def jH (t:jJ) (x:jY) (pick:Int):KV :=
 ⟨t.me,t.job,t.tries,t.sweep,if yP x=true then 2 else zx x,xl x,x.begin_,x.stamp,t.born,pick,x.v.K,Yh x,zD x,zE x⟩
def vS (conf:Int):Int:=if conf≤0 then 1 else if conf=1 then 2 else if conf=2 then 4 else 8
def xk (t:jJ) (draw:Int):jJ :=
 if draw%(vS t.conf+1)=0 then zC { t with pauses:=0,state:=3 }else{ t with pauses:=draw%(vS t.conf+1),state:=3 }
def jQ (slots:List Int) (stamp:Int):Bool:=slots.all λx=>decide (x=0∨stamp<x)
def vP (t:jJ):jJ :=
 if(t.slots.length:Int)<t.set.threads then t
 else if(t.rests.filter λr=>jQ t.slots r.2)=[]then zn { t with rests:=t.rests.filter λr=>!jQ t.slots r.2 }
 else zC { t with rests:=t.rests.filter (λr=>!jQ t.slots r.2),sweep:=true,giving:=t.rests.filter (λr=>jQ t.slots r.2),tries:=0,conf:=0 }
def vj (t:jJ):jJ:=vP (if(t.slots.length:Int)=t.me then{ t with slots:=t.slots++[0] }else t)
def QI (t:jJ):jJ:=if t.rests=[]then zn t else vj { t with state:=5,slots:=[] }
def wU (t:jJ) (fin:Int):jJ:=zn (if fin=4 then{ t with rests:=t.rests++t.giving }else t)
def yU (t:jJ) (x:jY) (draw pick:Int):jJ :=
 let u:={ t with past:=t.past++[jH t x pick],tries:=t.tries+1 }
 if zx x=5 then
  (if 0≤QX x∧QX x<t.set.threads then{ u with conf:=u.conf+1,state:=2,by_:=QX x,yielding:=false }else xk { u with conf:=u.conf+1 } draw)
 else if zx x=3 then(if u.alarm=true then zC u else{ u with state:=4 })
 else if u.sweep=true then wU u (zx x)
 else QI { u with results:=u.results++[⟨zx x,xl x,zE x,x.stamp⟩],rests:=u.rests++(zD x).map λb=>(b,x.stamp) }
def Q8 (t:jJ) (x y:jY) (draw pick:Int):jJ :=
 let u:={ t with now:=some y,born:=if y.begun=true∧x.begun=false then pick else t.born }
 if zx y=0 then u else yU u y draw pick
def z8 (t:jJ) (a:AnM) (draw pick:Int):jJ :=
 if t.state=1 then(match t.now with
  |none=>t
  |some x=>Q8 t x (zV x a) draw pick)
 else if t.state=2 then(if a.err=0∧a.word≠0∧(t.yielding=false∨a.word=t.since)then{ t with yielding:=true,since:=a.word }else xk t draw)
 else if t.state=5 then vj { t with slots:=t.slots++[if a.err≠0 then 0 else a.word] }
 else t
def zk (t:jJ):jJ:=if t.state=3 then(if t.pauses-1=0 then zC { t with pauses:=0 }else{ t with pauses:=t.pauses-1 })else t
def gw (r:List xG) (stripe ver:Int):Bool:=r.any λx=>decide (x.1=stripe∧x.2≠ver)
def zm (t:jJ) (stripe ver:Int):jJ:=match t.now with
 |none=>t
 |some x=>
  if gw x.r stripe ver=true then(if t.state=4 then zC t else if t.state=1∧vQ x=true then{ t with alarm:=true }else t)
  else t
structure QY where
  s:zr
  m:zJ
  t:List jJ
  picks:Int
  last:OpM
  did:Bool
def yA (S:zr):zJ:=⟨List.replicate S.words.toNat 0,List.replicate S.stripes.toNat lk0,S.start,List.replicate S.threads.toNat 0,0⟩
def OD (s:zr) (jobs:List (List (List qO))):QY :=
 let S:=jz { s with threads:=(jobs.take 4).length }
 ⟨S,(jg (yA S) (op0 2 5 14)).2,(List.range S.threads.toNat).map λi:Nat=>VV i S (((jobs.take 4)[i]?).getD []),0,op0 0 0 0,false⟩
def yK (ts:List jJ) (i:Nat) (stripe ver:Int):List jJ:=ts.mapIdx λk t=>if k=i then t else zm t stripe ver
def yn (m:QY) (i:Nat) (draw:Int):QY:=match m.t[i]? with
 |none=>m
 |some t=>match yH t with
  |none=>{ m with picks:=m.picks+1,last:=op0 0 0 0,did:=false,t:=m.t.set i (zk t) }
  |some o=>
   let r:=jg m.m o
   let ts:=m.t.set i (z8 t r.1 draw (m.picks+1))
   { m with picks:=m.picks+1,last:=o,did:=true,m:=r.2,t:=if o.kind=5 then yK ts i o.at_ o.lk.1 else ts }
def Qt (m:QY):Bool:=m.t.all λt=>decide (t.state=6∨t.state=4)
end
end Go.Proofs.YtepfejdhlgoekaaGreatDoor
