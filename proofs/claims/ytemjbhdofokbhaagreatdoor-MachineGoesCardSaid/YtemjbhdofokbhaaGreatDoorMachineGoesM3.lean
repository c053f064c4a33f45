/- Lemmas for 'quietus/quietuslaw28.MachineGoes': Transactions step by step: plain, as the program has them;The memory: by the program;Patience, a fetch: by the program;The memorys operations: by the ... No condition. -/
import Derived.Test.YtemjbhdofokbhaaGreatDoorMachineGoesM2
import Derived.Test.YtemjbhdofokbhaaGreatDoorMachineGoesX
import Derived.Lib.SlicesCompact
namespace Go.Proofs.YtemjbhdofokbhaaGreatDoor
open Go Go.Ae
set_option maxRecDepth 100000
section
abbrev cK:Type:=Int×Bool×Int
structure dG where
  kind:Int
  at_:Int
  cD:Int
  word:Int
  aw:cK
  lk:cK
structure cE where
  word:Int
  lk:cK
  done:Bool
  err:Int
structure jX where
  w:List Int
  l:List cK
  n:Int
  s:List Int
  aT:Int
def bK:cK:=(0,false,0)
def bz (kind at_ word:Int):dG:=⟨kind,at_,0,word,bK,bK⟩
def dM:cE:=⟨0,bK,false,0⟩
def mU (e:Int):cE:=⟨0,bK,false,e⟩
def vn (l:cK):Prop:=l.1<4611686018427387904∧(if l.2.1=true then 0≤l.2.2∧l.2.2<4 else l.2.2=0)
instance {l:cK}:Decidable (vn l):=by unfold vn;infer_instance
def qP (l:List cK) (i:Int):cK:=(l[i.toNat]?).getD bK
def Kk (m:jX) (o:dG):cE×jX :=
 if o.at_<1∨(m.w.length:Int)≤o.at_ then(mU 2,m)else if o.kind=1 then(⟨qg m.w o.at_,bK,false,0⟩,m)else(dM,{ m with w:=m.w.set o.at_.toNat o.word })
def Xi (m:jX) (o:dG):cE×jX :=
 if o.at_<0∨(m.l.length:Int)≤o.at_ then(mU 2,m)
 else if o.kind=3 then(⟨0,qP m.l o.at_,false,0⟩,m)
 else if¬vn o.lk then(mU 1,m)
 else if o.kind=5 then(dM,{ m with l:=m.l.set o.at_.toNat o.lk })
 else if qP m.l o.at_≠o.aw then(dM,m)
 else(⟨0,bK,true,0⟩,{ m with l:=m.l.set o.at_.toNat o.lk })
def JZ (m:jX) (o:dG):cE×jX :=
 if o.kind=6 then(⟨m.n,bK,false,0⟩,m)
 else if o.word≤o.cD then(mU 1,m)
 else if 4611686018427387904≤o.word then(mU 7,m)
 else if m.n≠o.cD then(dM,m)
 else(⟨0,bK,true,0⟩,{ m with n:=o.word })
def VO (m:jX) (o:dG):cE×jX :=
 if o.at_<0∨(m.s.length:Int)≤o.at_ then(mU 2,m)else if o.kind=8 then(⟨qg m.s o.at_,bK,false,0⟩,m)else(dM,{ m with s:=m.s.set o.at_.toNat o.word })
def qF (m:jX) (o:dG):cE×jX :=
 let r:=if o.kind=1∨o.kind=2 then Kk m o else if o.kind=3∨o.kind=4∨o.kind=5 then Xi m o else if o.kind=6∨o.kind=7 then JZ m o else if o.kind=8∨o.kind=9 then VO m o else(mU 1,m)
 if r.1.err=0 then(r.1,{ r.2 with aT:=r.2.aT+1 })else r
def ofM (at_ n wide:Int):Int:=if at_<0 then-1 else(at_/max 1 (min wide 16))%max 1 (min n 16)
def xJ (cs:List Cl) (n wide:Int):List Int:=((List.range 16).map λi:Nat=>(i:Int)).filter λs=>cs.any λc=>decide (ofM c.1 n wide=s)
structure Ja where
  me:Int
  af:Int
  fin:Int
  ch:Int
  err:Int
def KF (me af:Int):Ja:=⟨me,max 0 (min af 4),0,-1,0⟩
def jA (p:Ja) (l:cK):Bool×Ja:=if p.me<l.2.2 then(true,p)else(decide (0≤p.af-1),{ p with af:=p.af-1 })
def zW (p:Ja) (fin err ch:Int):Ja:={ p with fin:=fin,err:=err,ch:=ch }
def jL (p:Ja) (a:cE):Bool×Ja:=if p.fin=0∧a.err≠0 then(true,zW p 4 a.err (-1))else(decide (p.fin≠0),p)
abbrev zd:Type:=Int×Int
structure wJ where
  p:Ja
  at_:Int
  aB:Int
  ad:Int
  state:Int
  lk:cK
  word:Int
def A0 (me at_ aB af ad:Int):wJ:=⟨KF me af,at_,aB,ad,0,bK,0⟩
def kl (f:wJ):Option dG:=if f.p.fin≠0 then none else if f.state=1 then some (bz 1 f.at_ 0)else some (bz 3 f.aB 0)
def gD (f:wJ) (l:cK):wJ :=
 if l.2.1=true then(if(jA f.p l).1=true then{ f with state:=0,p:=(jA f.p l).2 }else{ f with state:=0,p:=zW (jA f.p l).2 5 0 l.2.2 })
 else if f.ad<l.1 then{ f with state:=0,p:=zW f.p 6 0 (-1) }
 else{ f with lk:=l,state:=1 }
def jP (f:wJ) (a:cE):wJ :=
 if(jL f.p a).1=true then{ f with p:=(jL f.p a).2 }
 else if f.state=1 then{ f with word:=a.word,state:=2 }
 else if f.state=2∧a.lk=f.lk then{ f with p:=zW f.p 2 0 (-1) }
 else gD f a.lk
def xn (f:wJ):Int:=if f.p.fin≠2 then 0 else f.word
def yZ (f:wJ):zd:=if f.p.fin≠2 then(0,0)else(f.aB,f.lk.1)
structure wO where
  p:Ja
  seen:List zd
  aR:Bool
  at_:Int
  ad:Int
def VR (me af:Int) (seen:List zd):wO:=⟨KF me af,seen,false,0,0⟩
def jZ (l:List zd) (i:Int):zd:=(l[i.toNat]?).getD (0,0)
def ko (x:wO):Option dG:=if x.p.fin≠0 then none else if x.aR=false then some (bz 6 0 0)else some (bz 3 (jZ x.seen x.at_).1 0)
def kB (x:wO):wO:=if x.at_=(x.seen.length:Int)then{ x with p:=zW x.p 2 0 (-1) }else x
def zw (x:wO) (a:cE):wO :=
 if(jL x.p a).1=true then{ x with p:=(jL x.p a).2 }
 else if x.aR=false then kB { x with aR:=true,ad:=a.word }
 else if a.lk.2.1=true then(if(jA x.p a.lk).1=true then{ x with p:=(jA x.p a.lk).2 }else{ x with p:=zW (jA x.p a.lk).2 5 0 a.lk.2.2 })
 else if a.lk.1≠(jZ x.seen x.at_).2 then{ x with p:=zW x.p 5 0 (-1) }
 else kB { x with at_:=x.at_+1 }
def yt (x:wO):Int:=if x.p.fin≠2 then 0 else x.ad
structure q9 where
  p:Ja
  me:Int
  ad:Int
  seen:List zd
  cells:List Cl
  s:List Int
  aw:List cK
  state:Int
  at_:Int
  lk:cK
  now:Int
  writing:Bool
  bf:Int
  iP:Int
  fX:Int
def ju (c:q9):q9:={ c with state:=if c.aw.length=c.s.length then 2 else 0 }
def Jv (me af ad:Int) (seen:List zd) (cells:List Cl) (n wide:Int):q9 :=
 ju ⟨KF me af,me,ad,seen,cells,xJ cells n wide,[],0,0,bK,0,false,0,0,0⟩
def yF (l:List Cl) (i:Int):Cl:=(l[i.toNat]?).getD (0,0)
def xX (c:q9):Option dG :=
 if c.p.fin≠0 then none
 else if c.state=0 then some (bz 3 (qg c.s c.aw.length) 0)
 else if c.state=1 then some ⟨4,qg c.s c.aw.length,0,0,c.lk,(c.lk.1,true,c.me)⟩
 else if c.state=2 then some (bz 6 0 0)
 else if c.state=3 then some ⟨7,0,c.now,c.now+1,bK,bK⟩
 else if c.state=4 then some (bz 3 (jZ c.seen c.at_).1 0)
 else if c.state=5 then some (bz 2 (yF c.cells c.at_).1 (yF c.cells c.at_).2)
 else if c.state=6 then some ⟨5,qg c.s c.at_,0,0,bK,(c.now+1,false,0)⟩
 else some ⟨5,qg c.s c.at_,0,0,bK,qP c.aw c.at_⟩
def zc (c:q9):q9:=if c.at_=(c.aw.length:Int)then{ c with p:=zW c.p c.bf c.fX c.iP }else c
def jN (c:q9) (fin err ch:Int):q9:=zc { c with bf:=fin,fX:=err,iP:=ch,at_:=0,state:=7 }
def zx (c:q9) (l:cK):q9:=if(jA c.p l).1=true then{ c with p:=(jA c.p l).2 }else jN { c with p:=(jA c.p l).2 } 5 0 l.2.2
def zg (c:q9):q9:=if c.at_=(c.s.length:Int)then{ c with p:=zW c.p 2 0 (-1) }else c
def jo (c:q9):q9:=if c.at_=(c.cells.length:Int)then zg { c with at_:=0,state:=6 }else c
def zj (c:q9):q9:=jo { c with writing:=true,at_:=0,state:=5 }
def QS:List Int→List cK→Int→Option Int
 |s::r,w::q,x=>if s=x then some w.1 else QS r q x
 |_,_,_=>none
def ja (c:q9):Nat→q9
 | 0=>zj c
 |n+1=>
  if c.at_<(c.seen.length:Int)then
   (match QS c.s c.aw (jZ c.seen c.at_).1 with
   |none=>c
   |some v=>if v≠(jZ c.seen c.at_).2 then jN c 5 0 (-1)else ja { c with at_:=c.at_+1 } n)
  else zj c
def xF (c:q9):q9:=ja { c with state:=4 } (c.seen.length+1)
def yH (c:q9) (a:cE):q9 :=
 if c.state=0∧a.lk.2.1=true then zx c a.lk
 else if c.state=0 then{ c with lk:=a.lk,state:=1 }
 else if a.done=true then ju { c with aw:=c.aw++[c.lk] }
 else{ c with state:=0 }
def xe (c:q9) (a:cE):q9 :=
 if c.state=2∧4611686018427387903≤a.word then jN c 4 7 (-1)
 else if c.state=2 then{ c with now:=a.word,state:=3 }
 else if a.done=false then{ c with state:=2 }
 else if c.now=c.ad then zj c
 else xF c
def xI (c:q9) (l:cK):q9 :=
 if l.2.1=true then zx c l
 else if l.1≠(jZ c.seen c.at_).2 then jN c 5 0 (-1)
 else xF { c with at_:=c.at_+1 }
def qn (c:q9) (a:cE):q9 :=
 if(jL c.p a).1=true then{ c with p:=(jL c.p a).2 }
 else if c.state=0∨c.state=1 then yH c a
 else if c.state=2∨c.state=3 then xe c a
 else if c.state=4 then xI c a.lk
 else if c.state=5 then jo { c with at_:=c.at_+1 }
 else if c.state=6 then zg { c with at_:=c.at_+1 }
 else zc { c with at_:=c.at_+1 }
def JU (c:q9):Int:=if c.writing=false then 0 else c.now+1
def kT (c:q9):Bool:=c.writing&&decide (c.p.fin=0)
structure jz where
  words:Int
  ae:Int
  wide:Int
  ag:Int
  start:Int
  af:Int
  writes:Int
  fuel:Int
def Qv (n lo hi:Int):Int:=max lo (min n hi)
def jO (s:jz):jz:=⟨Qv s.words 32 256,Qv s.ae 1 16,Qv s.wide 1 16,Qv s.ag 1 4,min s.start 4611686018427387903,Qv s.af 0 4,Qv s.writes 0 96,Qv s.fuel 0 400⟩
structure Cc where
  l:List qR
  s:IM
  fin:Int
  err:Int
  left:Nat
inductive GT where
  |prog (r:Cc)
  |aE (blocks:List Int) (k:Nat)
structure qf where
  me:Int
  set:jz
  aN:GT
  v:VM
  r:List zd
  state:Int
  f:wJ
  e:wO
  c:Option q9
  begun:Bool
  bB:Int
  ad:Int
  fin:Int
  ch:Int
  err:Int
  dB:Bool
def NZ (me:Int) (S:jz) (aN:GT):qf:=⟨me,S,aN,uP S.words S.writes,[],0,A0 0 0 0 0 0,VR 0 0 [],none,false,0,0,0,-1,0,false⟩
def Qm (me:Int) (S:jz) (l:List qR):qf:=NZ me (jO S) (.prog ⟨l,VL,0,0,YP (jO S).fuel⟩)
def QZ (me:Int) (S:jz) (bs:List Int):qf:=NZ me (jO S) (.aE bs 0)
def jd (x:qf):Option dG :=
 if x.state=0 then some (bz 9 x.me 1)
 else if x.state=1 then some (bz 6 0 0)
 else if x.state=2 then some (bz 9 x.me (xy .u64 (x.ad+1)))
 else if x.state=7 then some (bz 9 x.me 0)
 else if x.state=8 then none
 else if x.state=3 then kl x.f
 else if x.state=6 then x.c.bind xX
 else ko x.e
def zT (x:qf) (fin err ch:Int):qf:={ x with fin:=fin,err:=err,ch:=ch,state:=7 }
def QF (x:qf) (at_:Int):qf:={ x with state:=3,f:=A0 x.me at_ (ofM at_ x.set.ae x.set.wide) x.set.af x.ad }
def wX (x:qf) (state:Int):qf:={ x with state:=state,e:=VR x.me x.set.af x.r }
def xS:VM→List Int→Nat→(Nat×Int)×VM
 |V,[],k=>((k,0),V)
 |V,b::r,k=>if(yC V b).1=0 then xS (yC V b).2 r (k+1)else((k,(yC V b).1),(yC V b).2)
def xK (x:qf):(Int×Int)×qf:=match x.aN with
 | .aE bs k=>(if(xS x.v (bs.drop k) k).1.2=11 then(1,0)else if(xS x.v (bs.drop k) k).1.2=0 then(2,0)else(4,(xS x.v (bs.drop k) k).1.2),{ x with aN:=.aE bs (xS x.v (bs.drop k) k).1.1,v:=(xS x.v (bs.drop k) k).2 })
 | .prog q=>(((zD q.l (qU q.l) q.left q.s x.v).kind,(zD q.l (qU q.l) q.left q.s x.v).err),{ x with
   aN:=.prog ⟨q.l,(zD q.l (qU q.l) q.left q.s x.v).s,if(zD q.l (qU q.l) q.left q.s x.v).kind=1 then 0 else(zD q.l (qU q.l) q.left q.s x.v).kind,(zD q.l (qU q.l) q.left q.s x.v).err,(zD q.l (qU q.l) q.left q.s x.v).left⟩,
   v:=(zD q.l (qU q.l) q.left q.s x.v).v })
def yX (x:qf) (k e:Int):qf :=
 if k=1 then QF x x.v.aC
 else if k=3 then wX { x with dB:=true } 5
 else if k=4 then zT x 4 e (-1)
 else if jk x.v.lv=[]then zT x 2 0 (-1)
 else{ x with state:=6,c:=some (Jv x.me x.set.af x.ad x.r (jk x.v.lv) x.set.ae x.set.wide) }
def zn (x:qf):qf:=yX (xK x).2 (xK x).1.1 (xK x).1.2
def gT (r:List zd) (x:zd):Int×List zd :=
 if x.1<0∨16≤x.1∨4611686018427387904≤x.2 then(1,r)
 else match r.find? λy=>decide (y.1=x.1)with
  |some y=>if y.2≠x.2 then(14,r)else(0,r)
  |none=>if r.length=16 then(5,r)else(0,r++[x])
def jt (x:qf):qf :=
 if x.f.p.fin=6 then wX x 4
 else if(gT x.r (yZ x.f)).1=0 then zn { x with r:=(gT x.r (yZ x.f)).2,v:=(xz x.v x.v.aC (xn x.f)).2 }
 else if(gT x.r (yZ x.f)).1=14 then zT x 5 0 (-1)
 else zT x 4 (gT x.r (yZ x.f)).1 (-1)
def zN (x:qf):Int×Int:=if x.state=3 then(x.f.p.fin,x.f.p.ch)else if x.state=6 then(match x.c with |some c=>(c.p.fin,c.p.ch) |none=>(0,0))else(x.e.p.fin,x.e.p.ch)
def jr (x:qf):qf :=
 if x.state=3 then jt x
 else if x.state=4 then QF { x with ad:=yt x.e } x.v.aC
 else if x.state=5 then zT { x with ad:=yt x.e } 3 0 (-1)
 else match x.c with |some c=>zT x c.p.fin c.p.err (-1) |none=>x
def ql (x:qf):Bool:=decide (x.state≠8)&&(match x.c with |some c=>kT c||decide (c.p.fin=2) |none=>false)
def jV (x:qf):qf:=if ql x=true then(match x.c with |some c=>{ x with ad:=JU c } |none=>x)else x
def q8 (x:qf):qf:=jV (if(zN x).1=0 then x else if(zN x).1=5 then zT x 5 0 (zN x).2 else jr x)
def qL (x:qf) (a:cE):qf :=
 if x.state=8 then x
 else if a.err≠0 then{ zT x 4 a.err (-1)with state:=8 }
 else if x.state=0 then{ x with state:=1 }
 else if x.state=1 then{ x with begun:=true,bB:=a.word,ad:=a.word,state:=2 }
 else if x.state=2 then zn x
 else if x.state=7 then{ x with state:=8 }
 else if x.state=3 then q8 { x with f:=jP x.f a }
 else if x.state=6 then q8 { x with c:=x.c.map λc=>qn c a }
 else q8 { x with e:=zw x.e a }
def jh (x:qf):Int:=if x.state≠8 then 0 else x.fin
def yJ (x:qf):Bool:=decide (jh x=2)||ql x
def w9 (x:qf):List Cl:=if yJ x=true then jk x.v.lv else[]
def zr (x:qf):List Int:=if yJ x=true then(match x.aN with | .aE bs _=>bs | .prog _=>wN x.v.lv)else[]
def xq (x:qf):List UInt8:=if yJ x=true then(match x.aN with | .aE _ _=>[] | .prog q=>uS q.s.out)else[]
end
section
variable {g h:AH} {L R:List SP}
def zh (l:cK):List AV:=[.int .u64 l.1,.bool l.2.1,.int .i64 l.2.2]
def vK (o:dG):List AV:=[.int .i64 o.kind,.int .i64 o.at_,.int .u64 o.cD,.int .u64 o.word,.int .u64 o.aw.1,.bool o.aw.2.1,.int .i64 o.aw.2.2,.int .u64 o.lk.1,.bool o.lk.2.1,.int .i64 o.lk.2.2]
def xi (a:cE):List AV:=[.int .u64 a.word,.int .u64 a.lk.1,.bool a.lk.2.1,.int .i64 a.lk.2.2,.bool a.done,.int .i64 a.err]
theorem jJ3 {l:List cK} {k:Nat} (hk:k<l.length):l[k]? =some (qP l (k:Int)):=by simp_all[qP,Int.toNat_natCast]
theorem Z7 {l:List cK} {k:Nat} (hk:k<l.length):((l.flatMap zh).drop (k*3)).take 3=zh (qP l (k:Int)):=vP (enc:=zh) (λ_=>rfl) (jJ3 hk)
section
variable {n b m:Nat} {v:AV} {a:Int} {e:TypeId} {xs:List AV} {R2:List SP}
theorem J4 {w o:Int}:vn (w,true,o)↔w<4611686018427387904∧0≤o∧o<4:=by rfl
theorem Yh {w o:Int}:vn (w,false,o)↔w<4611686018427387904∧o=0:=by rfl
theorem jJ2 {o:Int} (hn:1≤n):aH n 157 [.int .i64 o] h λr h'=>r=.bool (decide (0≤o∧o<4))∧h'=h:=by
 refine aG rfl omQ λk hk=>?_;unfold S157;try simp only[iZ]
 refine vW (λc2=>?_) (λc2=>?_)
 ·refine qX<|qb ?_;(try dsimp only)
  refine xp (λc3=>?_) (λc3=>?_)
  ·refine qB<|qY ⟨by grind,rfl⟩
  ·refine qB<|qY ⟨by grind,rfl⟩
 ·refine qX<|qS<|qH ?_
  exact qY ⟨by grind,rfl⟩
theorem jVb (hn:2≤n) {l:cK} (H:HS g h R):aH n 133 [.agg (zh l)] h λr h'=>r=.bool (decide (vn l))∧HS g h' R:=by
 refine aG rfl omQ λk hk=>?_;unfold S133;try simp only[iZ]
 obtain⟨w,d,o⟩:=l;refine qM H rfl λb h1 H1=>?_;have H1:HS g h1 (qk b [.int .u64 w,.bool d,.int .i64 o]::R):=H1;refine qQ (qK ‹_› .here rfl ?_);cases d with
 |true=>
  refine qZ (qQ (qK ‹_› .here rfl ?_));refine xp (λc1=>?_) (λc1=>?_)
  ·refine qX<|qb<|qQ (qK ‹_› .here rfl ?_)
   refine qW (jJ2 omQ) ?_;rintro _ _ ⟨rfl,rfl⟩;refine qB (qY ⟨?_,H1.drop⟩);simp_all[J4]
  ·refine qX<|qS<|qH ?_
   exact qY ⟨by simp_all[iV,J4],H1.drop⟩
 |false=>
  refine qJ (qQ (qK ‹_› .here rfl ?_));refine xp (λc1=>?_) (λc1=>?_)
  ·refine qX<|qb<|qQ (qK ‹_› .here rfl ?_)
   refine wE (λc2=>?_) (λc2=>?_)
   ·refine qB<|qY ⟨by rw[iG (Yh.2 omQ)],H1.drop⟩
   ·refine qB<|qY ⟨by simp_all[iV,Yh],H1.drop⟩
  ·refine qX<|qS<|qH ?_
   exact qY ⟨by simp_all[iV,Yh],H1.drop⟩
theorem qvb (hn:1≤n) (H:HS g h L) (s:bp L (qk b [v]) R) (s2:bp L (aa e 1 m v xs) R2) :
  aH n 109 [.ptr b 0,.int .i64 a] h λr h'=>r=.bool (decide (1≤a∧a<m))∧h'=h:=by
 refine bw rfl omQ λk hk=>?_;unfold S109;try simp only[iZ]
 refine vW (λh1=>?_) (λh1=>?_)
 ·refine qX<|qb<|qG (qQ ?_)
  refine qK H s rfl<|qu H s2<|xp (λh2=>?_) (λh2=>?_)
  ·refine qB<|qY ⟨by grind,rfl⟩
  ·refine qB<|qY ⟨by grind,rfl⟩
 ·refine qX<|qS<|qH ?_
  exact qY ⟨by grind,rfl⟩
theorem qgi (hn:1≤n) (H:HS g h L) (s:bp L (qk b [v]) R) (s2:bp L (aa e 1 m v xs) R2) :
  aH n 112 [.ptr b 0,.int .i64 a] h λr h'=>r=.bool (decide (0≤a∧a<m))∧h'=h:=by
 refine bw rfl omQ λk hk=>?_;unfold S112;try simp only[iZ]
 refine vW (λh1=>?_) (λh1=>?_)
 ·refine qX<|qb<|qG (qQ ?_)
  refine qK H s rfl<|qu H s2<|xp (λh2=>?_) (λh2=>?_)
  ·refine qB<|qY ⟨by grind,rfl⟩
  ·refine qB<|qY ⟨by grind,rfl⟩
 ·refine qX<|qS<|qH ?_
  exact qY ⟨by grind,rfl⟩
theorem qwr (hn:1≤n) {wd:AV} (H:HS g h L) (s:bp L (qk b [v,wd]) R) (s2:bp L (aa e 3 m v xs) R2) :
  aH n 110 [.ptr b 0,.int .i64 a] h λr h'=>r=.bool (decide (0≤a∧a<m))∧h'=h:=by
 refine bw rfl omQ λk hk=>?_;unfold S110;try simp only[iZ]
 refine vW (λh1=>?_) (λh1=>?_)
 ·refine qX<|qb<|qG (qQ ?_)
  refine qK H s rfl<|qu H s2<|xp (λh2=>?_) (λh2=>?_)
  ·refine qB<|qY ⟨by grind,rfl⟩
  ·refine qB<|qY ⟨by grind,rfl⟩
 ·refine qX<|qS<|qH ?_
  exact qY ⟨by grind,rfl⟩
theorem qg7 {ws:List Int} (hn:2≤n) (H:HS g h L) (s:bp L (qk b [v]) R) (s2:bp L (aa e 1 ws.length v (ws.map (.int .u64))) R2) :
  aH n 76 [.ptr b 0,.int .i64 a] h λr h'=>r=.cn [.int .u64 (if 1≤a∧a<ws.length then qg ws a else 0),.int .i64 (if 1≤a∧a<ws.length then 0 else 2)]∧h'=h:=by
 refine bw rfl omQ λk hk=>?_;unfold S76;try simp only[iZ]
 refine qW (qvb omQ H s s2) ?_;rintro _ _ ⟨rfl,rfl⟩;by_cases hc:1≤a∧a<ws.length
 ·rw[iG hc,iJ hc,iJ hc];obtain⟨k,rfl⟩:∃k:Nat,a=k:=⟨a.toNat,by omega⟩;refine jR (qJ (qG (qQ (qK H s rfl ?_))));refine zY (H.sl s2) (by rw[List.getElem?_map,QX omQ];rfl)<|qY ⟨rfl,rfl⟩
 ·rw[iV hc,iQ hc,iQ hc];refine je (qZ ?_);exact qY ⟨rfl,rfl⟩
theorem qw8 {ws:List Int} (hn:2≤n) (H:HS g h L) (s:bp L (qk b [v]) R) (s2:bp L (aa e 1 ws.length v (ws.map (.int .u64))) R2) :
  aH n 82 [.ptr b 0,.int .i64 a] h λr h'=>r=.cn [.int .u64 (if 0≤a∧a<ws.length then qg ws a else 0),.int .i64 (if 0≤a∧a<ws.length then 0 else 2)]∧h'=h:=by
 refine bw rfl omQ λk hk=>?_;unfold S82;try simp only[iZ]
 refine qW (qgi omQ H s s2) ?_;rintro _ _ ⟨rfl,rfl⟩;by_cases hc:0≤a∧a<ws.length
 ·rw[iG hc,iJ hc,iJ hc];obtain⟨k,rfl⟩:∃k:Nat,a=k:=⟨a.toNat,by omega⟩;refine jR (qJ (qG (qQ (qK H s rfl ?_))));refine zY (H.sl s2) (by rw[List.getElem?_map,QX omQ];rfl)<|qY ⟨rfl,rfl⟩
 ·rw[iV hc,iQ hc,iQ hc];refine je (qZ ?_);exact qY ⟨rfl,rfl⟩
theorem qqt {ws:List Int} {w:Int} (hn:2≤n) (H:HS g h (qk b [v]::aa e 1 ws.length v (ws.map (.int .u64))::R)) :
  aH n 77 [.ptr b 0,.int .i64 a,.int .u64 w] h λr h'=>r=.int .i64 (if 1≤a∧a<ws.length then 0 else 2)∧
   HS g h' (qk b [v]::aa e 1 (if 1≤a∧a<ws.length then ws.set a.toNat w else ws).length v ((if 1≤a∧a<ws.length then ws.set a.toNat w else ws).map (.int .u64))::R):=by
 refine cY rfl omQ λk hk=>?_;unfold S77;try simp only[iZ]
 refine qW (qvb omQ H .here e_1) ?_;rintro _ _ ⟨rfl,rfl⟩;by_cases hc:1≤a∧a<ws.length
 ·rw[iG hc];simp only[iJ hc];obtain⟨k,rfl⟩:∃k:Nat,a=k:=⟨a.toNat,by omega⟩;refine jR (qJ (qG (qQ (qK ‹_› .here rfl ?_))));refine G5 (H.aM e_1) omQ ⟨rfl,rfl⟩ λh2 H2=>?_;rw[← List.map_set]at H2;exact qY ⟨rfl,by rw[List.length_set];exact H2.pk [1,0] 0⟩
 ·rw[iV hc];simp only[iQ hc];refine je (qZ ?_);exact qY ⟨rfl,H⟩
theorem qqH {ws:List Int} {w:Int} (hn:2≤n) (H:HS g h (qk b [v]::aa e 1 ws.length v (ws.map (.int .u64))::R)) :
  aH n 83 [.ptr b 0,.int .i64 a,.int .u64 w] h λr h'=>r=.int .i64 (if 0≤a∧a<ws.length then 0 else 2)∧
   HS g h' (qk b [v]::aa e 1 (if 0≤a∧a<ws.length then ws.set a.toNat w else ws).length v ((if 0≤a∧a<ws.length then ws.set a.toNat w else ws).map (.int .u64))::R):=by
 refine cY rfl omQ λk hk=>?_;unfold S83;try simp only[iZ]
 refine qW (qgi omQ H .here e_1) ?_;rintro _ _ ⟨rfl,rfl⟩;by_cases hc:0≤a∧a<ws.length
 ·rw[iG hc];simp only[iJ hc];obtain⟨k,rfl⟩:∃k:Nat,a=k:=⟨a.toNat,by omega⟩;refine jR (qJ (qG (qQ (qK ‹_› .here rfl ?_))));refine G5 (H.aM e_1) omQ ⟨rfl,rfl⟩ λh2 H2=>?_;rw[← List.map_set]at H2;exact qY ⟨rfl,by rw[List.length_set];exact H2.pk [1,0] 0⟩
 ·rw[iV hc];simp only[iQ hc];refine je (qZ ?_);exact qY ⟨rfl,H⟩
variable {ls:List cK} {wd:AV}
theorem qwD (hn:2≤n) (H:HS g h L) (s:bp L (qk b [v,wd]) R) (s2:bp L (aa e 3 ls.length v (ls.flatMap zh)) R2) :
  aH n 78 [.ptr b 0,.int .i64 a] h λr h'=>r=.cn [.agg (zh (if 0≤a∧a<ls.length then qP ls a else bK)),.int .i64 (if 0≤a∧a<ls.length then 0 else 2)]∧HS g h' L:=by
 refine bw rfl omQ λk hk=>?_;unfold S78;try simp only[iZ]
 refine qM H rfl λb0 h1 H1=>?_;refine qW (qwr omQ H1 (.there s) (.there s2)) ?_;rintro _ _ ⟨rfl,rfl⟩;by_cases hc:0≤a∧a<ls.length
 ·rw[iG hc,iJ hc,iJ hc];obtain⟨k,rfl⟩:∃k:Nat,a=k:=⟨a.toNat,by omega⟩;refine jR (qJ (qG (qQ (qK H1 (.there s) rfl ?_))));refine xQ (H1.sl (.there s2)) omQ omQ (Z7 omQ)<|qe H1 .here rfl (by simp) rfl λh2 H2=>?_;refine qD H2 .here rfl omQ rfl<|qY ⟨rfl,H2.drop⟩
 ·rw[iV hc,iQ hc,iQ hc];refine je (qZ (qI rfl ?_));refine qe H1 .here rfl (by simp) rfl λh2 H2=>?_;refine qD H2 .here rfl omQ rfl<|qY ⟨rfl,H2.drop⟩
def JX (n:Nat) (a:Int) (l:cK):Int:=if 0≤a∧a<n then(if vn l then 0 else 1)else 2
theorem qG8 {l:cK} (hn:3≤n) (H:HS g h L) (s:bp L (qk b [v,wd]) R) (s2:bp L (aa e 3 m v xs) R2) :
  aH n 111 [.ptr b 0,.int .i64 a,.agg (zh l)] h λr h'=>r=.int .i64 (JX m a l)∧HS g h' L:=by
 refine cY rfl omQ λk hk=>?_;unfold S111;try simp only[iZ]
 unfold JX;refine qM H rfl λb0 h1 H1=>?_;refine qW (qwr omQ H1 (.there s) (.there s2)) ?_;rintro _ _ ⟨rfl,rfl⟩;by_cases hc:0≤a∧a<m
 ·rw[iG hc,iJ hc];refine jR (qJ (qD H1 .here rfl omQ rfl ?_));refine qW (jVb omQ H1) ?_;rintro _ h2 ⟨rfl,H2⟩;by_cases hl:vn l
  ·rw[iG hl,iJ hl];refine jR (qJ ?_);exact qY ⟨rfl,H2.drop⟩
  ·rw[iV hl,iQ hl];refine je (qZ ?_);exact qY ⟨rfl,H2.drop⟩
 ·rw[iV hc,iQ hc];refine je (qZ ?_);exact qY ⟨rfl,H1.drop⟩
theorem jXi (x y:cK):yK [.nt .int 0,.nt .bool 1,.nt .int 2] (zh x) (zh y)=some (decide (x=y)):=by obtain⟨a,b,c⟩:=x;obtain⟨a',b',c'⟩:=y;show(bif nr a a' then(bif b==b' then(bif nr c c' then some true else some false)else some false)else some false)=_;rw[GN,GN];by_cases h1:a=a'<;>by_cases h3:c=c'<;>cases b<;>cases b'<;>simp[h1,h3]
theorem jZ8 {aw l:cK} (hn:4≤n) (H:HS g h (qk b [v,wd]::aa e 3 ls.length v (ls.flatMap zh)::R)) :
  aH n 79 [.ptr b 0,.int .i64 a,.agg (zh aw),.agg (zh l)] h λr h'=>r=.cn [.bool (decide (JX ls.length a l=0∧qP ls a=aw)),.int .i64 (JX ls.length a l)]∧
   HS g h' (qk b [v,wd]::aa e 3 (if JX ls.length a l=0∧qP ls a=aw then ls.set a.toNat l else ls).length v ((if JX ls.length a l=0∧qP ls a=aw then ls.set a.toNat l else ls).flatMap zh)::R):=by
 (refine qA rfl omQ λk hk=>?_;show wp (S79 (callT tab qj k) _ _ _ _ _) _;unfold S79;try simp only[iI,iZ])
 refine qM H rfl λb0 h1 H1=>?_;refine qM H1 rfl λb1 h2 H2=>?_;refine qD H2 .here rfl omQ rfl<|qW (qG8 omQ H2 e_2 e_3) ?_;rintro _ h3 ⟨rfl,H3⟩;by_cases c0:JX ls.length a l=0
 rotate_left
 ·refine jg c0<|qZ ?_;rw[iV (λh=>c0 h.1)];simp only[iQ (show¬(JX ls.length a l=0∧qP ls a=aw)from λh=>c0 h.1)];exact qY ⟨rfl,H3.drop.drop⟩
 have hc:0≤a∧a<ls.length:=by
  grind[JX]
 obtain⟨k,rfl⟩:∃k:Nat,a=k:=⟨a.toNat,by omega⟩;refine jB c0<|qJ (qG (qQ (qK ‹_› e_2 rfl ?_)));refine xQ (H3.sl e_3) omQ omQ (Z7 omQ)<|qD H3 e_1 rfl omQ rfl<|qYM (jXi _ _) (λc1=>?_) (λc1=>?_)
 ·rw[iG ⟨c0,c1⟩];simp only[iJ (show JX ls.length k l=0∧qP ls k=aw from⟨c0,c1⟩)];rw[c0];refine qJ (qG (qQ (qK ‹_› e_2 rfl ?_)));refine qD H3 (b:=b1) (off:=0) .here rfl omQ (l:=zh l) rfl<|RG (l:=zh l) (i:=k) (H3.aM e_3) omQ rfl rfl λh4 H4=>?_;rw[Z8 (sz:=3) (enc:=zh) (l:=ls) (i:=k) (a:=l) (λ_=>rfl) omQ]at H4;exact qY ⟨rfl,by rw[List.length_set];exact H4.pk [3,0] 2⟩
 ·rw[iV (λh=>c1 h.2)];simp only[iQ (show¬(JX ls.length k l=0∧qP ls k=aw)from λh=>c1 h.2)];rw[c0];refine qZ<|qY ⟨rfl,H3.drop.drop⟩
theorem qzh {l:cK} (hn:4≤n) (H:HS g h (qk b [v,wd]::aa e 3 ls.length v (ls.flatMap zh)::R)) :
  aH n 80 [.ptr b 0,.int .i64 a,.agg (zh l)] h λr h'=>r=.int .i64 (JX ls.length a l)∧
   HS g h' (qk b [v,wd]::aa e 3 (if JX ls.length a l=0 then ls.set a.toNat l else ls).length v ((if JX ls.length a l=0 then ls.set a.toNat l else ls).flatMap zh)::R):=by
 refine cY rfl omQ λk hk=>?_;unfold S80;try simp only[iZ]
 refine qM H rfl λb0 h1 H1=>?_;refine qD H1 .here rfl omQ rfl<|qW (qG8 omQ H1 e_1 e_2) ?_;rintro _ h3 ⟨rfl,H3⟩;refine qX ?_
 try dsimp only
 by_cases c0:JX ls.length a l=0
 rotate_left
 ·refine qV c0<|qJ (qx ?_);simp only[iQ c0];exact qY ⟨rfl,H3.drop⟩
 have hc:0≤a∧a<ls.length:=by
  grind[JX]
 obtain⟨k,rfl⟩:∃k:Nat,a=k:=⟨a.toNat,by omega⟩;refine qz c0 ?_;simp only[iJ c0];refine qZ (qG (qQ (qK ‹_› e_1 rfl ?_)));refine qD H3 .here rfl omQ rfl<|RG (l:=zh l) (i:=k) (H3.aM e_2) omQ rfl rfl λh4 H4=>?_;rw[Z8 (sz:=3) (λ_=>rfl) omQ]at H4;refine qx<|qY ⟨rfl,by rw[List.length_set];exact H4.pk [2,0] 1⟩
end
def Cd (p hb tb cb sb:Nat) (wv lv sv:AV) (S:jz) (M:jX) (R:List SP):List SP :=
 qk p [.int .i64 S.words,.int .i64 S.ae,.int .i64 S.wide,.int .i64 S.ag,.int .u64 S.start,.ptr hb 0,.ptr tb 0,.ptr cb 0,.ptr sb 0,.int .i64 M.aT]::qk hb [wv]::aa 22 1 M.w.length wv (M.w.map (.int .u64))::
 qk tb [lv,.int .i64 S.wide]::aa 70 3 M.l.length lv (M.l.flatMap zh)::qk cb [.int .u64 M.n]::qk sb [sv]::aa 22 1 M.s.length sv (M.s.map (.int .u64))::R
def cM (p:Nat) (S:jz) (M:jX):SP:=.ex λq:(Nat×Nat×Nat×Nat)×AV×AV×AV=>.all (Cd p q.1.1 q.1.2.1 q.1.2.2.1 q.1.2.2.2 q.2.1 q.2.2.1 q.2.2.2 S M [])
section
variable {p hb tb cb sb:Nat} {wv lv sv:AV} {S:jz} {M:jX}
theorem cM.E (H:HS g h (cM p S M::R)):∃hb tb cb sb wv lv sv,HS g h (qk p [.int .i64 S.words,.int .i64 S.ae,.int .i64 S.wide,.int .i64 S.ag,.int .u64 S.start,.ptr hb 0,.ptr tb 0,.ptr cb 0,.ptr sb 0,.int .i64 M.aT]::qk hb [wv]::aa 22 1 M.w.length wv (M.w.map (.int .u64))::
  qk tb [lv,.int .i64 S.wide]::aa 70 3 M.l.length lv (M.l.flatMap zh)::qk cb [.int .u64 M.n]::qk sb [sv]::aa 22 1 M.s.length sv (M.s.map (.int .u64))::R):=by
 obtain⟨⟨⟨hb,tb,cb,sb⟩,wv,lv,sv⟩,H⟩:=H.fh;exact⟨hb,tb,cb,sb,wv,lv,sv,H.cI⟩
theorem cM.I (H:HS g h (Cd p hb tb cb sb wv lv sv S M R)):HS g h (cM p S M::R):=HS.fH ((hb,tb,cb,sb),wv,lv,sv) (HS.allI H)
end
end
section
variable {g h:AH} {L R:List SP}
def vQ (p:Ja) (xs:List AV):List AV:=.int .i64 p.me:: .int .i64 p.af:: .int .i64 p.fin:: .int .i64 p.ch:: .int .i64 p.err::xs
def ua (o:Option dG):AV:=.cn [.agg (vK (o.getD (bz 0 0 0))),.bool o.isSome]
def VD (p:Ja):Prop:=p.fin=0→0≤p.af∧p.af≤4
section
variable {n b:Nat} {p:Ja} {xs:List AV}
theorem SQ {me sp:Int} (hn:1≤n) (H:HS g h R):aH n 146 [.int .i64 me,.int .i64 sp] h λr h'=>r=.agg (vQ (KF me sp) [])∧HS g h' R:=by
 refine bw rfl omQ λk hk=>?_;unfold S146;try simp only[iZ]
 refine qM H rfl λb h1 H1=>?_;refine zi (xR (qI rfl ?_));refine qe H1 .here rfl (by simp) rfl λh2 H2=>?_;refine qD H2 .here rfl omQ rfl<|qY ⟨rfl,H2.drop⟩
theorem Y6 (hn:1≤n) (H:HS g h L) (s:bp L (qk b (vQ p xs)) R):aH n 131 [.ptr b 0] h λr h'=>r=.int .i64 p.fin∧h'=h:=by
 refine aG rfl omQ λk hk=>?_;unfold S131;try simp only
 refine qG (qQ ?_);exact qK H s rfl (qY ⟨rfl,rfl⟩)
theorem qy4 (hn:1≤n) (H:HS g h L) (s:bp L (qk b (vQ p xs)) R):aH n 183 [.ptr b 0] h λr h'=>r=.int .i64 p.err∧h'=h:=by
 refine aG rfl omQ λk hk=>?_;unfold S183;try simp only
 refine qG (qQ ?_);exact qK H s rfl (qY ⟨rfl,rfl⟩)
theorem SU (hn:1≤n) (H:HS g h L) (s:bp L (qk b (vQ p xs)) R):aH n 371 [.ptr b 0] h λr h'=>r=.int .i64 p.ch∧h'=h:=by
 refine aG rfl omQ λk hk=>?_;unfold S371;try simp only
 refine qG (qQ ?_);exact qK H s rfl (qY ⟨rfl,rfl⟩)
theorem wu {f e y:Int} (hn:1≤n) (H:HS g h (qk b (vQ p xs)::R)):aH n 373 [.ptr b 0,.int .i64 f,.int .i64 e,.int .i64 y] h λ_ h'=>HS g h' (qk b (vQ (zW p f e y) xs)::R):=by
 refine sX rfl omQ λk hk=>?_;unfold S373;try simp only
 unfold vQ at H;refine qG (qQ (qw H .here ⟨rfl,rfl⟩ aW λh1 H1=>?_));refine qG (qQ (qw H1 .here ⟨rfl,rfl⟩ aW λh2 H2=>?_));refine qG (qQ (qw H2 .here ⟨rfl,rfl⟩ aW λh3 H3=>?_));exact qY H3
theorem Um {l:cK} (hn:1≤n) (hp:0≤p.af∧p.af≤4) (H:HS g h (qk b (vQ p xs)::R)):aH n 375 [.ptr b 0,.agg (zh l)] h λr h'=>r=.bool (jA p l).1∧HS g h' (qk b (vQ (jA p l).2 xs)::R):=by
 refine bw rfl omQ λk hk=>?_;unfold S375;try simp only[iZ]
 refine qM H rfl λb0 h1 H1=>?_;have H1:HS g h1 (qk b0 (zh l)::qk b (.int .i64 p.me:: .int .i64 p.af:: .int .i64 p.fin:: .int .i64 p.ch:: .int .i64 p.err::xs)::R):=H1;unfold zh at H1;refine qQ (qK ‹_› .here rfl ?_);refine qG (qQ (qK ‹_› e_1 rfl ?_));unfold jA;by_cases c:p.me<l.2.2
 ·refine yc c ?_;rw[iJ c];refine qZ<|qY ⟨rfl,H1.drop⟩
 ·refine yj c ?_;rw[iQ c];refine qJ (qG (qQ (qK ‹_› e_1 rfl ?_)));refine zL omQ<|qG (qQ (qw H1 e_1 ⟨rfl,rfl⟩ aW λh2 H2=>?_));refine qG (qQ (qK ‹_› .here rfl ?_));refine vW (λc2=>?_) (λc2=>?_)
  ·exact qY ⟨by grind,H2.pk [0] 1⟩
  ·exact qY ⟨by grind,H2.pk [0] 1⟩
theorem Yk {a:cE} (hn:2≤n) (H:HS g h (qk b (vQ p xs)::R)):aH n 372 [.ptr b 0,.agg (xi a)] h λr h'=>r=.bool (jL p a).1∧HS g h' (qk b (vQ (jL p a).2 xs)::R):=by
 refine bw rfl omQ λk hk=>?_;unfold S372;try simp only[iZ]
 refine qM H rfl λb0 h1 H1=>?_;unfold xi at H1;refine zv [] (λs h'=>s=(.ptr b 0,())∧HS g h' (qk b (vQ (if p.fin=0∧a.err≠0 then zW p 4 a.err (-1)else p) xs)::R)) ?_ ?_
 rotate_left
 ·rintro s h2 ⟨rfl,H2⟩;unfold vQ at H2;refine qG (qQ (qK ‹_› .here rfl ?_));by_cases c:p.fin=0∧a.err≠0
  ·rw[iJ c]at H2;rw[show jL p a=(true,zW p 4 a.err (-1))from iJ c,iJ c];refine jg (by nofun)<|qx<|qY ⟨rfl,H2⟩
  ·rw[iQ c]at H2;rw[show jL p a=(decide (p.fin≠0),p)from iQ c,iQ c];refine gP (λc2=>?_) (λc2=>?_)
   ·refine qx<|qY ⟨congrArg AV.bool (iG c2).symm,H2⟩
   ·refine qx<|qY ⟨congrArg AV.bool (iV (λh=>h c2)).symm,H2⟩
 intro j hj;refine qG (qQ (qK ‹_› e_1 rfl ?_));by_cases c:p.fin=0
 ·refine qz c<|qX<|qb<|qQ (qK ‹_› .here rfl ?_)
  by_cases c2:a.err=0
  ·refine jB c2<|qB (qJ ?_);exact hj _ _ ⟨rfl,by rw[iQ (λh=>h.2 c2)];exact H1.drop⟩
  ·refine jg c2<|qB (qZ (qQ (qK ‹_› .here rfl ?_)));refine qW (wu omQ (H1.aM e_1)) λ_ h2 H2=>?_;exact hj _ _ ⟨rfl,by rw[iJ ⟨c,c2⟩];exact H2.pk [0] 1⟩
 ·refine qV c<|qX<|qS<|qH (qJ ?_)
  exact hj _ _ ⟨rfl,by rw[iQ (λh=>c h.1)];exact H1.drop⟩
end
def kz (f:wJ):List AV:=vQ f.p [.int .i64 f.at_,.int .i64 f.aB,.int .u64 f.ad,.int .i64 f.state,.int .u64 f.lk.1,.bool f.lk.2.1,.int .i64 f.lk.2.2,.int .u64 f.word]
section
variable {n b:Nat} {f:wJ}
theorem jJe {me at_ st sp t:Int} (hn:2≤n) (H:HS g h R):aH n 142 [.int .i64 me,.int .i64 at_,.int .i64 st,.int .i64 sp,.int .u64 t] h λr h'=>∃b,r=.ptr b 0∧HS g h' (qk b (kz (A0 me at_ st sp t))::R):=by
 refine RJ rfl omQ λk hk=>?_;unfold S142;try simp only[iZ]
 refine qW (SQ omQ H) ?_;rintro _ h1 ⟨rfl,H1⟩;unfold vQ;refine qI rfl<|qM H1 rfl λb h2 H2=>qY ⟨b,rfl,H2⟩
theorem qxf (hn:2≤n) (H:HS g h (qk b (kz f)::R)):aH n 369 [.ptr b 0] h λr h'=>r=ua (kl f)∧HS g h' (qk b (kz f)::R):=by
 refine aG rfl omQ λk hk=>?_;unfold S369;try simp only[iZ]
 refine qM H rfl λb0 h1 H1=>?_;refine qG (qQ (qW (Y6 omQ H1 e_1) ?_));rintro _ _ ⟨rfl,rfl⟩;unfold kl;have H2:=H1;unfold kz vQ at H2;by_cases c:f.p.fin=0
 ·refine jB c ?_;rw[iQ (λh=>h c)];refine qJ (qG (qQ (qK ‹_› e_1 rfl ?_)));by_cases c2:f.state=1
  ·refine qz c2 ?_;rw[iJ c2];refine qZ (qG (qQ (qK ‹_› e_1 rfl ?_)));refine qI rfl<|qe H1 .here rfl (by simp) rfl λh3 H3=>?_;refine qD H3 .here rfl omQ rfl<|qY ⟨rfl,H3.drop⟩
  ·refine qV c2 ?_;rw[iQ c2];refine qJ (qG (qQ (qK ‹_› e_1 rfl ?_)));refine qI rfl<|qe H1 .here rfl (by simp) rfl λh3 H3=>?_;refine qD H3 .here rfl omQ rfl<|qY ⟨rfl,H3.drop⟩
 ·refine jg c ?_;rw[iJ c];refine qZ (qI rfl ?_);refine qe H1 .here rfl (by simp) rfl λh3 H3=>?_;refine qD H3 .here rfl omQ rfl<|qY ⟨rfl,H3.drop⟩
theorem ZJ {l:cK} (hn:2≤n) (hp:0≤f.p.af∧f.p.af≤4) (H:HS g h (qk b (kz f)::R)):aH n 374 [.ptr b 0,.agg (zh l)] h λ_ h'=>HS g h' (qk b (kz (gD f l))::R):=by
 refine bw rfl omQ λk hk=>?_;unfold S374;try simp only[iZ]
 refine qM H rfl λb0 h1 H1=>?_;unfold kz vQ zh at H1;refine qG (qQ (qw H1 e_1 ⟨rfl,rfl⟩ aW λh2 H2=>?_));have H2:HS g h2 (qk b (kz { f with state:=0 })::qk b0 (zh l)::R):=H2;have H3:=H2;unfold kz vQ zh at H3;refine qX<|qQ (qK ‹_› e_1 rfl ?_)
 unfold gD;obtain⟨w,d,o⟩:=l;cases d with
 |true=>
  rw[iJ rfl];refine qZ (qG (qQ (qD H2 e_1 rfl omQ rfl ?_)));refine qW (Um omQ hp H2) ?_;rintro _ h4 ⟨rfl,H4⟩;cases hw:(jA f.p (w,true,o)).1 with
  |true=>rw[iJ rfl];refine jR (qJ (qx ?_));exact qY (H4.pk [0] 1)
  |false=>rw[iQ aW];have H5:=H4;unfold zh at H5;refine je (qZ (qG (qQ (qQ (qK ‹_› e_1 rfl ?_)))));refine qW (wu omQ H4) λ_ h5 H5=>?_;refine qx<|qY (H5.pk [0] 1)
 |false=>
  rw[iQ aW];refine qJ (qQ (qK ‹_› e_1 rfl ?_));refine qG (qQ (qK ‹_› .here rfl ?_));by_cases c:f.ad<w
  ·refine yc c ?_;rw[iJ c];refine qZ (qG (qQ (qW (wu omQ H2) λ_ h5 H5=>?_)));refine qx<|qY (H5.pk [0] 1)
  ·refine yj c ?_;rw[iQ c];refine qJ (qD H3 e_1 rfl omQ rfl ?_);refine qG (qQ (qe H3 .here rfl (by simp) rfl λh5 H5=>?_));refine qG (qQ (qw H5 .here ⟨rfl,rfl⟩ (by simp[Jz]) λh6 H6=>?_));refine qx<|qY (H6.pk [0] 1)
theorem qkm {a:cE} (hn:3≤n) (hp:VD f.p) (H:HS g h (qk b (kz f)::R)):aH n 370 [.ptr b 0,.agg (xi a)] h λ_ h'=>HS g h' (qk b (kz (jP f a))::R):=by
 (refine qA rfl omQ λk hk=>?_;show wp (S370 (callT tab qj k) _ _ _) _;unfold S370;try simp only[iI,iZ])
 generalize hF:jP f a=F;refine qM H rfl λb0 h1 H1=>?_;refine zv [] (λ_ h'=>HS g h' (qk b (kz F)::R)) (λj hj=>?_) λ_ h' H'=>?_
 rotate_left
 ·refine qx<|qY H'
 refine qG (qQ (qD H1 .here rfl omQ rfl ?_));refine qW (Yk omQ (H1.aM e_1)) ?_;rintro _ h2 ⟨rfl,H2⟩;unfold jP at hF;cases hs:(jL f.p a).1 with
 |true=>rw[iJ hs]at hF;refine qZ<|hj _ _ (by rw[← hF];exact H2.pk [0] 1)
 |false=>
  rw[iQ (by grind)]at hF;have tp:(jL f.p a).2=f.p∧f.p.fin=0:=by
   unfold jL at hs ⊢
   grind
  rw[tp.1]at H2;have H3:HS g h2 (qk b (kz f)::qk b0 (xi a)::R):=H2;have H4:=H3;unfold kz vQ xi at H4;refine qJ (qG (qQ (qK ‹_› .here rfl ?_)));by_cases c1:f.state=1
  ·refine qz c1 ?_;rw[iJ c1]at hF;refine qZ (qQ (qK ‹_› e_1 rfl ?_));refine qG (qQ (qw H4 .here ⟨rfl,rfl⟩ aW λh5 H5=>?_));refine qG (qQ (qw H5 .here ⟨rfl,rfl⟩ aW λh6 H6=>?_));exact hj _ _ (by rw[← hF];exact H6.pk [0] 1)
  refine qV c1 ?_;rw[iQ c1]at hF;refine qJ (qG (qQ (qK ‹_› .here rfl ?_)));by_cases c2:f.state=2
  ·refine qz c2<|qX<|qb<|qQ ?_
   refine qD H4 e_1 rfl omQ rfl<|qG (qQ (qD H4 .here rfl omQ rfl ?_));refine qYM (jXi _ _) (λc3=>?_) (λc3=>?_)
   ·rw[iJ ⟨c2,c3⟩]at hF;refine qB (qZ (qG (qQ (qW (wu omQ H3) λ_ h5 H5=>?_))));exact hj _ _ (by rw[← hF];exact H5.pk [0] 1)
   ·rw[iQ (λh=>c3 h.2)]at hF;refine qB (qJ (qQ (qD H4 e_1 rfl omQ rfl ?_)));refine qW (ZJ omQ (hp tp.2) H3) λ_ h5 H5=>?_;exact hj _ _ (by rw[← hF];exact H5.pk [0] 1)
  ·refine qV c2 ?_;rw[iQ (λh=>c2 h.1)]at hF;refine qX<|qS<|qH (qJ (qQ ?_))
   refine qD H4 e_1 rfl omQ rfl<|qW (ZJ omQ (hp tp.2) H3) λ_ h5 H5=>?_;exact hj _ _ (by rw[← hF];exact H5.pk [0] 1)
theorem Ve (hn:2≤n) (H:HS g h L) (s:bp L (qk b (kz f)) R):aH n 177 [.ptr b 0] h λr h'=>r=.int .i64 f.p.fin∧h'=h:=by
 refine aG rfl omQ λk hk=>?_;unfold S177;try simp only
 refine qG (qQ (qW (Y6 omQ H s) ?_));rintro _ _ ⟨rfl,rfl⟩;exact qY ⟨rfl,rfl⟩
theorem jKu (hn:2≤n) (H:HS g h L) (s:bp L (qk b (kz f)) R):aH n 368 [.ptr b 0] h λr h'=>r=.int .i64 f.p.ch∧h'=h:=by
 refine aG rfl omQ λk hk=>?_;unfold S368;try simp only
 refine qG (qQ (qW (SU omQ H s) ?_));rintro _ _ ⟨rfl,rfl⟩;exact qY ⟨rfl,rfl⟩
theorem qvP (hn:3≤n) (H:HS g h L) (s:bp L (qk b (kz f)) R):aH n 181 [.ptr b 0] h λr h'=>r=.int .u64 (xn f)∧h'=h:=by
 refine aG rfl omQ λk hk=>?_;unfold S181;try simp only[iZ]
 refine qW (Ve omQ H s) ?_;rintro _ _ ⟨rfl,rfl⟩;unfold xn;by_cases c:f.p.fin=2
 ·refine jB c ?_;rw[iQ (λh=>h c)];refine qJ (qG (qQ ?_));exact qK H s rfl (qY ⟨rfl,rfl⟩)
 ·refine jg c ?_;rw[iJ c];refine qZ<|qY ⟨rfl,rfl⟩
def gk (x:zd):List AV:=[.int .i64 x.1,.int .u64 x.2]
theorem qkI (hn:3≤n) (H:HS g h L) (s:bp L (qk b (kz f)) R):aH n 179 [.ptr b 0] h λr h'=>r=.agg (gk (yZ f))∧HS g h' L:=by
 refine aG rfl omQ λk hk=>?_;unfold S179;try simp only[iZ]
 refine qM H rfl λb0 h1 H1=>?_;refine qW (Ve omQ H1 (.there s)) ?_;rintro _ _ ⟨rfl,rfl⟩;unfold yZ;by_cases c:f.p.fin=2
 ·refine jB c ?_;rw[iQ (λh=>h c)];refine qJ (qG (qQ (qK H1 (.there s) rfl ?_)));refine qG (qQ (qK H1 (.there s) rfl ?_));refine qI rfl<|qe H1 .here rfl (by simp) rfl λh3 H3=>?_;refine qD H3 .here rfl omQ rfl<|qY ⟨rfl,H3.drop⟩
 ·refine jg c ?_;rw[iJ c];refine qZ (qI rfl ?_);refine qe H1 .here rfl (by simp) rfl λh3 H3=>?_;refine qD H3 .here rfl omQ rfl<|qY ⟨rfl,H3.drop⟩
end
end
section
variable {g h:AH} {L R:List SP}
section
variable {n m:Nat} {v:AV} {xs:List AV}
theorem KM (hn:1≤n) (H:HS g h L) (s:bp L (aa 129 2 m v xs) R) (ha:qt xs=true) (hm:m≤1000000) :
  aH n 130 [v] h λr h'=>HS g h' (aa 129 2 m r xs::L):=by
 refine aG rfl omQ λk hk=>?_;unfold S130;try simp only[iZ]
 refine K8 H s (λh1 h2=>?_) (qJ ?_)
 ·subst h1 h2;obtain rfl:xs=[]:=iA (by simpa using H.ed s);exact qZ (qY H.ap)
 ·refine qh (l:=[]) H rfl rfl rfl rfl λv2 h2 H2=>?_;refine zX H2 (H2.sl (.there s)) omQ omQ ha λv3 h3 H3=>?_;rw[Nat.zero_add,List.nil_append]at H3;exact qY H3
end
theorem SW {f:Int→AV} (hf:∀x,(f x).one=true):∀l:List Int,qt (l.map f)=true:=by grind[qt,List.all_map,List.all_eq_true]
theorem XB {α:Type} {f:α→List AV} (hf:∀x,qt (f x)=true):∀l:List α,qt (l.flatMap f)=true:=by
 intro l
 induction l with
 |nil=>rfl
 |cons x l ih=>rw[List.flatMap_cons];unfold qt at*;grind
section
variable {n p hb tb cb sb:Nat} {wv lv sv:AV} {S:jz} {M:jX} {o:dG}
theorem qyO {b:Nat} {x:Int} (hn:1≤n) (H:HS g h L) (s:bp L (qk b [.int .u64 x]) R):aH n 68 [.ptr b 0] h λr h'=>r=.int .u64 x∧h'=h:=by
 refine aG rfl omQ λk hk=>?_;unfold S68;try simp only
 refine qG (qQ ?_);exact qK H s rfl (qY ⟨rfl,rfl⟩)
theorem jZI {b:Nat} (hn:1≤n) (H:HS g h (qk b [.int .u64 M.n]::R)):aH n 81 [.ptr b 0,.int .u64 o.cD,.int .u64 o.word] h λr h'=>
  r=.cn [.bool (JZ M { o with kind:=7 }).1.done,.int .i64 (JZ M { o with kind:=7 }).1.err]∧HS g h' (qk b [.int .u64 (JZ M { o with kind:=7 }).2.n]::R):=by
 refine cY rfl omQ λk hk=>?_;unfold S81;try simp only[iZ]
 unfold JZ;rw[iQ (show¬(7:Int)=6 by simp)];refine km (λc1=>?_) (λc1=>?_)
 ·rw[iJ c1];refine qZ<|qY ⟨rfl,H⟩
 rw[iQ c1];refine qJ (vW (λc2=>?_) (λc2=>?_))
 ·rw[iJ (by grind)];refine qZ<|qY ⟨rfl,H⟩
 rw[iQ (by grind)];refine qJ (qG (qQ (qK ‹_› .here rfl ?_)));refine gP (λc3=>?_) (λc3=>?_)
 ·rw[iJ c3];refine qZ<|qY ⟨rfl,H⟩
 ·rw[iQ (λh=>h c3)];refine qJ (qG (qQ (qw H .here ⟨rfl,rfl⟩ aW λh2 H2=>?_)));exact qY ⟨rfl,H2⟩
def yR (M:jX) (o:dG):cE×jX:=if o.kind=1∨o.kind=2 then Kk M o else if o.kind=3∨o.kind=4∨o.kind=5 then Xi M o else if o.kind=6∨o.kind=7 then JZ M o else if o.kind=8∨o.kind=9 then VO M o else(mU 1,M)
theorem ve:qF M o=if(yR M o).1.err=0 then((yR M o).1,{ (yR M o).2 with aT:=(yR M o).2.aT+1 })else yR M o:=rfl
theorem qXl:(yR M o).2.aT=M.aT:=by
 grind[yR,Kk,Xi,JZ,VO]
theorem jVf (hn:6≤n) (H:HS g h (cM p S M::R)) :
  aH n 49 [.ptr p 0,.agg (vK o)] h λr h'=>r=.agg (xi (yR M o).1)∧HS g h' (cM p S (yR M o).2::R):=by
 refine bw rfl omQ λk hk=>?_;unfold S49;try simp only[iZ]
 generalize hr:yR M o=r;obtain⟨hb,tb,cb,sb,wv,lv,sv,H⟩:=cM.E H;refine qM H rfl λb0 h1 H1=>?_;refine qM H1 rfl λb1 h2 H2=>?_;refine qM H2 rfl λb2 h3 H3=>?_;unfold vK at H3;refine qQ (qK H3 e_2 rfl ?_);refine zv [] (λs h'=>s=(.ptr b2 0,.ptr b1 0,())∧HS g h' (qk b2 (xi r.1)::qk b1 (xi dM)::Cd p hb tb cb sb wv lv sv S r.2 R)) ?_ ?_
 rotate_left
 ·rintro s h4 ⟨rfl,H4⟩;refine qD H4 .here rfl omQ rfl<|qe H4 e_1 rfl (by trivial) rfl λh5 H5=>?_;refine qx (qD H5 .here rfl omQ rfl ?_);exact qY ⟨rfl,cM.I (H5.drop.drop)⟩
 intro j hj;by_cases k1:o.kind=1
 ·refine qz k1<|qZ (qG (qQ (qK ‹_› e_3 rfl ?_)));refine qQ (qK ‹_› e_2 rfl ?_);have e:r=(⟨(if 1≤o.at_∧o.at_<M.w.length then qg M.w o.at_ else 0),bK,false,(if 1≤o.at_∧o.at_<M.w.length then 0 else 2)⟩,M):=by
   rw[← hr];unfold yR Kk mU;grind
  subst e;refine qW (qg7 omQ H3 e_4 e_5) ?_;rintro _ _ ⟨rfl,rfl⟩;refine qy rfl<|qy rfl<|qQ (qw H3 .here ⟨rfl,rfl⟩ (by simp) λh4 H4=>?_);refine qQ (qw H4 .here ⟨rfl,rfl⟩ (by simp) λh5 H5=>?_);exact hj _ _ ⟨rfl,H5.pk [0,0] 1⟩
 refine qV k1<|qJ ?_;by_cases k2:o.kind=2
 ·refine qz k2<|qZ (qG (qQ (qK ‹_› e_3 rfl ?_)));refine qQ (qK ‹_› e_2 rfl ?_);refine qQ (qK ‹_› e_2 rfl ?_);have e:r=(⟨0,bK,false,(if 1≤o.at_∧o.at_<M.w.length then 0 else 2)⟩,{ M with w:=(if 1≤o.at_∧o.at_<M.w.length then M.w.set o.at_.toNat o.word else M.w) }):=by
   rw[← hr];unfold yR Kk mU;rw[iJ (.inr k2)];by_cases c:1≤o.at_∧o.at_<M.w.length
   ·rw[iQ omQ,iQ k1,iJ c,iJ c];rfl
   ·rw[iJ omQ,iQ c,iQ c]
  subst e;refine qW (qqt omQ (H3.pk [4,4] 0)) ?_;rintro _ h4 ⟨rfl,H4⟩;refine qQ (qw H4 e_2 ⟨rfl,rfl⟩ (by simp) λh5 H5=>?_);exact hj _ _ ⟨rfl,H5.pk [0,2,3,0,0] 1⟩
 refine qV k2<|qJ ?_;by_cases k3:o.kind=3
 ·refine qz k3<|qZ (qG (qQ (qK ‹_› e_3 rfl ?_)));refine qQ (qK ‹_› e_2 rfl ?_);have e:r=(⟨0,(if 0≤o.at_∧o.at_<M.l.length then qP M.l o.at_ else bK),false,(if 0≤o.at_∧o.at_<M.l.length then 0 else 2)⟩,M):=by
   rw[← hr];unfold yR Xi mU;grind
  subst e;refine qW (qwD omQ H3 e_6 e_7) ?_;rintro _ h4 ⟨rfl,H4⟩;refine qy rfl<|qy rfl<|qQ (qe H4 .here rfl (by simp) rfl λh5 H5=>?_);refine qQ (qw H5 .here ⟨rfl,rfl⟩ (by show 5<6;omega) λh6 H6=>?_);exact hj _ _ ⟨rfl,H6.pk [0,0] 1⟩
 refine qV k3<|qJ ?_;by_cases k4:o.kind=4
 ·refine qz k4<|qZ (qG (qQ (qK ‹_› e_3 rfl ?_)));refine qQ (qK ‹_› e_2 rfl ?_);refine qQ ?_;have e:r=(⟨0,bK,decide (JX M.l.length o.at_ o.lk=0∧qP M.l o.at_=o.aw),JX M.l.length o.at_ o.lk⟩,{ M with l:=if JX M.l.length o.at_ o.lk=0∧qP M.l o.at_=o.aw then M.l.set o.at_.toNat o.lk else M.l }):=by
   rw[← hr];unfold yR Xi JX mU dM;rw[iQ omQ,iJ (.inr (.inl k4))];by_cases c:0≤o.at_∧o.at_<M.l.length
   ·rw[iQ omQ,iQ k3,iJ c];by_cases c2:vn o.lk
    ·rw[iQ (λh=>h c2),iQ omQ,iJ c2];split<;>simp_all
    simp_all
   ·rw[iJ omQ,iQ c,iV aW,iQ aW]
  subst e;refine qD H3 e_2 rfl omQ rfl<|qQ (qD H3 e_2 rfl omQ rfl ?_);refine qW (jZ8 omQ (H3.pk [6,6] 0)) ?_;rintro _ h4 ⟨rfl,H4⟩;refine qy rfl<|qy rfl<|qQ (qw H4 e_2 ⟨rfl,rfl⟩ (by simp) λh5 H5=>?_);refine qQ (qw H5 .here ⟨rfl,rfl⟩ (by simp) λh6 H6=>?_);exact hj _ _ ⟨rfl,H6.pk [0,2,3,3,3,0,0] 1⟩
 refine qV k4<|qJ ?_;by_cases k5:o.kind=5
 ·refine qz k5<|qZ (qG (qQ (qK ‹_› e_3 rfl ?_)));refine qQ (qK ‹_› e_2 rfl ?_);refine qQ ?_;have e:r=(⟨0,bK,false,JX M.l.length o.at_ o.lk⟩,{ M with l:=if JX M.l.length o.at_ o.lk=0 then M.l.set o.at_.toNat o.lk else M.l }):=by
   rw[← hr];unfold yR Xi JX mU dM;rw[iQ omQ,iJ (.inr (.inr k5))];by_cases c:0≤o.at_∧o.at_<M.l.length
   ·rw[iQ omQ,iQ k3,iJ c];split<;>simp_all
   ·rw[iJ omQ,iQ c,iQ od]
  subst e;refine qD H3 e_2 rfl omQ rfl<|qW (qzh omQ (H3.pk [6,6] 0)) ?_;rintro _ h4 ⟨rfl,H4⟩;refine qQ (qw H4 e_2 ⟨rfl,rfl⟩ (by simp) λh5 H5=>?_);exact hj _ _ ⟨rfl,H5.pk [0,2,3,3,3,0,0] 1⟩
 refine qV k5<|qJ ?_;by_cases k6:o.kind=6
 ·refine qz k6<|qZ (qG (qQ (qK ‹_› e_3 rfl ?_)));have e:r=(⟨M.n,bK,false,0⟩,M):=by
   rw[← hr];unfold yR JZ;grind
  subst e;refine qW (qyO omQ H3 e_8) ?_;rintro _ _ ⟨rfl,rfl⟩;refine qQ (qw H3 .here ⟨rfl,rfl⟩ (by simp) λh4 H4=>?_);exact hj _ _ ⟨rfl,H4.pk [0,0] 1⟩
 refine qV k6<|qJ ?_;by_cases k7:o.kind=7
 ·refine qz k7<|qZ (qG (qQ (qK ‹_› e_3 rfl ?_)));refine qQ (qK ‹_› e_2 rfl ?_);refine qQ (qK ‹_› e_2 rfl ?_);have e:r=(⟨0,bK,(JZ M { o with kind:=7 }).1.done,(JZ M { o with kind:=7 }).1.err⟩,{ M with n:=(JZ M { o with kind:=7 }).2.n }):=by
   rw[← hr];unfold yR JZ mU dM;rw[iQ omQ,iQ omQ,iJ (.inr k7),iQ k6,iQ (show¬(7:Int)=6 by simp)];dsimp only
   repeat' split
   all_goals rfl
  subst e;refine qW (jZI omQ (H3.pk [8] 0)) ?_;rintro _ h4 ⟨rfl,H4⟩;refine qy rfl<|qy rfl<|qQ (qw H4 e_1 ⟨rfl,rfl⟩ (by simp) λh5 H5=>?_);refine qQ (qw H5 .here ⟨rfl,rfl⟩ (by simp) λh6 H6=>?_);exact hj _ _ ⟨rfl,H6.pk [0,1,2,2,2,2,2,0] 1⟩
 refine qV k7<|qJ ?_;by_cases k8:o.kind=8
 ·refine qz k8<|qZ (qG (qQ (qK ‹_› e_3 rfl ?_)));refine qQ (qK ‹_› e_2 rfl ?_);have e:r=(⟨(if 0≤o.at_∧o.at_<M.s.length then qg M.s o.at_ else 0),bK,false,(if 0≤o.at_∧o.at_<M.s.length then 0 else 2)⟩,M):=by
   rw[← hr];unfold yR VO mU;grind
  subst e;refine qW (qw8 omQ H3 e_9 e_10) ?_;rintro _ _ ⟨rfl,rfl⟩;refine qy rfl<|qy rfl<|qQ (qw H3 .here ⟨rfl,rfl⟩ (by simp) λh4 H4=>?_);refine qQ (qw H4 .here ⟨rfl,rfl⟩ (by simp) λh5 H5=>?_);exact hj _ _ ⟨rfl,H5.pk [0,0] 1⟩
 refine qV k8<|qJ ?_;by_cases k9:o.kind=9
 ·refine qz k9<|qZ (qG (qQ (qK ‹_› e_3 rfl ?_)));refine qQ (qK ‹_› e_2 rfl ?_);refine qQ (qK ‹_› e_2 rfl ?_);have e:r=(⟨0,bK,false,(if 0≤o.at_∧o.at_<M.s.length then 0 else 2)⟩,{ M with s:=(if 0≤o.at_∧o.at_<M.s.length then M.s.set o.at_.toNat o.word else M.s) }):=by
   rw[← hr];unfold yR VO mU;rw[iQ omQ,iQ omQ,iQ omQ,iJ (.inr k9)];by_cases c:0≤o.at_∧o.at_<M.s.length
   ·rw[iQ omQ,iQ k8,iJ c,iJ c];rfl
   ·rw[iJ omQ,iQ c,iQ c]
  subst e;refine qW (qqH omQ (H3.pk [9,9] 0)) ?_;rintro _ h4 ⟨rfl,H4⟩;refine qQ (qw H4 e_2 ⟨rfl,rfl⟩ (by simp) λh5 H5=>?_);exact hj _ _ ⟨rfl,H5.pk [0,2,3,3,3,3,3,3,0,0] 1⟩
 refine qV k9<|qJ (qQ ?_);have e:r=(mU 1,M):=by rw[← hr];unfold yR;grind
 subst e;refine qw H3 .here ⟨rfl,rfl⟩ (by simp) λh4 H4=>?_;exact hj _ _ ⟨rfl,H4.pk [0,0] 1⟩
theorem qwp (hn:7≤n) (hc:0≤M.aT∧M.aT<1000000000) (H:HS g h (cM p S M::R)) :
  aH n 27 [.ptr p 0,.agg (vK o)] h λr h'=>r=.agg (xi (qF M o).1)∧HS g h' (cM p S (qF M o).2::R):=by
 refine bw rfl omQ λk hk=>?_;unfold S27;try simp only[iZ]
 refine qM H rfl λb0 h1 H1=>?_;refine qM H1 rfl λb1 h2 H2=>?_;refine qD H2 e_1 rfl omQ rfl<|qW (jVf omQ (H2.aM e_2)) ?_;rintro _ h3 ⟨rfl,H3⟩;have ec:(yR M o).2.aT=M.aT:=qXl;rw[ve];generalize yR M o=r at*;obtain⟨r,M'⟩:=r;dsimp only at ec H3 ⊢;refine qM H3 rfl λb2 h4 H4=>?_;refine qe H4 .here rfl (by simp) rfl λh5 H5=>?_;clear H3 H4;have H6:=H5;unfold xi at H6;refine zv [] (λs h'=>s=(.ptr b2 0,.ptr b1 0,())∧HS g h' (qk b2 (xi r)::qk b1 (xi dM)::cM p S (if r.err=0 then(r,{ M' with aT:=M'.aT+1 })else(r,M')).2::R)) ?_ ?_
 rotate_left
 ·rintro s h4 ⟨rfl,H4⟩;refine qD H4 .here rfl omQ rfl<|qe H4 e_1 rfl (by trivial) rfl λh5 H5=>?_;refine qx (qD H5 .here rfl omQ (l:=xi r) rfl ?_);refine qY ⟨by grind,?_⟩;exact H5.drop.drop
 intro j hj;refine qQ (qK ‹_› .here rfl ?_);by_cases c:r.err=0
 ·refine qz c ?_;rw[iJ c]at hj ⊢;refine qZ (qG (qQ ?_));obtain⟨hb,tb,cb,sb,wv,lv,sv,H7⟩:=cM.E (H5.aM e_1);refine qK ‹_› .here rfl<|qa omQ<|qG (qQ (qw H7 (b:=p) .here ⟨rfl,rfl⟩ (by simp) λh8 H8=>?_));have H9:HS g h8 (cM p S { M' with aT:=M'.aT+1 }::_):=cM.I (hb:=hb) (tb:=tb) (cb:=cb) (sb:=sb) (wv:=wv) (lv:=lv) (sv:=sv) H8;exact hj _ _ ⟨rfl,H9.pk [1,1,0] 1⟩
 ·refine qV c ?_;rw[iQ c]at hj ⊢;refine qJ<|hj _ _ ⟨rfl,H5.pk [0,1,0] 1⟩
end
end
section
variable {g h:AH} {L R:List SP}
theorem qvm:∀{a b:List Int},a.Pairwise (· < ·)→b.Pairwise (· < ·)→(∀x,x∈a↔x∈b)→a=b:=by
 intro a
 induction a with
 |nil=>
  intro b _ _ h;cases b with
  |nil=>rfl
  |cons y b=>have:=(h y).2 (iK ..);grind
 |cons x a ih=>
  intro b ha hb h;cases b with
  |nil=>grind
  |cons y b=>
   have EL:=List.pairwise_cons.1 ha;have bV:=List.pairwise_cons.1 hb;have e:x=y:=by
    rcases List.mem_cons.1 ((h x).1 (iK ..))with e |e
    ·grind
    ·rcases List.mem_cons.1 ((h y).2 (iK ..))with e2 |e2
     all_goals grind
   grind
theorem qYr {d:Array Int} (hs:∀i j,i≤j→j<d.size→d[i]! ≤d[j]!):∀m,m≤d.size→(Lib.compactUpTo d m).Pairwise (· < ·)∧∀x,x∈Lib.compactUpTo d m↔∃j,j<m∧d[j]! =x:=by
 intro m
 induction m with
 |zero=>intro _;exact⟨List.Pairwise.nil,λx=>⟨(nofun),λ⟨j,h,_⟩=>by omega⟩⟩
 |succ m ih=>
  intro hm;obtain⟨p,q⟩:=ih omQ;rw[Lib.compactUpTo_succ];by_cases hk:Lib.keeps d m=true
  ·rw[iJ hk];refine⟨?_,λx=>?_⟩
   ·rw[List.pairwise_append];refine⟨p,List.pairwise_singleton ..,λa ha b hb=>?_⟩;rw[List.mem_singleton]at hb;subst hb;obtain⟨j,hj,rfl⟩:=(q a).1 ha;have h1:=hs j (m-1) omQ omQ;have h2:=hs (m-1) m omQ omQ;have h3:d[m]! ≠d[m-1]!:=by
     intro e;rw[Lib.keeps_neg omQ e]at hk;grind
    omega
   grind
  ·rw[iQ hk,List.append_nil];refine⟨p,λx=>?_⟩;rw[q x];refine⟨λ⟨j,hj,e⟩=>⟨j,by omega,e⟩,λ⟨j,hj,e⟩=>?_⟩;by_cases lA:j=m
   ·subst lA;have h0:0<j:=by
     rcases Nat.eq_zero_or_pos j with h |h
     ·simp_all[Lib.keeps_lt_one,omQ]
     grind
    refine⟨j-1,by omega,?_⟩;refine Decidable.byContradiction λbJ=>hk (Lib.keeps_pos λh=>bJ ?_);grind
   grind
theorem jZT {zs:List Int} (h:zs.Pairwise (· ≤ ·)):(Lib.compact zs).Pairwise (· < ·)∧∀x,x∈Lib.compact zs↔x∈zs:=by
 have hg:∀i:Nat,i<zs.length→zs.toArray[i]! =zs[i]!:=λi hi=>by simp
 obtain⟨p,q⟩:=qYr (d:=zs.toArray) (λi j sB hj=>by
  have hj:j<zs.length:=by grind
  rw[hg i omQ,hg j hj,getElem!_pos zs i omQ,getElem!_pos zs j hj];by_cases e:i=j
  ·grind
  ·exact List.pairwise_iff_getElem.1 h i j omQ hj omQ) zs.length aW
 refine⟨p,λx=>?_⟩;refine(q x).trans ⟨λ⟨j,hj,e⟩=>?_,λhx=>?_⟩
 ·grind
 ·obtain⟨j,hj,e⟩:=List.mem_iff_getElem.1 hx;grind
theorem qXf {p n w:Int} (h:0≤p):0≤ofM p n w∧ofM p n w<16:=by unfold ofM;rw[iQ omQ];have h1:=Int.emod_nonneg (p/max 1 (min w 16)) (show max 1 (min n 16)≠0 by omega);have h2:=Int.emod_lt_of_pos (p/max 1 (min w 16)) (show 0<max 1 (min n 16) by omega);omega
theorem UY {cs:List Cl} {n w:Int}:(xJ cs n w).Pairwise (· < ·):=by unfold xJ;refine List.Pairwise.filter _ ?_;trivial
theorem Ju {cs:List Cl} {n w:Int} (h:∀c∈cs,0≤c.1) {x:Int}:x∈xJ cs n w↔x∈cs.map λc=>ofM c.1 n w:=by unfold xJ;rw[List.mem_filter,List.any_eq_true,List.mem_map,List.mem_map];refine⟨λ⟨_,c,hc,e⟩=>⟨c,hc,by grind⟩,λ⟨c,hc,e⟩=>⟨?_,c,hc,by grind⟩⟩;have:=qXf (n:=n) (w:=w) (h c hc);exact⟨x.toNat,List.mem_range.2 omQ,by omega⟩
theorem qK8 {cs:List Cl} {n w:Int} (h:∀c∈cs,0≤c.1):Lib.compact (JC (cs.map λc=>ofM c.1 n w))=xJ cs n w:=by obtain⟨p,q⟩:=jZT (Gm (cs.map λc=>ofM c.1 n w));grind[qvm,UY,YD,Ju]
section
variable {n m:Nat} {v:AV} {zs:List Int}
theorem qwt {e:TypeId} (hn:1≤n) (H:HS g h (aa e 1 m v (zs.map (.int .i64))::R)) (h0:0<m) (hm:m≤1000000) :
  aH n 175 [v] h λ_ h'=>HS g h' (aa e 1 m v ((JC zs).map (.int .i64))::R):=by
 have hl:zs.length=m:=by have:=H.ed .here;grind
 obtain⟨b,cp,o,ys,rfl,HC,q1,q2,q3⟩:=H.E5 h0;rw[Nat.mul_one]at q1 q2;refine qA rfl omQ λk hk=>?_;show wp (Fm _ [.slice b 0 m cp o] h) _;obtain⟨D,⟨hD,A⟩,fb,kk⟩:=HC.act;obtain⟨c,c1,c2,c3⟩:=A.bG;unfold Fm;simp only[c1,c2];rw[q2,Si];simp only[];rw[show Nat.beq zs.length m=true from by simp_all,iY hm];simp;refine⟨_,_,rfl,?_⟩;have SX:=kk _ (Cell b ((JC zs).map (.int .i64)++ys.drop m) e o) D ⟨by simp,λa ha hn=>AH.bE h _ λe=>hn ((hD a).2 e.symm)⟩ ⟨hD,by simp_all,CT.ofList _,AH.bi ..,CT.aP _,CT.bI _⟩ λa ha=>⟨.inl ha,by simp_all⟩;have hlen:((JC zs).map (AV.int .i64)).length=m:=by rw[List.length_map,Nt,hl]
 have:=HS.E6 (n:=m) (sz:=1) (cp:=cp) SX (by grind) (by
  grind)
 grind
theorem qgN (hn:1≤n) (H:HS g h (aa 3 1 m v (zs.map (.int .i64))::R)) (h0:0<m) (hm:m≤1000000) :
  aH n 176 [v] h λr h'=>HS g h' (aa 3 1 (Lib.compact zs).length r ((Lib.compact zs).map (.int .i64))::R):=by
 have hl:zs.length=m:=by have:=H.ed .here;grind
 obtain⟨b,cp,o,ys,rfl,HC,q1,q2,q3⟩:=H.E5 h0;rw[Nat.mul_one]at q1 q2;refine qA rfl omQ λk hk=>?_;show wp (Fo 3 _ [.slice b 0 m cp o] h) _;obtain⟨D,⟨hD,A⟩,fb,kk⟩:=HC.act;obtain⟨c,c1,c2,c3⟩:=A.bG;have hle:=qWD zs;unfold Fo;simp only[c1,c2];rw[q2,Si];simp only[];have hc:(Nat.beq zs.length m&&(Nat.ble m 1000000&&(bif o then Nat.beq cp 0&&(o&&Nat.beq 3 3)else Nat.ble m cp)))=true:=by
  rw[show Nat.beq zs.length m=true from by simp_all,iY hm];cases o with
  |true=>simp_all
  |false=>simp_all
 rw[hc];simp only[cond_true];refine⟨_,_,rfl,?_⟩;have SX:=kk _ (Cell b ((Lib.compact zs++List.replicate (zs.length-(Lib.compact zs).length) 0).map (.int .i64)++ys.drop m) 3 o) D ⟨by simp,λa ha hn=>AH.bE h _ λe=>hn ((hD a).2 e.symm)⟩ ⟨hD,by simp_all,CT.ofList _,AH.bi ..,CT.aP _,CT.bI _⟩ λa ha=>⟨.inl ha,by simp_all⟩;have hlen:((Lib.compact zs++List.replicate (zs.length-(Lib.compact zs).length) 0).map (AV.int .i64)).length=m:=by grind
 have:=HS.E6 (n:=(Lib.compact zs).length) (sz:=1) (cp:=cp) SX (by simp) (by
  grind)
 grind
theorem qw6:∀{l:List Int},l.Pairwise (· ≤ ·)→NJ l=true:=by
 intro l
 induction l with
 |nil=>trivial
 |cons x r ih=>
  intro h;cases r with
  |nil=>rfl
  |cons y r=>simp_all[List.pairwise_cons,NJ,iG]
theorem qyU {e:TypeId} {x:Int} (hn:1≤n) (H:HS g h L) (s:bp L (aa e 1 m v (zs.map (.int .i64))) R) (h0:0<m) (hm:m≤1000000) (hs:zs.Pairwise (· ≤ ·)) :
  aH n 392 [v,.int .i64 x] h λr h'=>r=.cn [.int .i64 (zs.countP (· <x):Nat),.bool (zs.contains x)]∧h'=h:=by
 have hl:zs.length=m:=by have:=H.ed s;grind
 obtain⟨b,cp,o,ys,rfl,HC,q1,q2,q3⟩:=(H.aM s).E5 h0;rw[Nat.mul_one]at q1 q2;refine qA rfl omQ λk hk=>?_;show wp (Fp _ [.slice b 0 m cp o,.int .i64 x] h) _;obtain⟨D,⟨hD,A⟩,fb,kk⟩:=HC.act;obtain⟨c,c1,c2,c3⟩:=A.bG;unfold Fp;simp only[c1,c2];rw[q2,Si];simp only[];rw[show Nat.beq zs.length m=true from by simp_all,iY hm,qw6 hs];exact⟨_,_,rfl,rfl,rfl⟩
end
theorem V5 {n:Nat} {a b:Int} (hn:1≤n):aH n 75 [.int .i64 a,.int .i64 b] h λr h'=>r=.int .i64 (max 1 (min a b))∧h'=h:=by
 refine bw rfl omQ λk hk=>?_;unfold S75;try simp only[iZ]
 refine zi (xR ?_);exact qY ⟨rfl,rfl⟩
theorem qxh {n:Nat} {p a w:Int} (hn:2≤n) (hp:p<4611686018427387904):aH n 143 [.int .i64 p,.int .i64 a,.int .i64 w] h λr h'=>r=.int .i64 (ofM p a w)∧h'=h:=by
 refine cY rfl omQ λk hk=>?_;unfold S143;try simp only[iZ]
 unfold ofM;by_cases c:p<0
 ·refine jc c ?_;rw[iJ c];refine qZ<|qY ⟨rfl,rfl⟩
 ·refine jH c ?_;rw[iQ c];refine qJ (qW (V5 omQ) ?_);rintro _ _ ⟨rfl,rfl⟩;refine jVo omQ ?_;have h1:p.tdiv (max 1 (min w ((16:Nat):Int)))=p/max 1 (min w 16):=Int.tdiv_eq_ediv_of_nonneg omQ;have h2:0≤p/max 1 (min w 16):=Int.ediv_nonneg omQ omQ;have h3:p/max 1 (min w 16)≤p:=Int.ediv_le_self _ omQ;rw[h1,EY omQ];refine qW (V5 omQ) ?_;rintro _ _ ⟨rfl,rfl⟩;refine QD omQ ?_;rw[Int.tmod_eq_emod_of_nonneg h2];exact qY ⟨rfl,rfl⟩
theorem qGs {n:Nat} {cv:AV} {cs:List Cl} {a w:Int} (hn:4≤n) (H:HS g h R) (S:Rd g R 2 cs.length cv (cs.flatMap jn)) (h0:0<cs.length) (hl:cs.length≤1000) (hc:∀c∈cs,0≤c.1∧c.1<100000) :
  aH n 147 [cv,.int .i64 a,.int .i64 w] h λr h'=>HS g h' (aa 3 1 (xJ cs a w).length r ((xJ cs a w).map (.int .i64))::R):=by
 refine cY (S:=S147) rfl omQ λk hk=>?_;unfold S147;try simp only[iZ]
 have Ll:=(S.sl H).uG;refine vG ‹_›<|jS (λm s h'=>∃(i:Nat) (v:AV),s=(.int .i64 (i:Int),.int .i64 (cs.length:Int),cv,v,.int .i64 w,.int .i64 a,())∧i≤cs.length∧m=cs.length-i∧
  HS g h' (aa 3 1 i v (((cs.take i).map λc=>ofM c.1 a w).map (.int .i64))::R))
  ?_ (m:=cs.length) (by grind) ⟨0,.ap,rfl,by omega,by rfl,H.ap⟩
 clear H Ll;rintro m ih s h2 bN ⟨i,v,rfl,hi,rfl,H⟩;by_cases ax:i<cs.length
 ·refine jc omQ (qZ ?_);have tY:=hc _ (List.getElem_mem ax);have hr:=qXf (n:=a) (w:=w) tY.1;refine qX ?_
  try dsimp only
  refine xQ (l:=jn cs[i]) (S.sl H.drop) ax omQ (vP (sz:=2) (λ_=>rfl) (iW ax))<|qM H rfl λb h3 H3=>?_;refine qe H3 .here rfl (by simp) rfl λh4 H4=>?_;have H4:HS g h4 (qk b [.int .i64 cs[i].1,.int .u64 cs[i].2]::aa 3 1 i v (((cs.take i).map λc=>ofM c.1 a w).map (.int .i64))::R):=H4;refine qQ (qK ‹_› .here rfl ?_);refine qW (qxh omQ omQ) ?_;rintro _ _ ⟨rfl,rfl⟩;refine z8 omQ (qZ ?_);refine qh H4 rfl rfl rfl rfl λv2 h5 H5=>?_;refine zX (H5.aM e_2) (H5.sl .here) omQ omQ rfl λv3 h6 H6=>?_;refine qa omQ<|bN (cs.length-(i+1)) _ _ omQ ⟨i+1,v3,rfl,by omega,rfl,?_⟩;have e:(cs.take (i+1)).map (λc=>ofM c.1 a w)=(cs.take i).map (λc=>ofM c.1 a w)++[ofM cs[i].1 a w]:=by rw[List.take_add_one,iW ax,List.map_append];rfl
  rw[e,List.map_append];exact H6.sub (.cons .here (.drop (.drop .refl)))
 ·obtain rfl:i=cs.length:=by omega
  refine jH omQ (qJ ?_);rw[List.take_of_length_le (Nat.le_refl _)]at H;refine qW (qwt omQ H h0 omQ) λ_ h3 H3=>?_;refine qW (qgN omQ H3 h0 omQ) λr h4 H4=>?_;rw[qK8 λc bH=>(hc c bH).1]at H4;refine qx<|qY H4
end
section
variable {g h:AH} {L R:List SP}
theorem qJd {l:List zd} {k:Nat} (hk:k<l.length):((l.flatMap gk).drop (k*2)).take 2=gk (jZ l (k:Int)):=vP (enc:=gk) (λ_=>rfl) (by simp_all[jZ,Int.toNat_natCast])
theorem XZ {l:List zd} {k:Nat} (hk:k<l.length):(l.flatMap gk)[k*2+0]? =some (.int .i64 (jZ l (k:Int)).1)∧(l.flatMap gk)[k*2+1]? =some (.int .u64 (jZ l (k:Int)).2):=by
 have e:=qJd hk;have hl:(l.flatMap gk).length=l.length*2:=Kn gk (λ_=>rfl) (l:=l);constructor
 ·have:=congrArg (·[0]?) e;simp only[List.getElem?_take_of_lt (show 0<2 by omega),List.getElem?_drop]at this;trivial
 ·have:=congrArg (·[1]?) e;simp only[List.getElem?_take_of_lt (show 1<2 by omega),List.getElem?_drop]at this;trivial
def cB (b:Nat) (r:List zd):SP:=.ex λsv=>.all [qk b [.int .i64 16,sv],aa 129 2 r.length sv (r.flatMap gk)]
section
variable {n b:Nat} {r:List zd} {x:zd}
theorem cB.E (H:HS g h (cB b r::R)):∃sv,HS g h (qk b [.int .i64 16,sv]::aa 129 2 r.length sv (r.flatMap gk)::R):=by obtain⟨sv,H⟩:=H.fh;exact⟨sv,H.cI⟩
theorem cB.I {sv:AV} (H:HS g h (qk b [.int .i64 16,sv]::aa 129 2 r.length sv (r.flatMap gk)::R)):HS g h (cB b r::R):=HS.fH sv H.allI
theorem jJs (hn:1≤n) (H:HS g h R):aH n 135 [.int .i64 ((16:Nat):Int)] h λv h'=>∃b,v=.ptr b 0∧HS g h' (cB b []::R):=by
 refine aG rfl omQ λk hk=>?_;unfold S135;try simp only[iZ]
 refine zi (xR (qI rfl ?_));refine qM H rfl λb h1 H1=>qY ⟨b,rfl,cB.I (sv:=.ap) ?_⟩;have:=(H1.ap (e:=129) (sz:=2));exact this.pk [1,0] 0
theorem jZH {r:List zd} {i:Nat} {st:Int} {y:zd} (hb:∀z∈r.take i,z.1≠st) (hi:r[i]? =some y) (hy:y.1=st):r.find? (λz=>decide (z.1=st))=some y:=by
 obtain⟨ax,e⟩:=List.getElem?_eq_some_iff.1 hi;have h1:(r.take i).find? (λz=>decide (z.1=st))=none:=List.find?_eq_none.2 λz hz=>by grind
 have h2:r=r.take i++y::r.drop (i+1):=by grind[List.drop_eq_getElem_cons,List.take_append_drop]
 grind
theorem jJl {st:Int} (hn:1≤n) (hr:r.length≤1000) (H:HS g h (cB b r::R)) :
  aH n 208 [.ptr b 0,.int .i64 st] h λv h'=>v=.cn [.int .u64 ((r.find? λz=>decide (z.1=st)).getD (0,0)).2,.bool (r.find? λz=>decide (z.1=st)).isSome]∧HS g h' (cB b r::R):=by
 refine bw rfl omQ λk hk=>?_;unfold S208;try simp only[iZ]
 obtain⟨sv,H⟩:=cB.E H;refine qG (qQ (qK ‹_› .here rfl ?_));refine qu ‹_› e_1<|jS (λm s h'=>∃i:Nat,s=(.int .i64 (i:Int),.int .i64 (r.length:Int),sv,.int .i64 st,())∧i≤r.length∧m=r.length-i∧(∀z∈r.take i,z.1≠st)∧HS g h' (qk b [.int .i64 16,sv]::aa 129 2 r.length sv (r.flatMap gk)::R))
  ?_ (m:=r.length) (by grind) ⟨0,rfl,by omega,by rfl,by simp,H⟩
 rintro m ih s h2 bN ⟨i,rfl,hi,rfl,hb,H⟩;by_cases ax:i<r.length
 ·refine jc omQ (qZ ?_);refine xQ (H.sl e_1) ax omQ (qJd ax)<|qM H rfl λc h3 H3=>?_;refine qe H3 .here rfl (by simp) rfl λh4 H4=>?_;have hg:r[i]? =some (jZ r i):=by unfold jZ;grind
  refine qQ (qK ‹_› .here rfl ?_);by_cases hy:(jZ r i).1=st
  ·refine qz hy<|qZ (qQ (qK ‹_› .here rfl ?_));refine qx ?_;rw[jZH hb hg hy];exact qY ⟨rfl,cB.I H4.drop⟩
  ·refine qV hy<|qJ (qa omQ ?_);refine bN (r.length-(i+1)) _ _ omQ ⟨i+1,rfl,by omega,rfl,?_,H4.drop⟩;intro z hz;rw[List.take_add_one,hg]at hz;grind
 ·obtain rfl:i=r.length:=by omega
  refine jH omQ (qJ ?_);rw[List.take_of_length_le (Nat.le_refl _)]at hb;rw[List.find?_eq_none.2 λz hz=>by grind];refine qx<|qY ⟨rfl,cB.I H⟩
theorem jZA (hn:2≤n) (hr:r.length≤16) (H:HS g h (cB b r::R)) :
  aH n 178 [.ptr b 0,.agg (gk x)] h λv h'=>v=.int .i64 (gT r x).1∧HS g h' (cB b (gT r x).2::R):=by
 refine bw rfl omQ λk hk=>?_;unfold S178;try simp only[iZ]
 generalize hA:gT r x=A;refine qM H rfl λb0 h1 H1=>?_;unfold gT at hA;refine qQ (qK ‹_› .here rfl ?_);by_cases c1:x.1<0
 ·refine jc c1<|qX<|jG<|qB (qX ?_);refine jG<|qB (qZ ?_)
  rw[iJ (.inl c1)]at hA;subst hA;exact qY ⟨rfl,H1.drop⟩
 refine jH c1<|qX<|qp<|qQ (qK ‹_› .here rfl ?_)
 by_cases c2:16≤x.1
 ·refine z8 omQ<|qH (qX ?_);refine jG<|qB (qZ ?_)
  rw[iJ (.inr (.inl c2))]at hA;subst hA;exact qY ⟨rfl,H1.drop⟩
 refine z7 omQ<|qH (qX ?_);refine qp<|qQ (qK ‹_› .here rfl ?_)
 by_cases c3:4611686018427387904≤x.2
 ·refine z8 omQ<|qH (qZ ?_);rw[iJ (.inr (.inr c3))]at hA;subst hA;exact qY ⟨rfl,H1.drop⟩
 refine z7 omQ<|qH (qJ (qQ (qK ‹_› .here rfl ?_)));rw[iQ omQ]at hA;refine qW (jJl omQ omQ (H1.aM e_1)) ?_;rintro _ h2 ⟨rfl,H2⟩;have H3:=H2.aM e_1;refine qy rfl<|qy rfl ?_;cases hf:r.find? λz=>decide (z.1=x.1)with
 |some y=>
  rw[hf]at hA;dsimp only at hA;refine qZ (qQ (qK ‹_› .here rfl ?_));by_cases c4:y.2=x.2
  ·refine jB c4 ?_;rw[iQ (λh=>h c4)]at hA;subst hA;refine qJ<|qY ⟨rfl,H3.drop⟩
  ·refine jg c4 ?_;rw[iJ c4]at hA;subst hA;refine qZ<|qY ⟨rfl,H3.drop⟩
 |none=>
  rw[hf]at hA;dsimp only at hA;refine qJ ?_;obtain⟨sv,H4⟩:=cB.E H2;refine qG (qQ (qK ‹_› .here rfl ?_));refine qu ‹_› e_1<|qG (qQ (qK ‹_› .here rfl ?_));by_cases c4:r.length=16
  ·refine qz omQ ?_;rw[iJ c4]at hA;subst hA;refine qZ<|qY ⟨rfl,H3.drop⟩
  ·refine qV omQ ?_;rw[iQ c4]at hA;subst hA;refine qJ (qG (qQ (qK ‹_› .here rfl ?_)));refine qD H4 e_2 rfl omQ rfl<|qh H4 rfl rfl rfl rfl λv2 h5 H5=>?_;refine zX (H5.aM e_2) (H5.sl .here) omQ omQ rfl λv3 h6 H6=>?_;have o6:=H6.one .here;refine qG (qQ (qw H6 e_2 o6 aW λh7 H7=>?_));refine qY ⟨rfl,cB.I (sv:=v3) ?_⟩;rw[List.length_append,List.flatMap_append];exact H7.pk [0,0] 2
theorem SY (hn:2≤n) (hr:r.length≤1000) (H:HS g h (cB b r::R)):aH n 99 [.ptr b 0] h λv h'=>HS g h' (aa 129 2 r.length v (r.flatMap gk)::cB b r::R):=by
 refine aG rfl omQ λk hk=>?_;unfold S99;try simp only
 obtain⟨sv,H⟩:=cB.E H;refine qG (qQ (qK ‹_› .here rfl ?_));refine qW (KM omQ H e_1 (XB (λ_=>rfl) _) omQ) λv h1 H1=>qY<|HS.cG e_1 (cB.I (sv:=sv) (H1.pk [1,1,0] 0))
end
def Mb (x:wO) (sv:AV):List AV:=vQ x.p [sv,.bool x.aR,.int .i64 x.at_,.int .u64 x.ad]
def cC (b:Nat) (x:wO):SP:=.ex λsv=>.all [qk b (Mb x sv),aa 129 2 x.seen.length sv (x.seen.flatMap gk)]
structure MX (x:wO):Prop where
  p:VD x.p
  lo:0≤x.at_
  hi:x.at_≤1000
  len:x.seen.length≤16
  le:x.at_≤x.seen.length
  lX:x.p.fin=0→x.aR=true→x.at_<x.seen.length
section
variable {n b:Nat} {x:wO}
theorem cC.E (H:HS g h (cC b x::R)):∃sv,HS g h (qk b (Mb x sv)::aa 129 2 x.seen.length sv (x.seen.flatMap gk)::R):=by obtain⟨sv,H⟩:=H.fh;exact⟨sv,H.cI⟩
theorem cC.I {sv:AV} (H:HS g h (qk b (Mb x sv)::aa 129 2 x.seen.length sv (x.seen.flatMap gk)::R)):HS g h (cC b x::R):=HS.fH sv H.allI
theorem jQE {me sp:Int} {v:AV} {r:List zd} (hn:2≤n) (hr:r.length≤1000) (H:HS g h (aa 129 2 r.length v (r.flatMap gk)::R)) :
  aH n 144 [.int .i64 me,.int .i64 sp,v] h λv h'=>∃b,v=.ptr b 0∧HS g h' (cC b (VR me sp r)::R):=by
 refine cY rfl omQ λk hk=>?_;unfold S144;try simp only[iZ]
 refine qW (SQ omQ H) ?_;rintro _ h1 ⟨rfl,H1⟩;refine qW (KM omQ H1 .here (XB (λ_=>rfl) _) omQ) λv h2 H2=>?_;unfold vQ;have o2:=H2.one .here;refine qI (by simp only[vL,o2.1];rfl)<|qM H2 (by simp only[qt,List.all_cons,o2.2];rfl) λb h3 H3=>qY ⟨b,rfl,?_⟩;exact cC.I (sv:=v) (H3.pk [0,0] 1)
theorem qWh (hn:2≤n) {sv:AV} (H:HS g h L) (s:bp L (qk b (Mb x sv)) R):aH n 182 [.ptr b 0] h λr h'=>r=.int .i64 x.p.fin∧h'=h:=by
 refine aG rfl omQ λk hk=>?_;unfold S182;try simp only
 refine qG (qQ (qW (Y6 omQ H s) ?_));rintro _ _ ⟨rfl,rfl⟩;exact qY ⟨rfl,rfl⟩
theorem jVL (hn:2≤n) {sv:AV} (H:HS g h L) (s:bp L (qk b (Mb x sv)) R):aH n 376 [.ptr b 0] h λr h'=>r=.int .i64 x.p.ch∧h'=h:=by
 refine aG rfl omQ λk hk=>?_;unfold S376;try simp only
 refine qG (qQ (qW (SU omQ H s) ?_));rintro _ _ ⟨rfl,rfl⟩;exact qY ⟨rfl,rfl⟩
theorem OE (hn:3≤n) {sv:AV} (H:HS g h L) (s:bp L (qk b (Mb x sv)) R):aH n 150 [.ptr b 0] h λr h'=>r=.int .u64 (yt x)∧h'=h:=by
 refine aG rfl omQ λk hk=>?_;unfold S150;try simp only[iZ]
 refine qW (qWh omQ H s) ?_;rintro _ _ ⟨rfl,rfl⟩;unfold yt;by_cases c:x.p.fin=2
 ·refine jB c ?_;rw[iQ (λh=>h c)];refine qJ (qG (qQ ?_));exact qK H s rfl (qY ⟨rfl,rfl⟩)
 ·refine jg c ?_;rw[iJ c];refine qZ<|qY ⟨rfl,rfl⟩
theorem qxt (hn:2≤n) (O:MX x) (H:HS g h (cC b x::R)):aH n 377 [.ptr b 0] h λr h'=>r=ua (ko x)∧HS g h' (cC b x::R):=by
 refine aG rfl omQ λk hk=>?_;unfold S377;try simp only[iZ]
 obtain⟨sv,H⟩:=cC.E H;refine qM H rfl λb0 h1 H1=>?_;refine qG (qQ (qW (Y6 omQ H1 e_1) ?_));rintro _ _ ⟨rfl,rfl⟩;unfold ko;have H2:=H1;unfold Mb vQ at H2;by_cases c:x.p.fin=0
 ·refine jB c ?_;rw[iQ (λh=>h c)];refine qJ (qG (qQ (qK ‹_› e_1 rfl ?_)));cases hl:x.aR with
  |false=>rw[iJ rfl];refine je (qZ (qI rfl ?_));refine qe H1 .here rfl (by simp) rfl λh3 H3=>?_;refine qD H3 .here rfl omQ rfl<|qY ⟨rfl,cC.I H3.drop⟩
  |true=>rw[iQ aW];refine jR (qJ (qG (qQ (qK ‹_› e_1 rfl ?_))));refine qG (qQ (qK ‹_› e_1 rfl ?_));have dY:=O.lX c hl;have dI:=O.lo;obtain⟨k,hk⟩:∃k:Nat,x.at_=k:=⟨x.at_.toNat,by omega⟩;rw[hk]at dY ⊢;refine yo (H1.sl e_2) omQ omQ (XZ omQ).1<|qI rfl<|qe H1 .here rfl (by simp) rfl λh3 H3=>?_;refine qD H3 .here rfl omQ rfl<|qY ⟨rfl,cC.I H3.drop⟩
 ·refine jg c ?_;rw[iJ c];refine qZ (qI rfl ?_);refine qe H1 .here rfl (by simp) rfl λh3 H3=>?_;refine qD H3 .here rfl omQ rfl<|qY ⟨rfl,cC.I H3.drop⟩
theorem Yl {p:Ja} {a:cE} (hs:(jL p a).1=false):(jL p a).2=p∧p.fin=0:=by
 unfold jL at hs ⊢
 grind
theorem qk2 {a:cE} (hn:3≤n) (O:MX x) (H:HS g h (cC b x::R)):aH n 378 [.ptr b 0,.agg (xi a)] h λ_ h'=>HS g h' (cC b (zw x a)::R):=by
 refine bw rfl omQ λk hk=>?_;unfold S378;try simp only[iZ]
 generalize hF:zw x a=F;obtain⟨sv,H⟩:=cC.E H;refine qM H rfl λb0 h1 H1=>?_;refine zv [] (λs h'=>s=(.ptr b 0,())∧∃y,F=kB y∧y.seen.length≤16∧HS g h' (cC b y::R)) (λj hj=>?_) ?_
 rotate_left
 ·rintro s h2 ⟨rfl,y,rfl,hy,H2⟩;obtain⟨sv,H2⟩:=cC.E H2;have H3:=H2;unfold Mb vQ at H3;unfold kB;refine qG (qQ (qK ‹_› .here rfl ?_));refine qG (qQ (qK ‹_› .here rfl ?_));refine qu ‹_› e_1 ?_;by_cases c:y.at_=(y.seen.length:Int)
  ·refine qz c ?_;rw[iJ c];refine qZ (qG (qQ (qW (wu omQ H2) λ_ h4 H4=>?_)));refine qx<|qY (cC.I H4)
  ·refine qV c ?_;rw[iQ c];refine qJ (qx ?_);exact qY (cC.I H2)
 refine qG (qQ (qD H1 .here rfl omQ rfl ?_));refine qW (Yk omQ (H1.aM e_1)) ?_;rintro _ h2 ⟨rfl,H2⟩;unfold zw at hF;cases hs:(jL x.p a).1 with
 |true=>rw[iJ hs]at hF;subst hF;refine qZ<|qY (cC.I (sv:=sv) (H2.pk [0,1] 1))
 |false=>
  rw[iQ (by grind)]at hF;have tp:=Yl hs;rw[tp.1]at H2;have H3:HS g h2 (qk b (Mb x sv)::qk b0 (xi a)::aa 129 2 x.seen.length sv (x.seen.flatMap gk)::R):=H2;have H4:=H3;unfold Mb vQ xi at H4;have dI:=O.lo;have mH:=O.hi;have hlen:=O.len;refine qJ (qG (qQ (qK ‹_› .here rfl ?_)));cases hl:x.aR with
  |false=>
   rw[iJ hl]at hF;refine je (qZ (qX ?_));refine qQ (qK ‹_› e_1 rfl ?_);refine qG (qQ ?_)
   refine qw H4 .here ⟨rfl,rfl⟩ aW λh5 H5=>?_;refine qG (qQ (qw H5 .here ⟨rfl,rfl⟩ aW λh6 H6=>?_));refine qT ‹_› e_1 rfl ‹_› e_1 rfl (HS.lt ‹_› e_1)<|hj _ _ ⟨rfl,{ x with aR:=true,ad:=a.word },hF.symm,hlen,cC.I (sv:=sv) (H6.pk [0,1] 1)⟩
  |true=>
   rw[iQ (by grind)]at hF;refine jR (qJ (qQ (qo (qK H4 e_1 rfl ?_))));cases hd:a.lk.2.1 with
   |true=>
    rw[iJ hd]at hF;refine qZ (qX ?_);refine qG (qQ (qQ ?_))
    refine qD H4 e_1 rfl omQ rfl<|qW (Um omQ (O.p tp.2) H3) ?_;rintro _ h5 ⟨rfl,H5⟩;cases hw:(jA x.p a.lk).1 with
    |true=>rw[iJ hw]at hF;subst hF;refine jR (qJ (qx ?_));exact qY (cC.I (sv:=sv) (H5.pk [0,1] 1))
    |false=>rw[iQ (by grind)]at hF;subst hF;have H6:=H5;unfold xi at H6;refine je (qZ (qG (qQ (qQ (qo (qK H6 e_1 rfl ?_))))));refine qW (wu omQ H5) λ_ h7 H7=>?_;refine qx<|qY (cC.I (sv:=sv) (H7.pk [0,1] 1))
   |false=>
    rw[iQ (by grind)]at hF;refine qJ (qQ (qo (qK H4 e_1 rfl ?_)));refine qG (qQ (qK ‹_› .here rfl ?_));refine qG (qQ (qK ‹_› .here rfl ?_));have dY:=O.lX tp.2 hl;obtain⟨k,hk⟩:∃k:Nat,x.at_=k:=⟨x.at_.toNat,by omega⟩;rw[hk]at dY ⊢;rw[hk]at hF;refine yo (H3.sl e_2) omQ omQ (XZ omQ).2 ?_;by_cases c:a.lk.1=(jZ x.seen k).2
    ·refine jB c ?_;rw[iQ (λh=>h c)]at hF;refine qJ (qG (qQ (qK ‹_› .here rfl ?_)));refine qa omQ<|qG (qQ ?_);rw[hk]
     skip
     refine qw H4 .here ⟨rfl,rfl⟩ aW λh5 H5=>?_;exact hj _ _ ⟨rfl,{ x with at_:=(k:Int)+1 },hF.symm,hlen,cC.I (sv:=sv) (H5.pk [0,1] 1)⟩
    ·refine jg c ?_;rw[iJ c,← hk]at hF;subst hF;refine qZ (qG (qQ (qW (wu omQ H3) λ_ h7 H7=>?_)));exact qY (cC.I (sv:=sv) (H7.pk [0,1] 1))
end
end
section
variable {g h:AH} {L R:List SP}
structure ComL (c:q9):Prop where
  seen:c.seen.length≤16
  cells:c.cells.length≤1000
  s:c.s.length≤16
  aw:c.aw.length≤c.s.length
  pos:0<c.s.length
  cZ:c.s.Pairwise (· < ·)
  lo:0≤c.at_
  hi:c.at_≤1000
  now:0≤c.now∧c.now<9223372036854775807
def zF (fin af state at_ now bf:Int) (sl cl tl wl:Nat):Prop :=
 (sl≤16∧cl≤1000∧tl≤16∧wl≤tl∧0<tl∧0≤at_∧at_≤1000∧0≤now∧now<9223372036854775807∧0≤state∧state≤7)∧(fin=0→state≤6→0≤af∧af≤4)∧(fin=0→state≤1→wl<tl)∧(state≤4→at_≤sl)∧
 (2≤state→state≤6→wl=tl)∧(fin=0→state=4→at_<sl)∧(fin=0→state=5→at_<cl)∧(fin=0→state=6→at_<tl)∧(fin=0→state=7→at_<wl)∧(state=7→bf≠0)
structure xH (c:q9):Prop where
  cZ:c.s.Pairwise (· < ·)
  ar:zF c.p.fin c.p.af c.state c.at_ c.now c.bf c.seen.length c.cells.length c.s.length c.aw.length
section
variable {c:q9} (O:xH c)
include O
theorem xH.toComL:ComL c:=by have h:=O.ar;unfold zF at h;exact⟨by omega,by omega,by omega,by omega,by omega,O.cZ,by omega,by omega,by omega⟩
theorem xH.p (hg:c.p.fin=0) (hs:c.state≤6):0≤c.p.af∧c.p.af≤4:=by have h:=O.ar;grind[zF]
theorem xH.hY (hg:c.p.fin=0) (hs:c.state≤1):c.aw.length<c.s.length:=by have h:=O.ar;grind[zF]
theorem xH.Lx (h1:2≤c.state) (h2:c.state≤4):c.aw.length=c.s.length∧c.at_≤c.seen.length:=by have h:=O.ar;grind[zF]
theorem xH.A3 (hg:c.p.fin=0) (hs:c.state=4):c.at_<c.seen.length:=by have h:=O.ar;grind[zF]
theorem xH.FH (hg:c.p.fin=0) (hs:c.state=5):c.at_<c.cells.length:=by have h:=O.ar;grind[zF]
theorem xH.FI (hg:c.p.fin=0) (hs:c.state=6):c.at_<c.s.length:=by have h:=O.ar;grind[zF]
theorem xH.Dn (hg:c.p.fin=0) (hs:c.state=7):c.at_<c.aw.length:=by have h:=O.ar;grind[zF]
theorem xH.st:0≤c.state∧c.state≤7:=by have h:=O.ar;grind[zF]
theorem xH.s:c.s.length≤16:=O.toComL.s
theorem xH.aw:c.aw.length≤c.s.length:=O.toComL.aw
theorem xH.seen:c.seen.length≤16:=O.toComL.seen
theorem xH.lo:0≤c.at_:=O.toComL.lo
theorem xH.hi:c.at_≤1000:=O.toComL.hi
theorem xH.now:0≤c.now∧c.now<9223372036854775807:=O.toComL.now
end
theorem qgH:∀{s:List Int} {aw:List cK} {x:Int},s.Pairwise (· < ·)→aw.length=s.length→QS s aw x=if x∈s then some (qP aw (s.countP (· <x):Nat)).1 else none:=by
 intro s
 induction s with
 |nil=>intro aw x _ _;rfl
 |cons y s ih=>
  intro aw x hp hl;cases aw with
  |nil=>grind
  |cons w aw=>
   have h1:=List.pairwise_cons.1 hp;unfold QS;by_cases e:y=x
   ·subst e;rw[iJ rfl,iJ (iK ..),List.countP_cons,List.countP_eq_zero.2 (λa ha=>by grind),iV omQ];rfl
   ·rw[iQ e,ih h1.2 (by grind)];by_cases hm:x∈s
    ·simp_all[iG,qP]
    grind
theorem jZU {s:List Int} {x:Int} (_:s.Pairwise (· < ·)) (h:x∈s):s.countP (· <x)<s.length:=by
 grind[Nat.lt_or_ge,List.countP_eq_length,Nat.le_antisymm,List.countP_le_length]
def Jc (c:q9) (sv cv tv wv:AV):List AV:=vQ c.p [.int .i64 c.me,.int .u64 c.ad,sv,cv,tv,wv,.int .i64 c.state,.int .i64 c.at_,.int .u64 c.lk.1,.bool c.lk.2.1,.int .i64 c.lk.2.2,.int .u64 c.now,.bool c.writing,.int .i64 c.bf,.int .i64 c.iP,.int .i64 c.fX]
def aF (b:Nat) (c:q9):SP:=.ex λq:AV×AV×AV×AV=>.all [qk b (Jc c q.1 q.2.1 q.2.2.1 q.2.2.2),aa 129 2 c.seen.length q.1 (c.seen.flatMap gk),aa 177 2 c.cells.length q.2.1 (c.cells.flatMap jn),
 aa 3 1 c.s.length q.2.2.1 (c.s.map (.int .i64)),aa 70 3 c.aw.length q.2.2.2 (c.aw.flatMap zh)]
section
variable {n b:Nat} {c:q9} {sv cv tv wv:AV}
theorem aF.E (H:HS g h (aF b c::R)):∃sv cv tv wv,HS g h (qk b (Jc c sv cv tv wv)::aa 129 2 c.seen.length sv (c.seen.flatMap gk)::aa 177 2 c.cells.length cv (c.cells.flatMap jn)::
  aa 3 1 c.s.length tv (c.s.map (.int .i64))::aa 70 3 c.aw.length wv (c.aw.flatMap zh)::R):=by
 obtain⟨⟨sv,cv,tv,wv⟩,H⟩:=H.fh;exact⟨sv,cv,tv,wv,H.cI⟩
theorem aF.I (H:HS g h (qk b (Jc c sv cv tv wv)::aa 129 2 c.seen.length sv (c.seen.flatMap gk)::aa 177 2 c.cells.length cv (c.cells.flatMap jn)::
  aa 3 1 c.s.length tv (c.s.map (.int .i64))::aa 70 3 c.aw.length wv (c.aw.flatMap zh)::R)):HS g h (aF b c::R):=HS.fH (sv,cv,tv,wv) H.allI
theorem qXU (hn:2≤n) (H:HS g h (aF b c::R)):aH n 387 [.ptr b 0] h λ_ h'=>HS g h' (aF b (zg c)::R):=by
 refine aG rfl omQ λk hk=>?_;unfold S387;try simp only[iZ]
 obtain⟨sv,cv,tv,wv,H⟩:=aF.E H;have H1:=H;unfold Jc vQ at H1;unfold zg;refine qG (qQ (qK ‹_› .here rfl ?_));refine qG (qQ (qK ‹_› .here rfl ?_));refine qu ‹_› e_3 ?_;by_cases c0:c.at_=(c.s.length:Int)
 ·refine qz c0 ?_;rw[iJ c0];refine qZ (qG (qQ (qW (wu omQ H) λ_ h2 H2=>?_)));exact qY (aF.I H2)
 ·refine qV c0 ?_;rw[iQ c0];refine qJ<|qY (aF.I H)
theorem Zx (hn:3≤n) (H:HS g h (aF b c::R)):aH n 386 [.ptr b 0] h λ_ h'=>HS g h' (aF b (jo c)::R):=by
 refine aG rfl omQ λk hk=>?_;unfold S386;try simp only[iZ]
 obtain⟨sv,cv,tv,wv,H⟩:=aF.E H;have H1:=H;unfold Jc vQ at H1;unfold jo;refine qG (qQ (qK ‹_› .here rfl ?_));refine qG (qQ (qK ‹_› .here rfl ?_));refine qu ‹_› e_2 ?_;by_cases c0:c.at_=(c.cells.length:Int)
 ·refine qz c0 ?_;rw[iJ c0];refine qZ (qG (qQ (qw H1 .here ⟨rfl,rfl⟩ aW λh2 H2=>?_)));refine qG (qQ (qw H2 .here ⟨rfl,rfl⟩ aW λh3 H3=>?_));refine qW (qXU omQ (aF.I H3)) λ_ h4 H4=>qY H4
 ·refine qV c0 ?_;rw[iQ c0];refine qJ<|qY (aF.I H)
theorem Oe (hn:4≤n) (H:HS g h (aF b c::R)):aH n 382 [.ptr b 0] h λ_ h'=>HS g h' (aF b (zj c)::R):=by
 refine aG rfl omQ λk hk=>?_;unfold S382;try simp only[iZ]
 obtain⟨sv,cv,tv,wv,H⟩:=aF.E H;unfold Jc vQ at H;refine qG (qQ (qw H .here ⟨rfl,rfl⟩ aW λh2 H2=>?_));refine qG (qQ (qw H2 .here ⟨rfl,rfl⟩ aW λh3 H3=>?_));refine qG (qQ (qw H3 .here ⟨rfl,rfl⟩ aW λh4 H4=>?_));refine qW (Zx omQ (aF.I H4)) λ_ h5 H5=>qY H5
theorem OI (hn:2≤n) (H:HS g h (aF b c::R)):aH n 388 [.ptr b 0] h λ_ h'=>HS g h' (aF b (zc c)::R):=by
 refine aG rfl omQ λk hk=>?_;unfold S388;try simp only
 obtain⟨sv,cv,tv,wv,H⟩:=aF.E H;have H1:=H;unfold Jc vQ at H1;unfold zc;refine qG (qQ (qK ‹_› .here rfl ?_));refine qG (qQ (qK ‹_› .here rfl ?_));refine qu ‹_› e_4 ?_;by_cases c0:c.at_=(c.aw.length:Int)
 ·refine qz c0 ?_;rw[iJ c0];refine qZ (qG (qQ (qG (qQ (qK ‹_› .here rfl ?_)))));refine qG (qQ (qK ‹_› .here rfl ?_));refine qG (qQ (qK ‹_› .here rfl ?_));refine qW (wu omQ H) λ_ h2 H2=>?_;exact qY (aF.I H2)
 ·refine qV c0 ?_;rw[iQ c0];refine qJ<|qY (aF.I H)
theorem Kl {f e y:Int} (hn:3≤n) (H:HS g h (aF b c::R)):aH n 390 [.ptr b 0,.int .i64 f,.int .i64 e,.int .i64 y] h λ_ h'=>HS g h' (aF b (jN c f e y)::R):=by
 refine sX rfl omQ λk hk=>?_;unfold S390;try simp only[iZ]
 obtain⟨sv,cv,tv,wv,H⟩:=aF.E H;unfold Jc vQ at H;refine qG (qQ (qw H .here ⟨rfl,rfl⟩ aW λh2 H2=>?_));refine qG (qQ (qw H2 .here ⟨rfl,rfl⟩ aW λh3 H3=>?_));refine qG (qQ (qw H3 .here ⟨rfl,rfl⟩ aW λh4 H4=>?_));refine qG (qQ (qw H4 .here ⟨rfl,rfl⟩ aW λh5 H5=>?_));refine qG (qQ (qw H5 .here ⟨rfl,rfl⟩ aW λh6 H6=>?_));refine qW (OI omQ (aF.I H6)) λ_ h5 H5=>qY H5
theorem qKI (hn:1≤n) (H:HS g h (aF b c::R)):aH n 148 [.ptr b 0] h λ_ h'=>HS g h' (aF b (ju c)::R):=by
 refine aG rfl omQ λk hk=>?_;unfold S148;try simp only[iZ]
 obtain⟨sv,cv,tv,wv,H⟩:=aF.E H;unfold Jc vQ at H;unfold ju;refine qG (qQ (qw H .here ⟨rfl,rfl⟩ aW λh2 H2=>?_));refine qG (qQ (qK ‹_› .here rfl ?_));refine qu ‹_› e_4<|qG (qQ (qK ‹_› .here rfl ?_));refine qu ‹_› e_3 ?_;by_cases c0:c.aw.length=c.s.length
 ·refine qz omQ ?_;rw[iJ c0];refine qZ (qG (qQ (qw H2 .here ⟨rfl,rfl⟩ aW λh3 H3=>?_)));exact qY (aF.I H3)
 ·refine qV omQ ?_;rw[iQ c0];refine qJ<|qY (aF.I H2)
theorem qJs {l:cK} (hn:4≤n) (hp:0≤c.p.af∧c.p.af≤4) (H:HS g h (aF b c::R)):aH n 389 [.ptr b 0,.agg (zh l)] h λ_ h'=>HS g h' (aF b (zx c l)::R):=by
 refine bw rfl omQ λk hk=>?_;unfold S389;try simp only[iZ]
 obtain⟨sv,cv,tv,wv,H⟩:=aF.E H;refine qM H rfl λb0 h1 H1=>?_;unfold zx;refine qG (qQ (qD H1 .here rfl omQ rfl ?_));refine qW (Um omQ hp (H1.aM e_1)) ?_;rintro _ h2 ⟨rfl,H2⟩;have H3:HS g h2 (aF b { c with p:=(jA c.p l).2 }::qk b0 (zh l)::R):=aF.I (sv:=sv) (cv:=cv) (tv:=tv) (wv:=wv) (H2.pk [0,1,1,1,1] 0);cases hw:(jA c.p l).1 with
 |true=>rw[iJ rfl];refine jR (qJ ?_);exact qY (H3.pk [0] 1)
 |false=>rw[iQ aW];unfold zh at H3;refine je (qZ (qQ (qK ‹_› e_1 rfl ?_)));refine qW (Kl omQ H3) λ_ h4 H4=>?_;exact qY (H4.pk [0] 1)
theorem ZC (hn:5≤n) (O:ComL c) (hw:c.aw.length=c.s.length) (ha:c.at_≤c.seen.length) (H:HS g h (aF b c::R)):aH n 391 [.ptr b 0] h λ_ h'=>HS g h' (aF b (xF c)::R):=by
 refine aG rfl omQ λk hk=>?_;unfold S391;try simp only[iZ]
 generalize hF:xF c=F;unfold xF at hF;obtain⟨sv,cv,tv,wv,H⟩:=aF.E H;unfold Jc vQ at H;have l1:=O.seen;have l2:=O.s;have l3:=O.pos;have l4:=O.lo;refine qG (qQ (qw H .here ⟨rfl,rfl⟩ aW λh2 H2=>?_));have H2:HS g h2 (aF b { c with state:=4 }::R):=aF.I H2;refine jS (λm s h'=>s=(.ptr b 0,())∧∃a:Int,ja { c with state:=4,at_:=a } m=F∧0≤a∧a≤c.seen.length∧c.seen.length<a+m∧HS g h' (aF b { c with state:=4,at_:=a }::R))
  ?_ (by grind) ⟨rfl,c.at_,hF,l4,ha,by omega,H2⟩
 clear H H2 hF;rintro m ih s h3 bN ⟨rfl,a,hF,Ly,ha,hm,H⟩;obtain⟨m,rfl⟩:∃k,m=k+1:=⟨m-1,by omega⟩;unfold ja at hF;dsimp only at hF;obtain⟨sv,cv,tv,wv,H⟩:=aF.E H;have H1:=H;unfold Jc vQ at H1;dsimp only at H1;refine qG (qQ (qK ‹_› .here rfl ?_));refine qG (qQ (qK ‹_› .here rfl ?_));refine qu ‹_› e_1 ?_;by_cases ax:a<c.seen.length
 ·refine jc ax ?_;rw[iJ ax]at hF;obtain⟨k,rfl⟩:∃k:Nat,a=k:=⟨a.toNat,by omega⟩;refine qZ (qG (qQ (qK ‹_› .here rfl ?_)));refine qG (qQ (qK ‹_› .here rfl ?_));refine qG (qQ (qK ‹_› .here rfl ?_));refine yo (H.sl e_1) omQ (by grind) (XZ (by grind)).1<|qW (qyU omQ H1 e_3 l3 omQ (O.cZ.imp λh=>by omega)) ?_;rintro _ _ ⟨rfl,rfl⟩;rw[qgH O.cZ hw]at hF;by_cases hc:(jZ c.seen k).1∈c.s
  ·rw[iJ hc]at hF;dsimp only at hF;rw[show c.s.contains (jZ c.seen k).1=true from List.contains_iff_mem.2 hc];have Lk:=jZU O.cZ hc;refine qy rfl<|qy rfl<|jR (qJ (qG (qQ (qK ‹_› .here rfl ?_))));refine yo (x:=.int .u64 (qP c.aw (c.s.countP (· <(jZ c.seen k).1):Nat)).1) (H.sl e_4) omQ (Nat.lt_of_lt_of_eq Lk hw.symm) ?_ ?_
   ·have:=congrArg (·[0]?) (Z7 (l:=c.aw) (k:=c.s.countP (· <(jZ c.seen k).1)) omQ);simp only[List.getElem?_take_of_lt (show 0<3 by omega),List.getElem?_drop]at this;trivial
   refine qG (qQ (qK ‹_› .here rfl ?_));refine qG (qQ (qK ‹_› .here rfl ?_));refine yo (H.sl e_1) omQ (by grind) (XZ (by grind)).2 ?_;by_cases hv:(qP c.aw (c.s.countP (· <(jZ c.seen k).1):Nat)).1=(jZ c.seen k).2
   ·refine jB hv ?_;rw[iQ (λh=>h hv)]at hF;refine qJ (qG (qQ (qK ‹_› .here rfl ?_)));refine qa omQ<|qG (qQ (qw H1 (b:=b) .here ⟨rfl,rfl⟩ aW λh4 H4=>?_));exact bN m _ _ omQ ⟨rfl,(k:Int)+1,hF,by omega,by omega,by omega,aF.I (c:={ c with state:=4,at_:=(k:Int)+1 }) H4⟩
   ·refine jg hv ?_;rw[iJ hv]at hF;subst hF;refine qZ (qW (Kl omQ (aF.I H)) λ_ h4 H4=>?_);refine qx<|qY H4
  ·rw[iQ hc]at hF;dsimp only at hF;subst hF;rw[show c.s.contains (jZ c.seen k).1=false from by grind];refine qy rfl<|qy rfl<|je (qZ (qx ?_));exact qY (aF.I H)
 ·refine jH ax ?_;rw[iQ ax]at hF;subst hF;refine qJ (qW (Oe omQ (aF.I H)) λ_ h4 H4=>?_);refine qx<|qY H4
end
end
section
variable {g h:AH} {L R:List SP}
section
variable {n b:Nat} {c:q9} {sv cv tv wv:AV} {a:cE}
theorem qGF {l:cK} (hn:6≤n) (O:xH c) (hg:c.p.fin=0) (h4:c.state=4) (H:HS g h (aF b c::R)):aH n 385 [.ptr b 0,.agg (zh l)] h λ_ h'=>HS g h' (aF b (xI c l)::R):=by
 refine bw rfl omQ λk hk=>?_;unfold S385;try simp only[iZ]
 generalize hF:xI c l=F;refine qM H rfl λb0 h1 H1=>?_;refine zv [] (λ_ h'=>HS g h' (aF b F::R)) (λj hj=>?_) λ_ h' H'=>?_
 rotate_left
 ·refine qx<|qY H'
 unfold xI at hF;have H2:=H1;unfold zh at H2;refine qQ (qK ‹_› .here rfl ?_);cases hd:l.2.1 with
 |true=>rw[iJ hd]at hF;subst hF;refine qZ (qD H1 .here rfl omQ rfl ?_);refine qW (qJs omQ (O.p hg omQ) (H1.aM e_1)) λ_ h3 H3=>?_;exact hj _ _ (H3.pk [0] 1)
 |false=>
  rw[iQ (by grind)]at hF;obtain⟨sv,cv,tv,wv,H3⟩:=aF.E (H2.aM e_1);have H4:=H3;unfold Jc vQ at H4;have ax:=O.A3 hg h4;have dI:=O.lo;have l1:=O.seen;obtain⟨k,hk⟩:∃k:Nat,c.at_=k:=⟨c.at_.toNat,by omega⟩;refine qJ (qQ (qK ‹_› e_5 rfl ?_));refine qG (qQ (qK ‹_› .here rfl ?_));refine qG (qQ (qK ‹_› .here rfl ?_));rw[hk]at hF ax ⊢;refine yo (H3.sl e_1) omQ omQ (XZ omQ).2 ?_;by_cases c0:l.1=(jZ c.seen k).2
  ·refine jB c0 ?_;rw[iQ (λh=>h c0)]at hF;subst hF;refine qJ (qG (qQ (qK ‹_› .here rfl ?_)));refine qa omQ<|qG (qQ ?_);rw[hk]
   skip
   refine qw H4 (b:=b) .here ⟨rfl,rfl⟩ aW λh5 H5=>?_;refine qW (ZC (c:={ c with at_:=(k:Int)+1 }) omQ { O.toComL with lo:=(by grind),hi:=(by grind) } (O.Lx omQ omQ).1 (by grind) (aF.I H5)) λ_ h6 H6=>?_;exact hj _ _ (H6.pk [0] 1)
  ·refine jg c0 ?_;rw[iJ c0]at hF;subst hF;refine qZ (qW (Kl omQ (aF.I H3)) λ_ h6 H6=>?_);exact hj _ _ (H6.pk [0] 1)
theorem qZL (hn:5≤n) (O:xH c) (hg:c.p.fin=0) (H:HS g h (aF b c::R)):aH n 383 [.ptr b 0,.agg (xi a)] h λ_ h'=>HS g h' (aF b (yH c a)::R):=by
 refine bw rfl omQ λk hk=>?_;unfold S383;try simp only[iZ]
 generalize hF:yH c a=F;refine qM H rfl λb0 h1 H1=>?_;refine zv [] (λ_ h'=>HS g h' (aF b F::R)) (λj hj=>?_) λ_ h' H'=>?_
 rotate_left
 ·refine qx<|qY H'
 unfold yH at hF;obtain⟨sv,cv,tv,wv,H2⟩:=aF.E (H1.aM e_1);have H3:=H2;unfold Jc vQ xi at H3;have l1:=O.s;have l2:=O.aw;refine qG (qQ (qK ‹_› .here rfl ?_));by_cases c0:c.state=0
 ·refine qz c0<|qX<|qb<|qQ ?_
  refine qo (qK H3 e_5 rfl ?_);cases hd:a.lk.2.1 with
  |true=>rw[iJ ⟨c0,hd⟩]at hF;subst hF;refine qB (qZ (qQ (qD H1 .here rfl omQ rfl ?_)));refine qW (qJs omQ (O.p hg omQ) (H1.aM e_1)) λ_ h3 H3=>?_;exact hj _ _ (H3.pk [0] 1)
  |false=>rw[iQ (λh=>by grind),iJ c0]at hF;subst hF;refine qB (qJ (qG (qQ (qK ‹_› .here rfl ?_))));refine qz omQ<|qZ (qQ (qD H1 .here rfl omQ rfl ?_));refine qG (qQ (qe H3 .here rfl (by simp) rfl λh5 H5=>?_));refine qG (qQ (qw H5 .here ⟨rfl,rfl⟩ (by simp[Jz]) λh6 H6=>?_));have H7:HS g h6 (aF b { c with lk:=a.lk,state:=1 }::qk b0 (xi a)::R):=aF.I (sv:=sv) (cv:=cv) (tv:=tv) (wv:=wv) H6;exact hj _ _ (H7.pk [0] 1)
 ·refine qV c0 ?_;rw[iQ (λh=>c0 h.1),iQ c0]at hF;refine qX<|qS<|qH (qJ (qG (qQ (qK ‹_› .here rfl ?_))));refine qV omQ<|qJ (qQ (qK ‹_› e_5 rfl ?_))
  cases hd:a.done with
  |true=>
   rw[iJ hd]at hF;subst hF;refine qZ (qG (qQ (qK ‹_› .here rfl ?_)));refine qG (qQ (qD H3 .here rfl omQ rfl ?_));refine qh H3 rfl rfl rfl rfl λv2 h5 H5=>?_;refine zX (H5.aM e_5) (H5.sl .here) omQ omQ rfl λv3 h6 H6=>?_;have o6:=H6.one .here;refine qG (qQ (qw H6 e_2 o6 aW λh7 H7=>?_));have H8:HS g h7 (aF b { c with aw:=c.aw++[c.lk] }::qk b0 (xi a)::R):=by refine aF.I (sv:=sv) (cv:=cv) (tv:=tv) (wv:=v3) ?_;rw[List.length_append,List.flatMap_append];exact H7.pk [0,2,2,2,0] 1
   refine qW (qKI omQ H8) λ_ h9 H9=>?_;exact hj _ _ (H9.pk [0] 1)
  |false=>rw[iQ (by grind)]at hF;subst hF;refine qJ (qG (qQ (qw H3 .here ⟨rfl,rfl⟩ aW λh6 H6=>?_)));have H7:HS g h6 (aF b { c with state:=0 }::qk b0 (xi a)::R):=aF.I (sv:=sv) (cv:=cv) (tv:=tv) (wv:=wv) H6;exact hj _ _ (H7.pk [0] 1)
theorem ZW (hn:6≤n) (O:xH c) (sZ:c.state=2∨c.state=3) (H:HS g h (aF b c::R)):aH n 384 [.ptr b 0,.agg (xi a)] h λ_ h'=>HS g h' (aF b (xe c a)::R):=by
 refine bw rfl omQ λk hk=>?_;unfold S384;try simp only[iZ]
 generalize hF:xe c a=F;refine qM H rfl λb0 h1 H1=>?_;refine zv [] (λ_ h'=>HS g h' (aF b F::R)) (λj hj=>?_) λ_ h' H'=>?_
 rotate_left
 ·refine qx<|qY H'
 unfold xe at hF;obtain⟨sv,cv,tv,wv,H2⟩:=aF.E (H1.aM e_1);have H3:=H2;unfold Jc vQ xi at H3;refine qG (qQ (qK ‹_› .here rfl ?_));by_cases c0:c.state=2
 ·refine qz c0<|qX<|qb<|qQ (qK ‹_› e_5 rfl ?_)
  by_cases c1:4611686018427387903≤a.word
  ·refine z8 omQ ?_;rw[iJ ⟨c0,c1⟩]at hF;subst hF;refine qB (qZ (qW (Kl omQ (aF.I H2)) λ_ h6 H6=>?_));exact hj _ _ (H6.pk [0] 1)
  ·refine z7 omQ ?_;rw[iQ (λh=>c1 h.2),iJ c0]at hF;subst hF;refine qB (qJ (qG (qQ (qK ‹_› .here rfl ?_))));refine qz omQ<|qZ (qQ (qK ‹_› e_5 rfl ?_));refine qG (qQ (qw H3 .here ⟨rfl,rfl⟩ aW λh6 H6=>?_));refine qG (qQ (qw H6 .here ⟨rfl,rfl⟩ aW λh7 H7=>?_));have H8:HS g h7 (aF b { c with now:=a.word,state:=3 }::qk b0 (xi a)::R):=aF.I (sv:=sv) (cv:=cv) (tv:=tv) (wv:=wv) H7;exact hj _ _ (H8.pk [0] 1)
 ·refine qV c0 ?_;rw[iQ (λh=>c0 h.1),iQ c0]at hF;have h3:=O.Lx omQ omQ;refine qX<|qS<|qH (qJ (qG (qQ (qK ‹_› .here rfl ?_))));refine qV omQ<|qJ (qQ (qK ‹_› e_5 rfl ?_))
  cases hd:a.done with
  |false=>rw[iJ hd]at hF;subst hF;refine je (qZ (qG (qQ (qw H3 .here ⟨rfl,rfl⟩ aW λh6 H6=>?_))));have H7:HS g h6 (aF b { c with state:=2 }::qk b0 (xi a)::R):=aF.I (sv:=sv) (cv:=cv) (tv:=tv) (wv:=wv) H6;exact hj _ _ (H7.pk [0] 1)
  |true=>
   rw[iQ (by grind)]at hF;refine jR (qJ (qG (qQ (qK ‹_› .here rfl ?_))));refine qG (qQ (qK ‹_› .here rfl ?_));by_cases c1:c.now=c.ad
   ·refine qz c1 ?_;rw[iJ c1]at hF;subst hF;refine qZ (qW (Oe omQ (aF.I H2)) λ_ h6 H6=>?_);exact hj _ _ (H6.pk [0] 1)
   ·refine qV c1 ?_;rw[iQ c1]at hF;subst hF;refine qJ (qW (ZC omQ O.toComL h3.1 h3.2 (aF.I H2)) λ_ h6 H6=>?_);exact hj _ _ (H6.pk [0] 1)
theorem qya (hn:7≤n) (O:xH c) (H:HS g h (aF b c::R)):aH n 381 [.ptr b 0,.agg (xi a)] h λ_ h'=>HS g h' (aF b (qn c a)::R):=by
 refine bw rfl omQ λk hk=>?_;unfold S381;try simp only[iZ]
 generalize hF:qn c a=F;refine qM H rfl λb0 h1 H1=>?_;obtain⟨sv,cv,tv,wv,H2⟩:=aF.E (H1.aM e_1);have dI:=O.lo;have mH:=O.hi;have cd:=O.st;unfold qn at hF;refine qG (qQ (qD H1 .here rfl omQ rfl ?_));refine qW (Yk omQ H2) ?_;rintro _ h2 ⟨rfl,H3⟩;cases hs:(jL c.p a).1 with
 |true=>rw[iJ hs]at hF;subst hF;refine qZ ?_;have H4:HS g h2 (aF b { c with p:=(jL c.p a).2 }::qk b0 (xi a)::R):=aF.I (sv:=sv) (cv:=cv) (tv:=tv) (wv:=wv) H3;exact qY (H4.pk [0] 1)
 |false=>
  rw[iQ (by grind)]at hF;have tp:=Yl hs;rw[tp.1]at H3;have hg:=tp.2;clear H1 H2 H tp hs;have H2:HS g h2 (aF b c::qk b0 (xi a)::R):=aF.I (sv:=sv) (cv:=cv) (tv:=tv) (wv:=wv) H3
  have H4:HS g h2 (qk b (Jc c sv cv tv wv)::aa 129 2 c.seen.length sv (c.seen.flatMap gk)::aa 177 2 c.cells.length cv (c.cells.flatMap jn)::
   aa 3 1 c.s.length tv (c.s.map (.int .i64))::aa 70 3 c.aw.length wv (c.aw.flatMap zh)::qk b0 (xi a)::R):=H3
  unfold Jc vQ at H4;refine qJ (qG (qo (qK H4 .here rfl ?_)));refine zv [] (λ_ h'=>HS g h' (aF b F::R)) (λj hj=>?_) λ_ h' H'=>?_
  rotate_left
  ·refine qx<|qY H'
  by_cases c0:c.state=0∨c.state=1
  ·rw[iJ c0]at hF;subst hF;rcases c0 with c0 |c0
   ·refine qX<|qz omQ<|qZ (qZ ?_)
    refine qD H3 e_5 rfl omQ rfl<|qW (qZL omQ O hg H2) λ_ h6 H6=>?_;exact hj _ _ (H6.pk [0] 1)
   ·refine qX<|qV omQ<|qJ (qz omQ ?_);refine qZ ?_
    refine qD H3 e_5 rfl omQ rfl<|qW (qZL omQ O hg H2) λ_ h6 H6=>?_;exact hj _ _ (H6.pk [0] 1)
  rw[iQ c0]at hF;by_cases c1:c.state=2∨c.state=3
  ·rw[iJ c1]at hF;subst hF;have c2:=c1;rcases c1 with c1' |c1'
   ·refine qX<|qV omQ<|qJ (qV omQ ?_);refine qJ (qX ?_);refine qz omQ<|qZ (qZ ?_)
    refine qD H3 e_5 rfl omQ rfl<|qW (ZW omQ O c2 H2) λ_ h6 H6=>?_;exact hj _ _ (H6.pk [0] 1)
   ·refine qX<|qV omQ<|qJ (qV omQ ?_);refine qJ (qX ?_);refine qV omQ<|qJ (qz omQ ?_);refine qZ ?_
    refine qD H3 e_5 rfl omQ rfl<|qW (ZW omQ O c2 H2) λ_ h6 H6=>?_;exact hj _ _ (H6.pk [0] 1)
  rw[iQ c1]at hF;by_cases c4:c.state=4
  ·rw[iJ c4]at hF;subst hF;refine qX<|qV omQ<|qJ (qV omQ ?_);refine qJ (qX ?_);refine qV omQ<|qJ (qV omQ ?_);refine qJ (qz omQ ?_);refine qZ (qQ ?_)
   refine qD H3 e_5 rfl omQ rfl<|qW (qGF omQ O hg c4 H2) λ_ h6 H6=>?_;exact hj _ _ (H6.pk [0] 1)
  rw[iQ c4]at hF;by_cases c5:c.state=5
  ·rw[iJ c5]at hF;subst hF;refine qX<|qV omQ<|qJ (qV omQ ?_);refine qJ (qX ?_);refine qV omQ<|qJ (qV omQ ?_);refine qJ (qV omQ ?_);refine qJ (qz omQ ?_);refine qZ (qG (qQ (qK ‹_› .here rfl ?_)));refine qa omQ<|qG (qQ ?_)
   refine qw H4 .here ⟨rfl,rfl⟩ aW λh5 H5=>?_;have H6:HS g h5 (aF b { c with at_:=c.at_+1 }::qk b0 (xi a)::R):=aF.I (sv:=sv) (cv:=cv) (tv:=tv) (wv:=wv) H5;refine qW (Zx omQ H6) λ_ h6 H6=>?_;exact hj _ _ (H6.pk [0] 1)
  rw[iQ c5]at hF;by_cases c6:c.state=6
  ·rw[iJ c6]at hF;subst hF;refine qX<|qV omQ<|qJ (qV omQ ?_);refine qJ (qX ?_);refine qV omQ<|qJ (qV omQ ?_);refine qJ (qV omQ ?_);refine qJ (qV omQ ?_);refine qJ (qz omQ ?_);refine qZ (qG (qQ (qK ‹_› .here rfl ?_)));refine qa omQ<|qG (qQ ?_)
   refine qw H4 .here ⟨rfl,rfl⟩ aW λh5 H5=>?_;have H6:HS g h5 (aF b { c with at_:=c.at_+1 }::qk b0 (xi a)::R):=aF.I (sv:=sv) (cv:=cv) (tv:=tv) (wv:=wv) H5;refine qW (qXU omQ H6) λ_ h6 H6=>?_;exact hj _ _ (H6.pk [0] 1)
  rw[iQ c6]at hF;subst hF;refine qX<|qV omQ<|qJ (qV omQ ?_);refine qJ (qX ?_);refine qV omQ<|qJ (qV omQ ?_);refine qJ (qV omQ ?_);refine qJ (qV omQ ?_);refine qJ (qV omQ ?_);refine qJ (qz omQ ?_);refine qZ (qG (qQ (qK ‹_› .here rfl ?_)));refine qa omQ<|qG (qQ ?_)
  refine qw H4 .here ⟨rfl,rfl⟩ aW λh5 H5=>?_;have H6:HS g h5 (aF b { c with at_:=c.at_+1 }::qk b0 (xi a)::R):=aF.I (sv:=sv) (cv:=cv) (tv:=tv) (wv:=wv) H5;refine qW (OI omQ H6) λ_ h6 H6=>?_;exact hj _ _ (H6.pk [0] 1)
end
end
section
variable {g h:AH} {L R:List SP}
theorem qXI {l:List Cl} {k:Nat} (hk:k<l.length):(l.flatMap jn)[k*2+0]? =some (.int .i64 (yF l (k:Int)).1)∧(l.flatMap jn)[k*2+1]? =some (.int .u64 (yF l (k:Int)).2):=by
 have e:((l.flatMap jn).drop (k*2)).take 2=jn (yF l (k:Int)):=vP (enc:=jn) (λ_=>rfl) (by simp_all[yF,Int.toNat_natCast]);constructor
 ·have:=congrArg (·[0]?) e;simp only[List.getElem?_take_of_lt (show 0<2 by omega),List.getElem?_drop]at this;trivial
 ·have:=congrArg (·[1]?) e;simp only[List.getElem?_take_of_lt (show 1<2 by omega),List.getElem?_drop]at this;trivial
section
variable {n b:Nat} {c:q9} {sv cv tv wv:AV}
theorem Vh (hn:2≤n) (H:HS g h (aF b c::R)):aH n 102 [.ptr b 0] h λr h'=>r=.int .i64 c.p.fin∧h'=h:=by
 refine aG rfl omQ λk hk=>?_;unfold S102;try simp only
 obtain⟨sv,cv,tv,wv,H⟩:=aF.E H;refine qG (qQ (qW (Y6 omQ H .here) ?_));rintro _ _ ⟨rfl,rfl⟩;exact qY ⟨rfl,rfl⟩
theorem qy2 (hn:2≤n) (H:HS g h (aF b c::R)):aH n 151 [.ptr b 0] h λr h'=>r=.int .i64 c.p.err∧h'=h:=by
 refine aG rfl omQ λk hk=>?_;unfold S151;try simp only
 obtain⟨sv,cv,tv,wv,H⟩:=aF.E H;refine qG (qQ (qW (qy4 omQ H .here) ?_));rintro _ _ ⟨rfl,rfl⟩;exact qY ⟨rfl,rfl⟩
theorem jVc (hn:2≤n) (H:HS g h (aF b c::R)):aH n 379 [.ptr b 0] h λr h'=>r=.int .i64 c.p.ch∧h'=h:=by
 refine aG rfl omQ λk hk=>?_;unfold S379;try simp only
 obtain⟨sv,cv,tv,wv,H⟩:=aF.E H;refine qG (qQ (qW (SU omQ H .here) ?_));rintro _ _ ⟨rfl,rfl⟩;exact qY ⟨rfl,rfl⟩
theorem qq5 (hn:1≤n) (hw:0≤c.now∧c.now<9223372036854775807) (H:HS g h (aF b c::R)):aH n 123 [.ptr b 0] h λr h'=>r=.int .u64 (JU c)∧h'=h:=by
 refine aG rfl omQ λk hk=>?_;unfold S123;try simp only[iZ]
 obtain⟨sv,cv,tv,wv,H⟩:=aF.E H;unfold Jc vQ at H;unfold JU;refine qG (qQ (qK ‹_› .here rfl ?_));cases hd:c.writing with
 |true=>rw[iQ aW];refine jR (qJ (qG (qQ (qK ‹_› .here rfl ?_))));refine gK omQ<|qY ⟨rfl,rfl⟩
 |false=>rw[iJ rfl];refine je (qZ ?_);exact qY ⟨rfl,rfl⟩
theorem qZe (hn:3≤n) (H:HS g h (aF b c::R)):aH n 101 [.ptr b 0] h λr h'=>r=.bool (kT c)∧h'=h:=by
 refine aG rfl omQ λk hk=>?_;unfold S101;try simp only[iZ]
 obtain⟨sv,cv,tv,wv,H1⟩:=aF.E H;unfold Jc vQ at H1;unfold kT;refine qG (qQ (qK ‹_› .here rfl ?_));refine qX ?_;(try dsimp only)
 cases hd:c.writing with
 |true=>
  refine qb ?_;(try dsimp only)
  refine qW (Vh omQ H) ?_;rintro _ _ ⟨rfl,rfl⟩;refine wE (λc1=>?_) (λc1=>?_)
  ·refine qB<|qY ⟨congrArg AV.bool (by grind),rfl⟩
  ·refine qB<|qY ⟨congrArg AV.bool (by grind),rfl⟩
 |false=>
  refine qS<|qH ?_
  exact qY ⟨rfl,rfl⟩
theorem qx9 (hn:2≤n) (O:xH c) (H:HS g h (aF b c::R)):aH n 380 [.ptr b 0] h λr h'=>r=ua (xX c)∧HS g h' (aF b c::R):=by
 refine aG rfl omQ λk hk=>?_;unfold S380;try simp only[iZ]
 obtain⟨sv,cv,tv,wv,H⟩:=aF.E H;refine qM H rfl λb0 h1 H1=>?_;have dI:=O.lo;have cd:=O.st;have ma:=O.now;have l1:=O.s;have l2:=O.aw;refine qG (qQ (qW (Y6 omQ H1 e_1) ?_));rintro _ _ ⟨rfl,rfl⟩;unfold xX;have H2:=H1;unfold Jc vQ at H2;by_cases hg:c.p.fin=0
 rotate_left
 ·refine jg hg ?_;rw[iJ hg];refine qZ (qI rfl ?_);refine qe H1 .here rfl (by simp) rfl λh3 H3=>?_;refine qD H3 .here rfl omQ rfl<|qY ⟨rfl,aF.I H3.drop⟩
 refine jB hg ?_;rw[iQ (λh=>h hg)];refine qJ (qG (qQ (qK ‹_› e_1 rfl ?_)));by_cases c0:c.state=0
 ·refine qz c0 ?_;rw[iJ c0];refine qZ (qG (qQ (qK ‹_› e_1 rfl ?_)));refine qG (qQ (qK ‹_› e_1 rfl ?_));refine qu ‹_› e_5 ?_;have hw:=O.hY hg omQ;refine zY (H1.sl e_4) (by rw[List.getElem?_map,QX hw];rfl)<|qI rfl<|qe H2 .here rfl (by simp) rfl λh3 H3=>?_;refine qD H3 .here rfl omQ rfl<|qY ⟨rfl,aF.I H3.drop⟩
 refine qV c0 ?_;rw[iQ c0];refine qJ ?_;by_cases c1:c.state=1
 ·refine qz c1 ?_;rw[iJ c1];refine qZ (qG (qQ ?_));have hw:=O.hY hg omQ;refine qo (qK H2 e_1 rfl ?_);refine qG (qQ (qK ‹_› e_1 rfl ?_));refine qI rfl<|qM H2 rfl λb1 h3 H3=>?_;refine qe H3 .here rfl (by simp) rfl λh4 H4=>?_;have H4:HS g h4 (qk b1 (zh (c.lk.1,true,c.me))::qk b0 _::qk b (Jc c sv cv tv wv)::_):=H4;have H5:=H4;unfold Jc vQ at H5;refine qG (qQ (qK ‹_› e_2 rfl ?_));refine qG (qQ (qK ‹_› e_2 rfl ?_));refine qu ‹_› e_6<|zY (H4.sl e_5) (by rw[List.getElem?_map,QX hw];rfl)<|qG (qQ (qD H5 e_2 rfl omQ rfl ?_));refine qD H5 .here rfl omQ rfl<|qI rfl<|qe H5 e_1 rfl (by simp) rfl λh6 H6=>?_;refine qD H6 .here rfl omQ rfl<|qY ⟨rfl,aF.I H6.drop.drop⟩
 refine qV c1 ?_;rw[iQ c1];refine qJ ?_;by_cases c2:c.state=2
 ·refine qz c2 ?_;rw[iJ c2];refine qZ (qI rfl ?_);refine qe H2 .here rfl (by simp) rfl λh3 H3=>?_;refine qD H3 .here rfl omQ rfl<|qY ⟨rfl,aF.I H3.drop⟩
 refine qV c2 ?_;rw[iQ c2];refine qJ ?_;by_cases c3:c.state=3
 ·refine qz c3 ?_;rw[iJ c3];refine qZ (qG (qQ (qK ‹_› e_1 rfl ?_)));refine qG (qQ (qK ‹_› e_1 rfl ?_));refine gK omQ<|qI rfl<|qe H2 .here rfl (by simp) rfl λh3 H3=>?_;refine qD H3 .here rfl omQ rfl<|qY ⟨rfl,aF.I H3.drop⟩
 refine qV c3 ?_;rw[iQ c3];refine qJ ?_;by_cases c4:c.state=4
 ·refine qz c4 ?_;rw[iJ c4];refine qZ (qG (qQ (qK ‹_› e_1 rfl ?_)));refine qG (qQ (qK ‹_› e_1 rfl ?_));have ax:=O.A3 hg c4;obtain⟨k,hk⟩:∃k:Nat,c.at_=k:=⟨c.at_.toNat,by omega⟩;rw[hk]at ax ⊢;refine yo (H1.sl e_2) omQ omQ (XZ omQ).1<|qI rfl<|qe H2 .here rfl (by simp) rfl λh3 H3=>?_;refine qD H3 .here rfl omQ rfl<|qY ⟨rfl,aF.I H3.drop⟩
 refine qV c4 ?_;rw[iQ c4];refine qJ ?_;by_cases c5:c.state=5
 ·refine qz c5 ?_;rw[iJ c5];refine qZ (qG (qQ (qK ‹_› e_1 rfl ?_)));refine qG (qQ (qK ‹_› e_1 rfl ?_));have ax:=O.FH hg c5;obtain⟨k,hk⟩:∃k:Nat,c.at_=k:=⟨c.at_.toNat,by omega⟩;rw[hk]at ax ⊢;refine yo (H1.sl e_3) omQ omQ (qXI omQ).1<|qG (qQ (qK ‹_› e_1 rfl ?_));refine qG (qQ (qK ‹_› e_1 rfl ?_));rw[hk];refine yo (H1.sl e_3) omQ omQ (qXI omQ).2<|qI rfl<|qe H2 .here rfl (by simp) rfl λh3 H3=>?_;refine qD H3 .here rfl omQ rfl<|qY ⟨rfl,aF.I H3.drop⟩
 refine qV c5 ?_;rw[iQ c5];refine qJ ?_;by_cases c6:c.state=6
 ·refine qz c6 ?_;rw[iJ c6];refine qZ (qG (qQ (qK ‹_› e_1 rfl ?_)));refine qG (qQ (qK ‹_› e_1 rfl ?_));have ax:=O.FI hg c6;obtain⟨k,hk⟩:∃k:Nat,c.at_=k:=⟨c.at_.toNat,by omega⟩;rw[hk]at ax ⊢;refine zY (H1.sl e_4) (by rw[List.getElem?_map,QX omQ];rfl)<|qG (qQ (qK ‹_› e_1 rfl ?_));refine gK omQ<|qI rfl<|qI rfl<|qe H2 .here rfl (by simp) rfl λh3 H3=>?_;refine qD H3 .here rfl omQ rfl<|qY ⟨rfl,aF.I H3.drop⟩
 refine qV c6 ?_;rw[iQ c6];refine qJ (qG (qQ (qK ‹_› e_1 rfl ?_)));refine qG (qQ (qK ‹_› e_1 rfl ?_));have ax:=O.Dn hg omQ;obtain⟨k,hk⟩:∃k:Nat,c.at_=k:=⟨c.at_.toNat,by omega⟩;rw[hk]at ax ⊢;refine zY (H1.sl e_4) (by rw[List.getElem?_map,QX omQ];rfl)<|qG (qQ (qK ‹_› e_1 rfl ?_));refine qG (qQ (qK ‹_› e_1 rfl ?_));rw[hk];refine xQ (H1.sl e_5) omQ omQ (Z7 omQ)<|qI rfl<|qe H2 .here rfl (by simp) rfl λh3 H3=>?_;refine qD H3 .here rfl omQ rfl<|qY ⟨rfl,aF.I H3.drop⟩
theorem jQU {me sp st a w:Int} {v1 v2:AV} {r:List zd} {cs:List Cl} (hn:5≤n) (hr:r.length≤1000) (h0:0<cs.length) (hl:cs.length≤1000) (hc:∀c∈cs,0≤c.1∧c.1<100000)
  (H:HS g h (aa 129 2 r.length v1 (r.flatMap gk)::aa 177 2 cs.length v2 (cs.flatMap jn)::R)) :
  aH n 120 [.int .i64 me,.int .i64 sp,.int .u64 st,v1,v2,.int .i64 a,.int .i64 w] h λv h'=>∃b,v=.ptr b 0∧HS g h' (aF b (Jv me sp st r cs a w)::R):=by
 refine RK rfl omQ λk hk=>?_;unfold S120;try simp only[iZ]
 refine qW (SQ omQ H) ?_;rintro _ h1 ⟨rfl,H1⟩;refine qW (KM omQ H1 .here (XB (λ_=>rfl) _) omQ) λu1 h2 H2=>?_;refine qW (qKU omQ H2 e_2 omQ) λu2 h3 H3=>?_;refine qW (qGs omQ H3 (H3.rd e_3) h0 hl hc) λu3 h4 H4=>?_;have o1:=H4.one e_2;have o2:=H4.one e_1;have o3:=H4.one .here;unfold vQ;refine qI (by simp only[vL,o1.1,o2.1,o3.1];rfl)<|qM H4 (by show qt [_,_,_,_,_,_,_,u1,u2,u3,_,_,_,_,_,_,_,_,_,_,_]=true;simp only[qt,List.all_cons,o1.2,o2.2,o3.2];rfl) λb h5 H5=>?_;have H6:=H5.ap (e:=70) (sz:=3);have H7:HS g h5 (aF b ⟨KF me sp,me,st,r,cs,xJ cs a w,[],0,0,bK,0,false,0,0,0⟩::R) :=
  aF.I (sv:=u1) (cv:=u2) (tv:=u3) (wv:=.ap) (H6.pk [1,3,2,1,0] 2)
 refine qW (qKI omQ H7) λ_ h6 H8=>qY ⟨b,rfl,H8⟩
end
end
section
def vB (a:cE):Prop:=0≤a.word∧a.word<18446744073709551616
theorem Jl {p:Ja} {a:cE} (h:(jL p a).1=true):(jL p a).2.fin≠0:=by
 unfold jL at h ⊢
 split
 ·nofun
 grind
theorem SZ {p:Ja} {l:cK} (hp:0≤p.af∧p.af≤4) (h:(jA p l).1=true):(jA p l).2.fin=p.fin∧0≤(jA p l).2.af∧(jA p l).2.af≤4:=by
 unfold jA at h ⊢
 grind
theorem qWc {me sp:Int}:VD (KF me sp):=λ_=>by show 0≤max 0 (min sp 4)∧max 0 (min sp 4)≤4;omega
theorem GO {p:Ja} {f e y:Int} (h:f≠0):VD (zW p f e y):=λhf=>absurd hf h
theorem Kv {f:wJ} {a:cE} (hp:VD f.p):VD (jP f a).p:=by
 unfold jP;cases hs:(jL f.p a).1 with
 |true=>rw[iJ rfl];exact λh=>absurd h (Jl hs)
 |false=>
  rw[iQ aW];have hg:=(Yl hs).2;unfold gD
  split
  ·grind
  ·split
   ·nofun
   ·split
    ·split
     ·rename_i hw;exact λ_=>(SZ (hp hg) hw).2
     nofun
    ·split
     all_goals simp_all[GO,od]
theorem jQb {me sp:Int} {r:List zd} (hr:r.length≤16):MX (VR me sp r):=⟨qWc,Int.le_refl _,by show(0:Int)≤1000;simp,hr,by show(0:Int)≤_;omega,λ_ h=>by cases h⟩
theorem qX3 {x:wO} (hp:VD x.p) (h0:0≤x.at_) (h1:x.at_≤x.seen.length) (hr:x.seen.length≤16):MX (kB x):=by
 unfold kB
 split
 ·exact⟨GO od,h0,by grind,hr,h1,nofun⟩
 ·exact⟨hp,h0,by omega,hr,h1,λ_ _=>by omega⟩
theorem KC {x:wO} {a:cE} (O:MX x):MX (zw x a):=by
 unfold zw;cases hs:(jL x.p a).1 with
 |true=>rw[iJ rfl];exact⟨λh=>absurd h (Jl hs),O.lo,O.hi,O.len,O.le,λh=>absurd h (Jl hs)⟩
 |false=>
  rw[iQ aW];have hg:=(Yl hs).2;have dI:=O.lo;have mH:=O.hi;have hlen:=O.len
  split
  ·exact qX3 O.p dI O.le hlen
  ·rename_i hl;have hl:x.aR=true:=by grind
   have dY:=O.lX hg hl
   split
   ·split
    ·rename_i hw;have:=SZ (O.p hg) hw;exact⟨λ_=>this.2,dI,mH,hlen,O.le,λ_ _=>dY⟩
    ·exact⟨GO od,dI,mH,hlen,O.le,λh=>by grind⟩
   ·split
    ·exact⟨GO od,dI,mH,hlen,O.le,λh=>by grind⟩
    ·exact qX3 O.p (by grind) (by grind) hlen
section
variable {c:q9}
theorem ZL (r:c.s.Pairwise (· < ·)) (h:zF 1 c.p.af 6 c.at_ c.now c.bf c.seen.length c.cells.length c.s.length c.aw.length) (hs:c.state=6) (hp:0≤c.p.af∧c.p.af≤4) (ha:c.at_≤c.s.length):xH (zg c):=by
 unfold zg;unfold zF at h
 split
 ·refine⟨r,?_⟩;show zF 2 c.p.af c.state c.at_ c.now c.bf c.seen.length c.cells.length c.s.length c.aw.length;grind[zF]
 ·refine⟨r,?_⟩;grind[zF]
theorem Mu (r:c.s.Pairwise (· < ·)) (h:zF 1 c.p.af 5 c.at_ c.now c.bf c.seen.length c.cells.length c.s.length c.aw.length) (hs:c.state=5) (hp:0≤c.p.af∧c.p.af≤4) (ha:c.at_≤c.cells.length):xH (jo c):=by
 unfold jo;unfold zF at h
 split
 ·refine ZL r ?_ rfl hp (by simp);grind[zF]
 ·refine⟨r,?_⟩;grind[zF]
theorem KY (r:c.s.Pairwise (· < ·)) (h:zF 1 c.p.af 4 c.at_ c.now c.bf c.seen.length c.cells.length c.s.length c.aw.length) (hp:0≤c.p.af∧c.p.af≤4):xH (zj c):=by unfold zj;unfold zF at h;refine Mu r ?_ rfl hp (by simp);grind[zF]
theorem Mr (r:c.s.Pairwise (· < ·)) (h:zF 1 c.p.af 7 c.at_ c.now c.bf c.seen.length c.cells.length c.s.length c.aw.length) (hs:c.state=7) (ha:c.at_≤c.aw.length):xH (zc c):=by
 unfold zc;unfold zF at h
 split
 ·refine⟨r,?_⟩;show zF c.bf c.p.af c.state c.at_ c.now c.bf c.seen.length c.cells.length c.s.length c.aw.length;grind[zF]
 ·refine⟨r,?_⟩;grind[zF]
theorem Gy {f e y:Int} (r:c.s.Pairwise (· < ·)) (h:zF 1 c.p.af c.state c.at_ c.now c.bf c.seen.length c.cells.length c.s.length c.aw.length) (hf:f≠0):xH (jN c f e y):=by unfold jN;unfold zF at h;refine Mr r ?_ rfl (by simp);grind[zF]
theorem xH.dead (O:xH c):zF 1 c.p.af c.state c.at_ c.now c.bf c.seen.length c.cells.length c.s.length c.aw.length:=by have h:=O.ar;grind[zF]
theorem OM {l:cK} (O:xH c) (hg:c.p.fin=0) (hs:c.state≤6):xH (zx c l):=by
 unfold zx;have h:=O.ar
 split
 ·rename_i hw;have:=SZ (O.p hg hs) hw;refine⟨O.cZ,?_⟩;grind[zF]
 ·refine Gy O.cZ ?_ od;grind[zF,jA]
theorem qZA (r:c.s.Pairwise (· < ·)):∀(m:Nat) (a:Int),zF 1 c.p.af 4 a c.now c.bf c.seen.length c.cells.length c.s.length c.aw.length→(0≤c.p.af∧c.p.af≤4)→xH (ja { c with state:=4,at_:=a } m):=by
 intro m
 induction m with
 |zero=>intro a h hp;exact KY r h hp
 |succ m ih=>
  intro a h hp;unfold ja;dsimp only
  split
  ·rename_i ax
   split
   ·refine⟨r,?_⟩;grind[zF]
   ·split
    ·simp_all[Gy,od]
    grind[zF]
  grind[KY]
theorem Ml (r:c.s.Pairwise (· < ·)) (h:zF 1 c.p.af 4 c.at_ c.now c.bf c.seen.length c.cells.length c.s.length c.aw.length) (hp:0≤c.p.af∧c.p.af≤4):xH (xF c):=qZA r _ c.at_ h hp
set_option maxHeartbeats 4000000 in
theorem yP {a:cE} (O:xH c) (ha:vB a):xH (qn c a):=by
 have h:=O.ar;have hd:=O.dead;unfold qn;cases hs:(jL c.p a).1 with
 |true=>rw[iJ rfl];have hf:=Jl hs;refine⟨O.cZ,?_⟩;show zF (jL c.p a).2.fin (jL c.p a).2.af c.state c.at_ c.now c.bf c.seen.length c.cells.length c.s.length c.aw.length;unfold zF at h ⊢;omega
 |false=>
  rw[iQ aW];have hg:=(Yl hs).2;have ha:=ha.1;rw[hg]at h
  split
  ·rename_i cd;unfold yH
   split
   ·exact OM O hg omQ
   ·split
    ·refine⟨O.cZ,?_⟩;show zF c.p.fin c.p.af 1 c.at_ c.now c.bf c.seen.length c.cells.length c.s.length c.aw.length;rw[hg];unfold zF at h ⊢;omega
    ·split
     ·unfold ju;dsimp only;have hl:(c.aw++[c.lk]).length=c.aw.length+1:=by simp
      split
      ·refine⟨O.cZ,?_⟩;show zF c.p.fin c.p.af 2 c.at_ c.now c.bf c.seen.length c.cells.length c.s.length (c.aw++[c.lk]).length;rw[hg];unfold zF at h ⊢;omega
      ·refine⟨O.cZ,?_⟩;show zF c.p.fin c.p.af 0 c.at_ c.now c.bf c.seen.length c.cells.length c.s.length (c.aw++[c.lk]).length;rw[hg];unfold zF at h ⊢;omega
     ·refine⟨O.cZ,?_⟩;show zF c.p.fin c.p.af 0 c.at_ c.now c.bf c.seen.length c.cells.length c.s.length c.aw.length;rw[hg];unfold zF at h ⊢;omega
  split
  ·unfold xe
   split
   ·exact Gy O.cZ hd od
   ·split
    ·refine⟨O.cZ,?_⟩;show zF c.p.fin c.p.af 3 c.at_ a.word c.bf c.seen.length c.cells.length c.s.length c.aw.length;rw[hg];unfold zF at h ⊢;omega
    ·split
     ·refine⟨O.cZ,?_⟩;show zF c.p.fin c.p.af 2 c.at_ c.now c.bf c.seen.length c.cells.length c.s.length c.aw.length;rw[hg];unfold zF at h ⊢;omega
     ·have h4:zF 1 c.p.af 4 c.at_ c.now c.bf c.seen.length c.cells.length c.s.length c.aw.length:=by unfold zF at h ⊢;omega
      split
      ·exact KY O.cZ h4 (O.p hg omQ)
      ·exact Ml O.cZ h4 (O.p hg omQ)
  split
  ·rename_i h4;unfold xI
   split
   ·exact OM O hg omQ
   ·split
    ·exact Gy O.cZ hd od
    ·refine Ml O.cZ ?_ (O.p hg omQ);show zF 1 c.p.af 4 (c.at_+1) c.now c.bf c.seen.length c.cells.length c.s.length c.aw.length;unfold zF at h ⊢;omega
  split
  ·rename_i h5;have:=O.FH hg h5;refine Mu O.cZ ?_ h5 (O.p hg omQ) (by show c.at_+1≤(c.cells.length:Int);omega);show zF 1 c.p.af 5 (c.at_+1) c.now c.bf c.seen.length c.cells.length c.s.length c.aw.length;unfold zF at h ⊢;omega
  split
  ·rename_i h6;have:=O.FI hg h6;refine ZL O.cZ ?_ h6 (O.p hg omQ) (by show c.at_+1≤(c.s.length:Int);omega);show zF 1 c.p.af 6 (c.at_+1) c.now c.bf c.seen.length c.cells.length c.s.length c.aw.length;unfold zF at h ⊢;omega
  ·have cd:=O.st;have h7:c.state=7:=by omega
   have:=O.Dn hg h7;refine Mr O.cZ ?_ h7 (by show c.at_+1≤(c.aw.length:Int);omega);show zF 1 c.p.af 7 (c.at_+1) c.now c.bf c.seen.length c.cells.length c.s.length c.aw.length;unfold zF at h ⊢;omega
theorem qge {me sp st a w:Int} {r:List zd} {cs:List Cl} (hr:r.length≤16) (h0:0<cs.length) (hl:cs.length≤1000) (hc:∀c∈cs,0≤c.1):xH (Jv me sp st r cs a w):=by
 have h1:(xJ cs a w).length≤16:=by unfold xJ;grind
 have h2:0<(xJ cs a w).length:=by obtain⟨c,Rr⟩:=List.exists_mem_of_length_pos h0;exact List.length_pos_of_mem ((Ju hc).2 (List.mem_map.2 ⟨c,Rr,rfl⟩))
 unfold Jv ju;rw[iQ (by grind)];refine⟨UY,?_⟩;show zF 0 (max 0 (min sp 4)) 0 0 0 0 r.length cs.length (xJ cs a w).length 0;grind[zF]
end
end
section
theorem jK3 {l:List qR} (F:Fit l) (Q:Quiet l):∀(n:Nat) {s:IM} {V:VM},GI l s V→bX V.lv+n<9000→(zD l (qU l) n s V).kind=1→bX (zD l (qU l) n s V).v.lv+(zD l (qU l) n s V).left≤bX V.lv+n:=by
 intro n
 induction n with
 |zero=>
  grind[JJ]
 |succ n ih=>
  intro s V G hf;rw[JT]
  split
  ·simp
  ·rename_i h0;obtain⟨i,hi,mN⟩:=G.pc;have ax:i<l.length:=by omega
   rw[hi];have S:=UF F G hi ax omQ (Q.at ax).2 (Q.at ax).1;generalize cm (qU l) s V (qO l i)=D at*
   split
   ·rename_i h1
    split
    ·simp
    ·rename_i h2;have Dj:=S.fr;intro h;have:=ih (S.next h1 (by grind)) omQ h;omega
   ·split
    ·rename_i dO;obtain⟨n1,n2,_⟩:=S.aC dO;grind
    simp
theorem jK6 {l:List qR} {mt:List Int}:∀(n:Nat) {s:IM} {V:VM},(zD l mt n s V).kind=1→(zD l mt n s V).err=0:=by
 intro n
 induction n with
 |zero=>grind[JJ]
 |succ n ih=>
  grind[JT,cm,qO]
theorem qkP {V:VM} {p x:Int} (h1:1≤p) (h2:p<V.sz) (h3:zk p V.K=none):xz V p x=(0,{ V with K:=V.K++[(p,x)] }):=by simp_all[xz]
theorem jQf {l:List qR} {s:IM} {V:VM} {p x:Int} (G:GI l s V) (hx:0≤x∧x<18446744073709551616):GI l s (xz V p x).2:=by
 have hl:(xz V p x).2.lv=V.lv:=by
  grind[xz]
 refine⟨G.gb,G.pc,G.nm,G.told,G.iN,by rw[hl];exact G.lv,⟨qKa G.aJ.ok,?_⟩⟩;unfold xz
 split
 ·split
  ·exact G.aJ.wd
  ·refine⟨λc hc=>?_,G.aJ.wd.l⟩;rcases List.mem_append.1 hc with hc |hc
   ·exact G.aJ.wd.k c hc
   grind
 ·exact G.aJ.wd
theorem jVO {l:List qR} {mt:List Int}:∀(n:Nat) {s:IM} {V:VM},(zD l mt n s V).left≤n:=by
 intro n
 induction n with
 |zero=>intro s V;rw[JJ];grind
 |succ n ih=>
  intro s V;rw[JT];grind
end
section
structure xZ (S:jz):Prop where
  words:32≤S.words∧S.words≤256
  ae:1≤S.ae∧S.ae≤16
  wide:1≤S.wide∧S.wide≤16
  ag:1≤S.ag∧S.ag≤4
  start:0≤S.start∧S.start≤4611686018427387903
  af:0≤S.af∧S.af≤4
  writes:0≤S.writes∧S.writes≤96
  fuel:0≤S.fuel∧S.fuel≤400
theorem Xf {n lo hi:Int} (h:lo≤hi):lo≤Qv n lo hi∧Qv n lo hi≤hi:=by grind[Qv]
theorem vj {n lo hi:Int} (h:lo≤n∧n≤hi):Qv n lo hi=n:=by grind[Qv]
theorem gW {s:jz} (h:0≤s.start):xZ (jO s) :=
 ⟨Xf omQ,Xf omQ,Xf omQ,Xf omQ,by show 0≤min s.start 4611686018427387903∧min s.start 4611686018427387903≤4611686018427387903;omega,Xf omQ,Xf omQ,Xf omQ⟩
theorem kF {S:jz} (O:xZ S):jO S=S:=by obtain⟨a,b,c,d,e,f,g,i⟩:=O;simp_all[jO,vj,min]
theorem qjE {M:VM} {b:Int} (h:(yC M b).1=11):YJ M (yC M b).2:=by
 have ha:=jZL M b;unfold yC at h ⊢
 split
 ·rename_i h1;rw[iJ h1]at h;have e:=ha.2 h1
  split
  ·grind
  ·rename_i h2;rw[iQ h2]at h
   split
   ·rename_i h3;rw[iJ h3]at h;grind[UV]
   simp_all[Q6]
 simp_all[qXr]
theorem qY3 {M:VM} {b:Int} (O:dT M):X7 M (yC M b).2:=by
 have ha:=qZM M b;unfold yC
 repeat' split
 ·grind
 ·exact(ha.trans (x8 _ _)).trans (wT (yT (GY O)))
 ·exact ha.trans (x8 _ _)
 grind
theorem qw2:∀(bs:List Int) (k:Nat) {V:VM},zK V→zK (xS V bs k).2∧X7 V (xS V bs k).2∧bX (xS V bs k).2.lv=bX V.lv∧(xS V bs k).1.1≤k+bs.length∧
  ((xS V bs k).1.2=11→1≤(xS V bs k).2.aC∧(xS V bs k).2.aC<V.sz∧zk (xS V bs k).2.aC V.K=none):=by
 intro bs
 induction bs with
 |nil=>intro k V G;exact⟨G,.refl V,rfl,Nat.le_refl _,nofun⟩
 |cons b r ih=>
  intro k V G;have hg:=G.mR (b:=b);have hk:=qY3 (b:=b) G.ok;by_cases h0:(yC V b).1=0
  ·rw[show xS V (b::r) k=xS (yC V b).2 r (k+1)from iJ h0];obtain⟨a1,a2,a3,a4,a5⟩:=ih (k+1) hg.1;refine⟨a1,hk.trans a2,a3.trans hg.2,by simp;omega,λh=>?_⟩;have:=a5 h;rw[hk.sz,hk.K]at this;omega
  ·rw[show xS V (b::r) k=((k,(yC V b).1),(yC V b).2)from iQ h0];exact⟨hg.1,hk,hg.2,by simp,λh=>(qjE h).2⟩
def bS (live:Prop) (V:VM):GT→Prop
 | .prog q=>Fit q.l∧Quiet q.l∧GB q.s∧(live→GI q.l q.s V∧q.fin=0∧q.err=0∧bX V.lv+q.left<9000)∧q.left≤400
 | .aE bs k=>k≤bs.length∧bs.length≤100000
theorem bS.dead {live nV:Prop} {V V':VM} {j:GT} (O:bS live V j) (h:¬nV):bS nV V' j:=by
 cases j with
 |prog q=>exact⟨O.1,O.2.1,O.2.2.1,λh'=>absurd h' h,O.2.2.2.2⟩
 |aE bs k=>exact O
theorem bS.same {live nV:Prop} {V:VM} {j:GT} (O:bS live V j) (h:nV→live):bS nV V j:=by
 cases j with
 |prog q=>exact⟨O.1,O.2.1,O.2.2.1,λh'=>O.2.2.2.1 (h h'),O.2.2.2.2⟩
 |aE bs k=>exact O
structure zG (x:qf):Prop where
  set:xZ x.set
  aJ:zK x.v
  sz:(x.v.sz:Int)=x.set.words
  fr:bX x.v.lv<9000
  r:x.r.length≤16
  aN:bS (x.state≤4) x.v x.aN
  st:0≤x.state∧x.state≤8
  f:x.state=3→VD x.f.p∧0≤x.f.word∧x.f.word<18446744073709551616
  aC:3≤x.state→x.state≤4→1≤x.v.aC∧x.v.aC<x.v.sz∧zk x.v.aC x.v.K=none
  e:4≤x.state→x.state≤5→MX x.e
  c:∀c,x.c=some c→xH c
  c0:x.state≤5→x.c=none
  c6:x.state=6→x.c≠none
structure FJ (x:qf) (k:Int) (y:qf):Prop where
  aJ:zK y.v
  kept:y.v.sz=x.v.sz∧y.v.K=x.v.K∧y.v.most=x.v.most
  fr:bX y.v.lv<9000
  aN:bS (k=1) y.v y.aN
  aC:k=1→1≤y.v.aC∧y.v.aC<x.v.sz∧zk y.v.aC x.v.K=none
  same:y.me=x.me∧y.set=x.set∧y.r=x.r∧y.ad=x.ad∧y.c=x.c
theorem GC {x:qf} (hg:zK x.v) (hf:bX x.v.lv<9000) (hj:bS True x.v x.aN):FJ x (xK x).1.1 (xK x).2:=by
 unfold xK;cases hx:x.aN with
 |prog q=>
  rw[hx]at hj;obtain⟨F,Q,gb,h,hl⟩:=hj;obtain⟨G,h0,h1,h2⟩:=h trivial;obtain⟨RB,rfr,_,rn,_⟩:=SH F Q q.left G h2;refine⟨RB.aJ,⟨RB.sz,RB.K,RB.most⟩,by grind,⟨F,Q,RB.gb,λhk=>?_,?_⟩,λhk=>?_,⟨rfl,rfl,rfl,rfl,rfl⟩⟩
  ·have hr:=jK3 F Q q.left G h2 hk;exact⟨(rn hk).1,iJ hk,jK6 _ hk,by grind⟩
  ·have hr:=jVO (l:=q.l) (mt:=qU q.l) q.left (s:=q.s) (V:=x.v);grind
  grind
 |aE bs k=>
  rw[hx]at hj;obtain⟨a1,a2,a3,a4,a5⟩:=qw2 (bs.drop k) k hg;refine⟨a1,⟨a2.sz,a2.K,a2.most⟩,by grind,⟨by rw[List.length_drop]at a4;have:=hj.1;omega,hj.2⟩,λh=>?_,⟨rfl,rfl,rfl,rfl,rfl⟩⟩
  grind
structure Qk (x:qf):Prop where
  set:xZ x.set
  aJ:zK x.v
  sz:(x.v.sz:Int)=x.set.words
  fr:bX x.v.lv<9000
  r:x.r.length≤16
  aN:bS False x.v x.aN
  c:∀c,x.c=some c→xH c
theorem zG.b {x:qf} (O:zG x):Qk x:=⟨O.set,O.aJ,O.sz,O.fr,O.r,O.aN.dead not_false,O.c⟩
theorem Qk.out {x:qf} (B:Qk x) {f e y:Int}:zG (zT x f e y) :=
 ⟨B.set,B.aJ,B.sz,B.fr,B.r,B.aN.dead (by nofun),by show(0:Int)≤7∧(7:Int)≤8;simp,λh=>(by cases h),λ_ h=>(by cases h),λ_ h=>(by cases h),B.c,λh=>(by cases h),nofun⟩
theorem Qk.gone {x:qf} (B:Qk x) {f e y:Int}:zG { zT x f e y with state:=8 } :=
 ⟨B.set,B.aJ,B.sz,B.fr,B.r,B.aN.dead (by simp),by simp,λh=>(by grind),λ_ h=>(by grind),λ_ h=>(by grind),B.c,λh=>(by grind),λh=>by grind⟩
theorem Qk.ask {x:qf} (B:Qk x) (hj:bS True x.v x.aN) (hn:1≤x.v.aC∧x.v.aC<x.v.sz∧zk x.v.aC x.v.K=none) (hc:x.c=none):zG (QF x x.v.aC) :=
 ⟨B.set,B.aJ,B.sz,B.fr,B.r,hj.same λ_=>trivial,by show(0:Int)≤3∧(3:Int)≤8;simp,λ_=>⟨qWc,by show(0:Int)≤0;simp,by show(0:Int)<_;simp⟩,λ_ _=>hn,λh=>absurd h (by nofun),B.c,λ_=>hc,nofun⟩
theorem Qk.later {x:qf} (B:Qk x) (hc:x.c=none) {s:Int} (hs:s=4∨s=5) (hj:s=4→bS True x.v x.aN∧1≤x.v.aC∧x.v.aC<x.v.sz∧zk x.v.aC x.v.K=none):zG (wX x s):=by
 refine⟨B.set,B.aJ,B.sz,B.fr,B.r,?_,by show 0≤s∧s≤8;omega,λh=>?_,λ_ h=>(hj ?_).2,λ_ _=>jQb B.r,B.c,λ_=>hc,λh=>?_⟩
 ·show bS (s≤4) x.v x.aN;rcases hs with rfl |rfl
  ·grind
  ·exact B.aN.dead od
 ·have h:s=3:=h;omega
 ·have h:s≤4:=h;omega
 ·have h:s=6:=h;omega
theorem K6 {V:VM} (O:dT V):(jk V.lv).length≤96∧∀c∈jk V.lv,1≤c.1∧c.1<256:=by have h1:=M4 V.lv [];have h2:=O.lm.held;have h3:=O.lm.le;exact⟨by grind[jk],Ow V.lv [] (λc hc=>by grind) O.lm.ins⟩
theorem Qk.iR {x:qf} (B:Qk x) (hj:bS True x.v x.aN) (hc:x.c=none):zG (zn x):=by
 have D:=GC B.aJ B.fr hj;unfold zn;generalize(xK x).1.1=k at*;generalize(xK x).1.2=e at*;generalize(xK x).2=y at*;obtain⟨e1,e2,e3,e4,e5⟩:=D.same;have rR:y.c=none:=by grind
 have B':Qk y:=⟨by rw[e2];exact B.set,D.aJ,by rw[D.kept.1,e2];exact B.sz,D.fr,by rw[e3];exact B.r,D.aN.same λh=>h.elim,λc h=>by grind⟩;unfold yX
 split
 ·rename_i h1;exact B'.ask (D.aN.same λ_=>h1) (by have:=D.aC h1;rw[D.kept.1,D.kept.2.1];grind) rR
 ·split
  ·exact Qk.later (x:={ y with dB:=true }) ⟨B'.set,B'.aJ,B'.sz,B'.fr,B'.r,B'.aN,B'.c⟩ rR (.inr rfl) λh=>by grind
  ·split
   ·exact B'.out
   ·split
    ·exact B'.out
    ·rename_i hm;have ET:=K6 D.aJ.ok;refine⟨B'.set,B'.aJ,B'.sz,B'.fr,B'.r,B'.aN.dead (by simp),by simp,λh=>(by grind),λ_ h=>(by grind),λ_ h=>(by grind),λc h=>?_,λh=>(by grind),λ_ h=>by grind⟩;cases h;exact qge B'.r (List.length_pos_iff.2 hm) omQ λc hc=>by grind
theorem Xv {r:List zd} {x:zd} (h:r.length≤16):(gT r x).2.length≤16:=by
 grind[gT,List.length_append,List.length_singleton]
theorem kQ {V:VM} {p x:Int}:(xz V p x).2.lv=V.lv∧(xz V p x).2.sz=V.sz:=by
 unfold xz
 grind
theorem Qu {V:VM} {p x:Int} (G:zK V) (hx:0≤x∧x<18446744073709551616):zK (xz V p x).2:=by
 refine⟨qKa G.ok,?_⟩;unfold xz
 split
 ·split
  ·exact G.wd
  ·refine⟨λc hc=>?_,G.wd.l⟩;rcases List.mem_append.1 hc with hc |hc
   ·exact G.wd.k c hc
   grind
 ·exact G.wd
theorem bS.lN {V:VM} {j:GT} {p x:Int} (O:bS True V j) (hx:0≤x∧x<18446744073709551616):bS True (xz V p x).2 j:=by
 cases j with
 |prog q=>exact⟨O.1,O.2.1,O.2.2.1,λ_=>⟨jQf (O.2.2.2.1 trivial).1 hx,(O.2.2.2.1 trivial).2.1,(O.2.2.2.1 trivial).2.2.1,by rw[kQ.1];exact(O.2.2.2.1 trivial).2.2.2⟩,O.2.2.2.2⟩
 |aE bs k=>exact O
theorem Gj {f:wJ} (h:0≤f.word∧f.word<18446744073709551616):0≤xn f∧xn f<18446744073709551616:=by
 grind[xn]
theorem XP {f:wJ} {a:cE} (h:0≤f.word∧f.word<18446744073709551616) (ha:vB a):0≤(jP f a).word∧(jP f a).word<18446744073709551616:=by
 unfold jP gD
 repeat' split
 all_goals first |exact h |exact ha
theorem Qk.mV {x:qf} (B:Qk x) (hj:bS True x.v x.aN) (hn:1≤x.v.aC∧x.v.aC<x.v.sz∧zk x.v.aC x.v.K=none) (hc:x.c=none) (hw:0≤x.f.word∧x.f.word<18446744073709551616):zG (jt x):=by
 unfold jt
 split
 ·exact B.later hc (.inl rfl) λ_=>⟨hj,hn⟩
 ·have hx:=Gj hw
  split
  ·refine Qk.iR ?_ (hj.lN hx) hc;exact⟨B.set,Qu B.aJ hx,by grind[xz,xn,sz,kQ],by rw[kQ.1];exact B.fr,Xv B.r,(hj.lN hx).same λh=>h.elim,B.c⟩
  ·split<;>exact B.out
theorem OQ {x:qf} (O:zG x):zG (jV x):=by
 unfold jV
 split
 ·split
  ·exact⟨O.set,O.aJ,O.sz,O.fr,O.r,O.aN,O.st,O.f,O.aC,O.e,O.c,O.c0,O.c6⟩
  grind
 grind
theorem qJ0 {x:qf} (O:zG x) (h3:3≤x.state) (_:x.state≤6):zG (jr x):=by
 unfold jr
 split
 ·rename_i hs;exact O.b.mV (O.aN.same λ_=>by omega) (O.aC omQ omQ) (O.c0 omQ) (O.f hs).2
 ·split
  ·rename_i hs;exact Qk.ask ⟨O.set,O.aJ,O.sz,O.fr,O.r,O.aN.dead not_false,O.c⟩ (O.aN.same λ_=>by omega) (O.aC omQ omQ) (O.c0 omQ)
  ·split
   ·exact Qk.out (x:={ x with ad:=yt x.e }) ⟨O.set,O.aJ,O.sz,O.fr,O.r,O.aN.dead not_false,O.c⟩
   ·split
    ·exact O.b.out
    grind
def gY (x:qf):qf:=if(zN x).1=0 then x else if(zN x).1=5 then zT x 5 0 (zN x).2 else jr x
theorem ZS {x:qf} (O:zG x) (h3:3≤x.state) (h6:x.state≤6):zG (gY x):=by
 unfold gY
 split
 ·grind
 ·split
  ·exact O.b.out
  grind[qJ0]
theorem KP {x:qf} (O:zG x) (h3:3≤x.state) (h6:x.state≤6):zG (q8 x):=OQ (ZS O h3 h6)
theorem XN {x:qf} {a:cE} (O:zG x) (ha:vB a):zG (qL x a):=by
 have cd:=O.st;unfold qL
 split
 ·grind
 ·split
  ·exact O.b.gone
  ·split
   ·exact⟨O.set,O.aJ,O.sz,O.fr,O.r,O.aN.same λ_=>by omega,by simp,λh=>(by grind),λh=>absurd h (by simp),λh=>absurd h (by simp),O.c,λ_=>O.c0 omQ,λh=>by grind⟩
   ·split
    ·exact⟨O.set,O.aJ,O.sz,O.fr,O.r,O.aN.same λ_=>by omega,by simp,λh=>(by grind),λh=>absurd h (by simp),λh=>absurd h (by simp),O.c,λ_=>O.c0 omQ,λh=>by grind⟩
    ·split
     ·exact O.b.iR (O.aN.same λ_=>by omega) (O.c0 omQ)
     ·split
      ·exact⟨O.set,O.aJ,O.sz,O.fr,O.r,O.aN.dead (by simp),by simp,λh=>(by grind),λ_ h=>(by grind),λ_ h=>(by grind),O.c,λh=>(by grind),λh=>by grind⟩
      ·split
       ·rename_i hs;have hf:=O.f hs;refine KP ?_ (by grind) (by grind);exact⟨O.set,O.aJ,O.sz,O.fr,O.r,O.aN,O.st,λ_=>⟨Kv hf.1,XP hf.2 ha⟩,O.aC,O.e,O.c,O.c0,O.c6⟩
       ·split
        ·rename_i hs;refine KP ?_ (by grind) (by grind);refine⟨O.set,O.aJ,O.sz,O.fr,O.r,O.aN,O.st,O.f,O.aC,O.e,λc h=>?_,λh=>absurd h (by grind),λh hn=>O.c6 h ?_⟩
         ·obtain⟨c',h1,rfl⟩:=Option.map_eq_some_iff.1 h;exact yP (O.c c' h1) ha
         simp_all
        ·refine KP ?_ (by grind) (by grind);exact⟨O.set,O.aJ,O.sz,O.fr,O.r,O.aN,O.st,O.f,O.aC,λh1 h2=>KC (O.e h1 h2),O.c,O.c0,O.c6⟩
theorem ZD (w m:Int):zK (uP w m):=⟨jQi w m,λc hc=>(by cases hc),λx hx c hc=>by
 rcases List.mem_cons.1 hx with rfl |hx
 all_goals grind⟩
theorem qYI {me:Int} {S:jz} {j:GT} (O:xZ S) (hj:bS True (uP S.words S.writes) j):zG (NZ me S j):=by have:=O.words;refine⟨O,ZD _ _,?_,by show(0:Nat)<9000;simp,Nat.zero_le _,hj.same λ_=>trivial,by show(0:Int)≤0∧(0:Int)≤8;simp,λh=>(by cases h),λh=>absurd h (by nofun),λh=>absurd h (by nofun),λc h=>(by cases h),λ_=>rfl,nofun⟩;show((fV S.words:Nat):Int)=S.words;grind[fV]
theorem qVu {me:Int} {S:jz} {l:List qR} (hs:0≤S.start) (hc:(xO l).2=0) (Q:Quiet l):zG (Qm me S l):=by
 have O:=gW hs;refine qYI O ?_;have G:=ZD (jO S).words (jO S).writes;have hf:YP (jO S).fuel≤400:=by grind[YP]
 exact⟨U1 hc,Q,(SN (l:=l) rfl G).gb,λ_=>⟨SN rfl G,rfl,rfl,by show(0:Nat)+YP (jO S).fuel<9000;omega⟩,hf⟩
theorem qXF {me:Int} {S:jz} {bs:List Int} (hs:0≤S.start) (hl:bs.length≤100000):zG (QZ me S bs):=qYI (gW hs) ⟨Nat.zero_le _,hl⟩
end
section
structure yr where
  Ce:Int
  aN:Int
  Tb:Int
  aE:Bool
  kind:Int
  err:Int
  bB:Int
  ad:Int
  born:Int
  ended:Int
  reads:List Cl
  cells:List Cl
  dj:List Int
  tu:List UInt8
structure OW where
  kind:Int
  err:Int
  tu:List UInt8
  ad:Int
abbrev V9:Type:=Int×Int
structure qd where
  me:Int
  set:jz
  aD:List (List qR)
  aN:Int
  state:Int
  aE:Bool
  au:List V9
  ak:Int
  aI:Int
  now:Option qf
  born:Int
  cH:Bool
  ao:List yr
  results:List OW
  ay:List V9
  ah:List Int
  ch:Int
  since:Int
  aX:Bool
  br:Int
def ym (x:qf):Int:=if x.state≠8 then 0 else x.err
def Qw (x:qf):Int:=if x.state≠8 then-1 else x.ch
def vH (x:qf):Bool:=decide (x.state≠8)&&x.dB
def zO (t:qd):qd :=
 if t.aN=(t.aD.length:Int)then{ t with born:=0,cH:=false,state:=6,now:=none }
 else{ t with born:=0,cH:=false,state:=1,now:=some (if t.aE=true then QZ t.me t.set (t.au.map (·.1))else Qm t.me t.set ((t.aD[t.aN.toNat]?).getD [])) }
def xw (t:qd):qd:=zO { t with aN:=t.aN+1,aE:=false,au:=[],ak:=0,aI:=0 }
def Uc (me:Int) (s:jz) (aD:List (List qR)):qd :=
 xw ⟨max 0 (min me ((jO s).ag-1)),jO s,aD.take 6,-1,0,false,[],0,0,none,0,false,[],[],[],[],0,0,false,0⟩
def jb (t:qd):Option dG:=if t.state=1 then t.now.bind jd else if t.state=2 then some (bz 8 t.ch 0)else if t.state=5 then some (bz 8 t.ah.length 0)else none
def jY (t:qd) (x:qf) (pick:Int):yr :=
 ⟨t.me,t.aN,t.ak,t.aE,if ql x=true then 2 else jh x,ym x,x.bB,x.ad,t.born,pick,x.v.K,w9 x,zr x,xq x⟩
def vI (aI:Int):Int:=if aI≤0 then 1 else if aI=1 then 2 else if aI=2 then 4 else 8
def xE (t:qd) (draw:Int):qd :=
 if draw%(vI t.aI+1)=0 then zO { t with br:=0,state:=3 }else{ t with br:=draw%(vI t.aI+1),state:=3 }
def jI (ah:List Int) (ad:Int):Bool:=ah.all λx=>decide (x=0∨ad<x)
def yG (t:qd):qd :=
 if(t.ah.length:Int)<t.set.ag then t
 else if(t.ay.filter λr=>jI t.ah r.2)=[]then xw { t with ay:=t.ay.filter λr=>!jI t.ah r.2 }
 else zO { t with ay:=t.ay.filter (λr=>!jI t.ah r.2),aE:=true,au:=t.ay.filter (λr=>jI t.ah r.2),ak:=0,aI:=0 }
def yQ (t:qd):qd:=yG (if(t.ah.length:Int)=t.me then{ t with ah:=t.ah++[0] }else t)
def Qr (t:qd):qd:=if t.ay=[]then xw t else yQ { t with state:=5,ah:=[] }
def Qz (t:qd) (fin:Int):qd:=xw (if fin=4 then{ t with ay:=t.ay++t.au }else t)
def zP (t:qd) (x:qf) (draw pick:Int):qd :=
 let u:={ t with ao:=t.ao++[jY t x pick],ak:=t.ak+1 }
 if jh x=5 then
  (if 0≤Qw x∧Qw x<t.set.ag then{ u with aI:=u.aI+1,state:=2,ch:=Qw x,aX:=false }else xE { u with aI:=u.aI+1 } draw)
 else if jh x=3 then(if u.cH=true then zO u else{ u with state:=4 })
 else if u.aE=true then Qz u (jh x)
 else Qr { u with results:=u.results++[⟨jh x,ym x,xq x,x.ad⟩],ay:=u.ay++(zr x).map λb=>(b,x.ad) }
def zU (t:qd) (x y:qf) (draw pick:Int):qd :=
 let u:={ t with now:=some y,born:=if y.begun=true∧x.begun=false then pick else t.born }
 if jh y=0 then u else zP u y draw pick
def jQ (t:qd) (a:cE) (draw pick:Int):qd :=
 if t.state=1 then(match t.now with
  |none=>t
  |some x=>zU t x (qL x a) draw pick)
 else if t.state=2 then(if a.err=0∧a.word≠0∧(t.aX=false∨a.word=t.since)then{ t with aX:=true,since:=a.word }else xE t draw)
 else if t.state=5 then yQ { t with ah:=t.ah++[if a.err≠0 then 0 else a.word] }
 else t
def jK (t:qd):qd:=if t.state=3 then(if t.br-1=0 then zO { t with br:=0 }else{ t with br:=t.br-1 })else t
def yO (r:List zd) (aB eE:Int):Bool:=r.any λx=>decide (x.1=aB∧x.2≠eE)
def jm (t:qd) (aB eE:Int):qd:=match t.now with
 |none=>t
 |some x=>
  if yO x.r aB eE=true then(if t.state=4 then zO t else if t.state=1∧vH x=true then{ t with cH:=true }else t)
  else t
def qi (t:qd):List yr:=t.ao++(match t.now with
 |some x=>if t.state=1∧x.begun=true then[jY t x 0]else[]
 |none=>[])
structure zl where
  s:jz
  m:jX
  t:List qd
  aA:Int
  last:dG
  did:Bool
def vF (S:jz):jX:=⟨List.replicate S.words.toNat 0,List.replicate S.ae.toNat bK,S.start,List.replicate S.ag.toNat 0,0⟩
def vu (s:jz) (aD:List (List (List qR))):zl :=
 let S:=jO { s with ag:=(aD.take 4).length }
 ⟨S,(qF (vF S) (bz 2 5 14)).2,(List.range S.ag.toNat).map λi:Nat=>Uc i S (((aD.take 4)[i]?).getD []),0,bz 0 0 0,false⟩
def xm (ts:List qd) (i:Nat) (aB eE:Int):List qd:=ts.mapIdx λk t=>if k=i then t else jm t aB eE
def jw (m:zl) (i:Nat) (draw:Int):zl:=match m.t[i]? with
 |none=>m
 |some t=>match jb t with
  |none=>{ m with aA:=m.aA+1,last:=bz 0 0 0,did:=false,t:=m.t.set i (jK t) }
  |some o=>
   let r:=qF m.m o
   let ts:=m.t.set i (jQ t r.1 draw (m.aA+1))
   { m with aA:=m.aA+1,last:=o,did:=true,m:=r.2,t:=if o.kind=5 then xm ts i o.at_ o.lk.1 else ts }
def yL (m:zl):List yr:=m.t.flatMap qi
def vp (m:zl):Bool:=m.t.all λt=>decide (t.state=6∨t.state=4)
end
end Go.Proofs.YtemjbhdofokbhaaGreatDoor
