/- Lemmas for 'quietus/quietuslaw28.MachineWakes': Transactions step by step: plain, as the program has them;The memory: by the program;Patience, a fetch: by the program;The memorys operations: by the ... No condition. -/
import Derived.Test.YthmopakmcboghaaGreatDoorMachineWakesM2
import Derived.Test.YthmopakmcboghaaGreatDoorMachineWakesX
import Derived.Lib.SlicesCompact
namespace Go.Proofs.YthmopakmcboghaaGreatDoor
open Go Go.Ae
set_option maxRecDepth 100000
section
abbrev dy:Type:=Int×Bool×Int
structure dF where
  kind:Int
  at_:Int
  cS:Int
  word:Int
  aZ:dy
  lk:dy
structure cO where
  word:Int
  lk:dy
  done:Bool
  err:Int
structure zZ where
  w:List Int
  l:List dy
  n:Int
  s:List Int
  b6:Int
def cB:dy:=(0,false,0)
def bi (kind at_ word:Int):dF:=⟨kind,at_,0,word,cB,cB⟩
def lg:cO:=⟨0,cB,false,0⟩
def lh (e:Int):cO:=⟨0,cB,false,e⟩
def Ye (l:dy):Prop:=l.1<4611686018427387904∧(if l.2.1=true then 0≤l.2.2∧l.2.2<4 else l.2.2=0)
instance {l:dy}:Decidable (Ye l):=by unfold Ye;infer_instance
def xg (l:List dy) (i:Int):dy:=(l[i.toNat]?).getD cB
def UV (m:zZ) (o:dF):cO×zZ :=
 if o.at_<1∨(m.w.length:Int)≤o.at_ then(lh 2,m)else if o.kind=1 then(⟨qO m.w o.at_,cB,false,0⟩,m)else(lg,{ m with w:=m.w.set o.at_.toNat o.word })
def Gf (m:zZ) (o:dF):cO×zZ :=
 if o.at_<0∨(m.l.length:Int)≤o.at_ then(lh 2,m)
 else if o.kind=3 then(⟨0,xg m.l o.at_,false,0⟩,m)
 else if¬Ye o.lk then(lh 1,m)
 else if o.kind=5 then(lg,{ m with l:=m.l.set o.at_.toNat o.lk })
 else if xg m.l o.at_≠o.aZ then(lg,m)
 else(⟨0,cB,true,0⟩,{ m with l:=m.l.set o.at_.toNat o.lk })
def Xz (m:zZ) (o:dF):cO×zZ :=
 if o.kind=6 then(⟨m.n,cB,false,0⟩,m)
 else if o.word≤o.cS then(lh 1,m)
 else if 4611686018427387904≤o.word then(lh 7,m)
 else if m.n≠o.cS then(lg,m)
 else(⟨0,cB,true,0⟩,{ m with n:=o.word })
def Ya (m:zZ) (o:dF):cO×zZ :=
 if o.at_<0∨(m.s.length:Int)≤o.at_ then(lh 2,m)else if o.kind=8 then(⟨qO m.s o.at_,cB,false,0⟩,m)else(lg,{ m with s:=m.s.set o.at_.toNat o.word })
def qu (m:zZ) (o:dF):cO×zZ :=
 let r:=if o.kind=1∨o.kind=2 then UV m o else if o.kind=3∨o.kind=4∨o.kind=5 then Gf m o else if o.kind=6∨o.kind=7 then Xz m o else if o.kind=8∨o.kind=9 then Ya m o else(lh 1,m)
 if r.1.err=0 then(r.1,{ r.2 with b6:=r.2.b6+1 })else r
def ofM (at_ n wide:Int):Int:=if at_<0 then-1 else(at_/max 1 (min wide 16))%max 1 (min n 16)
def xF (cs:List Cl) (n wide:Int):List Int:=((List.range 16).map λi:Nat=>(i:Int)).filter λs=>cs.any λc=>decide (ofM c.1 n wide=s)
structure JX where
  me:Int
  ao:Int
  fin:Int
  cU:Int
  err:Int
def NE (me ao:Int):JX:=⟨me,max 0 (min ao 4),0,-1,0⟩
def jE (p:JX) (l:dy):Bool×JX:=if p.me<l.2.2 then(true,p)else(decide (0≤p.ao-1),{ p with ao:=p.ao-1 })
def qr (p:JX) (fin err cU:Int):JX:={ p with fin:=fin,err:=err,cU:=cU }
def jK (p:JX) (a:cO):Bool×JX:=if p.fin=0∧a.err≠0 then(true,qr p 4 a.err (-1))else(decide (p.fin≠0),p)
abbrev xD:Type:=Int×Int
structure kK where
  p:JX
  at_:Int
  bV:Int
  af:Int
  state:Int
  lk:dy
  word:Int
def OR (me at_ bV ao af:Int):kK:=⟨NE me ao,at_,bV,af,0,cB,0⟩
def gW (f:kK):Option dF:=if f.p.fin≠0 then none else if f.state=1 then some (bi 1 f.at_ 0)else some (bi 3 f.bV 0)
def vX (f:kK) (l:dy):kK :=
 if l.2.1=true then(if(jE f.p l).1=true then{ f with state:=0,p:=(jE f.p l).2 }else{ f with state:=0,p:=qr (jE f.p l).2 5 0 l.2.2 })
 else if f.af<l.1 then{ f with state:=0,p:=qr f.p 6 0 (-1) }
 else{ f with lk:=l,state:=1 }
def xY (f:kK) (a:cO):kK :=
 if(jK f.p a).1=true then{ f with p:=(jK f.p a).2 }
 else if f.state=1 then{ f with word:=a.word,state:=2 }
 else if f.state=2∧a.lk=f.lk then{ f with p:=qr f.p 2 0 (-1) }
 else vX f a.lk
def xq (f:kK):Int:=if f.p.fin≠2 then 0 else f.word
def xN (f:kK):xD:=if f.p.fin≠2 then(0,0)else(f.bV,f.lk.1)
structure Qv where
  p:JX
  seen:List xD
  bH:Bool
  at_:Int
  af:Int
def NX (me ao:Int) (seen:List xD):Qv:=⟨NE me ao,seen,false,0,0⟩
def z6 (l:List xD) (i:Int):xD:=(l[i.toNat]?).getD (0,0)
def QV (x:Qv):Option dF:=if x.p.fin≠0 then none else if x.bH=false then some (bi 6 0 0)else some (bi 3 (z6 x.seen x.at_).1 0)
def XF (x:Qv):Qv:=if x.at_=(x.seen.length:Int)then{ x with p:=qr x.p 2 0 (-1) }else x
def xO (x:Qv) (a:cO):Qv :=
 if(jK x.p a).1=true then{ x with p:=(jK x.p a).2 }
 else if x.bH=false then XF { x with bH:=true,af:=a.word }
 else if a.lk.2.1=true then(if(jE x.p a.lk).1=true then{ x with p:=(jE x.p a.lk).2 }else{ x with p:=qr (jE x.p a.lk).2 5 0 a.lk.2.2 })
 else if a.lk.1≠(z6 x.seen x.at_).2 then{ x with p:=qr x.p 5 0 (-1) }
 else XF { x with at_:=x.at_+1 }
def yr (x:Qv):Int:=if x.p.fin≠2 then 0 else x.af
structure zL where
  p:JX
  me:Int
  af:Int
  seen:List xD
  cells:List Cl
  s:List Int
  aZ:List dy
  state:Int
  at_:Int
  lk:dy
  now:Int
  writing:Bool
  bL:Int
  Am:Int
  nZ:Int
def Qn (c:zL):zL:={ c with state:=if c.aZ.length=c.s.length then 2 else 0 }
def On (me ao af:Int) (seen:List xD) (cells:List Cl) (n wide:Int):zL :=
 Qn ⟨NE me ao,me,af,seen,cells,xF cells n wide,[],0,0,cB,0,false,0,0,0⟩
def Qk (l:List Cl) (i:Int):Cl:=(l[i.toNat]?).getD (0,0)
def wU (c:zL):Option dF :=
 if c.p.fin≠0 then none
 else if c.state=0 then some (bi 3 (qO c.s c.aZ.length) 0)
 else if c.state=1 then some ⟨4,qO c.s c.aZ.length,0,0,c.lk,(c.lk.1,true,c.me)⟩
 else if c.state=2 then some (bi 6 0 0)
 else if c.state=3 then some ⟨7,0,c.now,c.now+1,cB,cB⟩
 else if c.state=4 then some (bi 3 (z6 c.seen c.at_).1 0)
 else if c.state=5 then some (bi 2 (Qk c.cells c.at_).1 (Qk c.cells c.at_).2)
 else if c.state=6 then some ⟨5,qO c.s c.at_,0,0,cB,(c.now+1,false,0)⟩
 else some ⟨5,qO c.s c.at_,0,0,cB,xg c.aZ c.at_⟩
def wV (c:zL):zL:=if c.at_=(c.aZ.length:Int)then{ c with p:=qr c.p c.bL c.nZ c.Am }else c
def wo (c:zL) (fin err cU:Int):zL:=wV { c with bL:=fin,nZ:=err,Am:=cU,at_:=0,state:=7 }
def kh (c:zL) (l:dy):zL:=if(jE c.p l).1=true then{ c with p:=(jE c.p l).2 }else wo { c with p:=(jE c.p l).2 } 5 0 l.2.2
def ki (c:zL):zL:=if c.at_=(c.s.length:Int)then{ c with p:=qr c.p 2 0 (-1) }else c
def wW (c:zL):zL:=if c.at_=(c.cells.length:Int)then ki { c with at_:=0,state:=6 }else c
def kw (c:zL):zL:=wW { c with writing:=true,at_:=0,state:=5 }
def r8:List Int→List dy→Int→Option Int
 |s::r,w::q,x=>if s=x then some w.1 else r8 r q x
 |_,_,_=>none
def vO (c:zL):Nat→zL
 | 0=>kw c
 |n+1=>
  if c.at_<(c.seen.length:Int)then
   (match r8 c.s c.aZ (z6 c.seen c.at_).1 with
   |none=>c
   |some v=>if v≠(z6 c.seen c.at_).2 then wo c 5 0 (-1)else vO { c with at_:=c.at_+1 } n)
  else kw c
def QL (c:zL):zL:=vO { c with state:=4 } (c.seen.length+1)
def XZ (c:zL) (a:cO):zL :=
 if c.state=0∧a.lk.2.1=true then kh c a.lk
 else if c.state=0 then{ c with lk:=a.lk,state:=1 }
 else if a.done=true then Qn { c with aZ:=c.aZ++[c.lk] }
 else{ c with state:=0 }
def QP (c:zL) (a:cO):zL :=
 if c.state=2∧4611686018427387903≤a.word then wo c 4 7 (-1)
 else if c.state=2 then{ c with now:=a.word,state:=3 }
 else if a.done=false then{ c with state:=2 }
 else if c.now=c.af then kw c
 else QL c
def w7 (c:zL) (l:dy):zL :=
 if l.2.1=true then kh c l
 else if l.1≠(z6 c.seen c.at_).2 then wo c 5 0 (-1)
 else QL { c with at_:=c.at_+1 }
def xL (c:zL) (a:cO):zL :=
 if(jK c.p a).1=true then{ c with p:=(jK c.p a).2 }
 else if c.state=0∨c.state=1 then XZ c a
 else if c.state=2∨c.state=3 then QP c a
 else if c.state=4 then w7 c a.lk
 else if c.state=5 then wW { c with at_:=c.at_+1 }
 else if c.state=6 then ki { c with at_:=c.at_+1 }
 else wV { c with at_:=c.at_+1 }
def Ys (c:zL):Int:=if c.writing=false then 0 else c.now+1
def Q5 (c:zL):Bool:=c.writing&&decide (c.p.fin=0)
structure zK where
  words:Int
  ax:Int
  wide:Int
  aa:Int
  start:Int
  ao:Int
  writes:Int
  fuel:Int
def vh (n lo hi:Int):Int:=max lo (min n hi)
def jG (s:zK):zK:=⟨vh s.words 32 256,vh s.ax 1 16,vh s.wide 1 16,vh s.aa 1 4,min s.start 4611686018427387903,vh s.ao 0 4,vh s.writes 0 96,vh s.fuel 0 400⟩
structure r9 where
  l:List qa
  s:IM
  fin:Int
  err:Int
  left:Nat
inductive Yc where
  |prog (r:r9)
  |aj (blocks:List Int) (k:Nat)
structure q9 where
  me:Int
  set:zK
  au:Yc
  v:VM
  r:List xD
  state:Int
  f:kK
  e:Qv
  c:Option zL
  begun:Bool
  cw:Int
  af:Int
  fin:Int
  cU:Int
  err:Int
  bt:Bool
def Ou (me:Int) (S:zK) (au:Yc):q9:=⟨me,S,au,U1 S.words S.writes,[],0,OR 0 0 0 0 0,NX 0 0 [],none,false,0,0,0,-1,0,false⟩
def yg (me:Int) (S:zK) (l:List qa):q9:=Ou me (jG S) (.prog ⟨l,Qc,0,0,XB (jG S).fuel⟩)
def QF (me:Int) (S:zK) (bs:List Int):q9:=Ou me (jG S) (.aj bs 0)
def jC (x:q9):Option dF :=
 if x.state=0 then some (bi 9 x.me 1)
 else if x.state=1 then some (bi 6 0 0)
 else if x.state=2 then some (bi 9 x.me (zg .u64 (x.af+1)))
 else if x.state=7 then some (bi 9 x.me 0)
 else if x.state=8 then none
 else if x.state=3 then gW x.f
 else if x.state=6 then x.c.bind wU
 else QV x.e
def xH (x:q9) (fin err cU:Int):q9:={ x with fin:=fin,err:=err,cU:=cU,state:=7 }
def Qr (x:q9) (at_:Int):q9:={ x with state:=3,f:=OR x.me at_ (ofM at_ x.set.ax x.set.wide) x.set.ao x.af }
def ww (x:q9) (state:Int):q9:={ x with state:=state,e:=NX x.me x.set.ao x.r }
def xf:VM→List Int→Nat→(Nat×Int)×VM
 |V,[],k=>((k,0),V)
 |V,b::r,k=>if(xE V b).1=0 then xf (xE V b).2 r (k+1)else((k,(xE V b).1),(xE V b).2)
def yY (x:q9):(Int×Int)×q9:=match x.au with
 | .aj bs k=>(if(xf x.v (bs.drop k) k).1.2=11 then(1,0)else if(xf x.v (bs.drop k) k).1.2=0 then(2,0)else(4,(xf x.v (bs.drop k) k).1.2),{ x with au:=.aj bs (xf x.v (bs.drop k) k).1.1,v:=(xf x.v (bs.drop k) k).2 })
 | .prog q=>(((zp q.l (qp q.l) q.left q.s x.v).kind,(zp q.l (qp q.l) q.left q.s x.v).err),{ x with
   au:=.prog ⟨q.l,(zp q.l (qp q.l) q.left q.s x.v).s,if(zp q.l (qp q.l) q.left q.s x.v).kind=1 then 0 else(zp q.l (qp q.l) q.left q.s x.v).kind,(zp q.l (qp q.l) q.left q.s x.v).err,(zp q.l (qp q.l) q.left q.s x.v).left⟩,
   v:=(zp q.l (qp q.l) q.left q.s x.v).v })
def wu (x:q9) (k e:Int):q9 :=
 if k=1 then Qr x x.v.aC
 else if k=3 then ww { x with bt:=true } 5
 else if k=4 then xH x 4 e (-1)
 else if jh x.v.lv=[]then xH x 2 0 (-1)
 else{ x with state:=6,c:=some (On x.me x.set.ao x.af x.r (jh x.v.lv) x.set.ax x.set.wide) }
def xl (x:q9):q9:=wu (yY x).2 (yY x).1.1 (yY x).1.2
def gr (r:List xD) (x:xD):Int×List xD :=
 if x.1<0∨16≤x.1∨4611686018427387904≤x.2 then(1,r)
 else match r.find? λy=>decide (y.1=x.1)with
  |some y=>if y.2≠x.2 then(14,r)else(0,r)
  |none=>if r.length=16 then(5,r)else(0,r++[x])
def xW (x:q9):q9 :=
 if x.f.p.fin=6 then ww x 4
 else if(gr x.r (xN x.f)).1=0 then xl { x with r:=(gr x.r (xN x.f)).2,v:=(yK x.v x.v.aC (xq x.f)).2 }
 else if(gr x.r (xN x.f)).1=14 then xH x 5 0 (-1)
 else xH x 4 (gr x.r (xN x.f)).1 (-1)
def jn (x:q9):Int×Int:=if x.state=3 then(x.f.p.fin,x.f.p.cU)else if x.state=6 then(match x.c with |some c=>(c.p.fin,c.p.cU) |none=>(0,0))else(x.e.p.fin,x.e.p.cU)
def zQ (x:q9):q9 :=
 if x.state=3 then xW x
 else if x.state=4 then Qr { x with af:=yr x.e } x.v.aC
 else if x.state=5 then xH { x with af:=yr x.e } 3 0 (-1)
 else match x.c with |some c=>xH x c.p.fin c.p.err (-1) |none=>x
def zm (x:q9):Bool:=decide (x.state≠8)&&(match x.c with |some c=>Q5 c||decide (c.p.fin=2) |none=>false)
def xK (x:q9):q9:=if zm x=true then(match x.c with |some c=>{ x with af:=Ys c } |none=>x)else x
def jN (x:q9):q9:=xK (if(jn x).1=0 then x else if(jn x).1=5 then xH x 5 0 (jn x).2 else zQ x)
def jY (x:q9) (a:cO):q9 :=
 if x.state=8 then x
 else if a.err≠0 then{ xH x 4 a.err (-1)with state:=8 }
 else if x.state=0 then{ x with state:=1 }
 else if x.state=1 then{ x with begun:=true,cw:=a.word,af:=a.word,state:=2 }
 else if x.state=2 then xl x
 else if x.state=7 then{ x with state:=8 }
 else if x.state=3 then jN { x with f:=xY x.f a }
 else if x.state=6 then jN { x with c:=x.c.map λc=>xL c a }
 else jN { x with e:=xO x.e a }
def jq (x:q9):Int:=if x.state≠8 then 0 else x.fin
def zM (x:q9):Bool:=decide (jq x=2)||zm x
def YM (x:q9):List Cl:=if zM x=true then jh x.v.lv else[]
def zJ (x:q9):List Int:=if zM x=true then(match x.au with | .aj bs _=>bs | .prog _=>xy x.v.lv)else[]
def zG (x:q9):List UInt8:=if zM x=true then(match x.au with | .aj _ _=>[] | .prog q=>YX q.s.out)else[]
end
section
variable {g h:AH} {L R:List SP}
def zW (l:dy):List AV:=[.int .u64 l.1,.bool l.2.1,.int .i64 l.2.2]
def x8 (o:dF):List AV:=[.int .i64 o.kind,.int .i64 o.at_,.int .u64 o.cS,.int .u64 o.word,.int .u64 o.aZ.1,.bool o.aZ.2.1,.int .i64 o.aZ.2.2,.int .u64 o.lk.1,.bool o.lk.2.1,.int .i64 o.lk.2.2]
def zt (a:cO):List AV:=[.int .u64 a.word,.int .u64 a.lk.1,.bool a.lk.2.1,.int .i64 a.lk.2.2,.bool a.done,.int .i64 a.err]
theorem qz8 {l:List dy} {k:Nat} (hk:k<l.length):l[k]? =some (xg l (k:Int)):=by unfold xg;rw[Int.toNat_natCast,iW hk];rfl
theorem MS {l:List dy} {k:Nat} (hk:k<l.length):((l.flatMap zW).drop (k*3)).take 3=zW (xg l (k:Int)):=gJ (sz:=3) (enc:=zW) (λ_=>rfl) (qz8 hk)
section
variable {n b m:Nat} {v:AV} {a:Int} {e:TypeId} {xs:List AV} {R2:List SP}
theorem MD {w o:Int}:Ye (w,true,o)↔w<4611686018427387904∧0≤o∧o<4:=by unfold Ye;simp
theorem Nk {w o:Int}:Ye (w,false,o)↔w<4611686018427387904∧o=0:=by unfold Ye;simp
theorem qz7 {o:Int} (hn:1≤n):aA n 151 [.int .i64 o] h λr h'=>r=.bool (decide (0≤o∧o<4))∧h'=h:=by
 refine aB (S:=S151) rfl omQ λk hk=>?_;unfold S151;try simp only[iZ]
 refine yA (λc2=>?_) (λc2=>?_)
 ·refine qW ?_;(try dsimp only);refine qR ?_;(try dsimp only)
  refine xz (λc3=>?_) (λc3=>?_)
  ·refine qC ?_;exact qY ⟨by rw[iG omQ],rfl⟩
  ·refine qC ?_;exact qY ⟨by rw[iV omQ],rfl⟩
 ·refine qW ?_;(try dsimp only);refine qS ?_;(try dsimp only);refine qF ?_
  exact qY ⟨by rw[iV omQ],rfl⟩
theorem qv3 (hn:2≤n) {l:dy} (H:HS g h R):aA n 127 [.agg (zW l)] h λr h'=>r=.bool (decide (Ye l))∧HS g h' R:=by
 refine aB (S:=S127) rfl omQ λk hk=>?_;unfold S127;try simp only[iZ]
 obtain⟨w,d,o⟩:=l;refine qI H rfl λb h1 H1=>?_;have H1:HS g h1 (qy b [.int .u64 w,.bool d,.int .i64 o]::R):=H1;refine qQ (qX ‹_› .here rfl ?_);cases d with
 |true=>
  refine qZ (qQ (qX ‹_› .here rfl ?_));refine xz (λc1=>?_) (λc1=>?_)
  ·refine qW ?_;(try dsimp only);refine qR ?_;(try dsimp only);refine qQ (qX ‹_› .here rfl ?_)
   refine qG (qz7 omQ) ?_;rintro _ _ ⟨rfl,rfl⟩;refine qC (qY ⟨?_,H1.drop⟩);by_cases hc:0≤o∧o<4
   ·rw[iG hc,iG (MD.2 ⟨by omega,hc⟩)]
   ·rw[iV hc,iV (λh=>hc (MD.1 h).2)]
  ·refine qW ?_;(try dsimp only);refine qS ?_;(try dsimp only);refine qF ?_
   exact qY ⟨by rw[iV (λh=>by have:=(MD.1 h).1;omega)],H1.drop⟩
 |false=>
  refine qJ (qQ (qX ‹_› .here rfl ?_));refine xz (λc1=>?_) (λc1=>?_)
  ·refine qW ?_;(try dsimp only);refine qR ?_;(try dsimp only);refine qQ (qX ‹_› .here rfl ?_)
   refine vw (λc2=>?_) (λc2=>?_)
   ·refine qC ?_;exact qY ⟨by rw[iG (Nk.2 omQ)],H1.drop⟩
   ·refine qC ?_;exact qY ⟨by rw[iV (λh=>by have:=(Nk.1 h).2;omega)],H1.drop⟩
  ·refine qW ?_;(try dsimp only);refine qS ?_;(try dsimp only);refine qF ?_
   exact qY ⟨by rw[iV (λh=>by have:=(Nk.1 h).1;omega)],H1.drop⟩
theorem L3 (hn:1≤n) (H:HS g h L) (s:bc L (qy b [v]) R) (s2:bc L (qD e 1 m v xs) R2) :
  aA n 103 [.ptr b 0,.int .i64 a] h λr h'=>r=.bool (decide (1≤a∧a<m))∧h'=h:=by
 refine ba (S:=S103) rfl omQ λk hk=>?_;unfold S103;try simp only[iZ]
 refine yA (λh1=>?_) (λh1=>?_)
 ·refine qW ?_;(try dsimp only);refine qR ?_;(try dsimp only);refine qK (qQ ?_)
  refine qX H s rfl ?_;refine qm H s2 ?_;refine xz (λh2=>?_) (λh2=>?_)
  ·refine qC ?_;exact qY ⟨by rw[iG omQ],rfl⟩
  ·refine qC ?_;exact qY ⟨by rw[iV omQ],rfl⟩
 ·refine qW ?_;(try dsimp only);refine qS ?_;(try dsimp only);refine qF ?_
  exact qY ⟨by rw[iV omQ],rfl⟩
theorem L4 (hn:1≤n) (H:HS g h L) (s:bc L (qy b [v]) R) (s2:bc L (qD e 1 m v xs) R2) :
  aA n 106 [.ptr b 0,.int .i64 a] h λr h'=>r=.bool (decide (0≤a∧a<m))∧h'=h:=by
 refine ba (S:=S106) rfl omQ λk hk=>?_;unfold S106;try simp only[iZ]
 refine yA (λh1=>?_) (λh1=>?_)
 ·refine qW ?_;(try dsimp only);refine qR ?_;(try dsimp only);refine qK (qQ ?_)
  refine qX H s rfl ?_;refine qm H s2 ?_;refine xz (λh2=>?_) (λh2=>?_)
  ·refine qC ?_;exact qY ⟨by rw[iG omQ],rfl⟩
  ·refine qC ?_;exact qY ⟨by rw[iV omQ],rfl⟩
 ·refine qW ?_;(try dsimp only);refine qS ?_;(try dsimp only);refine qF ?_
  exact qY ⟨by rw[iV omQ],rfl⟩
theorem L5 (hn:1≤n) {wd:AV} (H:HS g h L) (s:bc L (qy b [v,wd]) R) (s2:bc L (qD e 3 m v xs) R2) :
  aA n 104 [.ptr b 0,.int .i64 a] h λr h'=>r=.bool (decide (0≤a∧a<m))∧h'=h:=by
 refine ba (S:=S104) rfl omQ λk hk=>?_;unfold S104;try simp only[iZ]
 refine yA (λh1=>?_) (λh1=>?_)
 ·refine qW ?_;(try dsimp only);refine qR ?_;(try dsimp only);refine qK (qQ ?_)
  refine qX H s rfl ?_;refine qm H s2 ?_;refine xz (λh2=>?_) (λh2=>?_)
  ·refine qC ?_;exact qY ⟨by rw[iG omQ],rfl⟩
  ·refine qC ?_;exact qY ⟨by rw[iV omQ],rfl⟩
 ·refine qW ?_;(try dsimp only);refine qS ?_;(try dsimp only);refine qF ?_
  exact qY ⟨by rw[iV omQ],rfl⟩
theorem qYo {ws:List Int} (hn:2≤n) (H:HS g h L) (s:bc L (qy b [v]) R) (s2:bc L (qD e 1 ws.length v (ws.map (.int .u64))) R2) :
  aA n 70 [.ptr b 0,.int .i64 a] h λr h'=>r=.bJ [.int .u64 (if 1≤a∧a<ws.length then qO ws a else 0),.int .i64 (if 1≤a∧a<ws.length then 0 else 2)]∧h'=h:=by
 refine ba (S:=S70) rfl omQ λk hk=>?_;unfold S70;try simp only[iZ]
 refine qG (L3 omQ H s s2) ?_;rintro _ _ ⟨rfl,rfl⟩;by_cases hc:1≤a∧a<ws.length
 ·rw[iG hc,iJ hc,iJ hc];obtain⟨k,rfl⟩:∃k:Nat,a=k:=⟨a.toNat,by omega⟩;refine jA (qJ (qK (qQ (qX H s rfl ?_))));refine jb (H.sl s2) (x:=.int .u64 (qO ws k)) (by rw[List.getElem?_map,wq omQ];rfl) ?_;exact qY ⟨rfl,rfl⟩
 ·rw[iV hc,iQ hc,iQ hc];refine jF (qZ ?_);exact qY ⟨rfl,rfl⟩
theorem qqe {ws:List Int} (hn:2≤n) (H:HS g h L) (s:bc L (qy b [v]) R) (s2:bc L (qD e 1 ws.length v (ws.map (.int .u64))) R2) :
  aA n 76 [.ptr b 0,.int .i64 a] h λr h'=>r=.bJ [.int .u64 (if 0≤a∧a<ws.length then qO ws a else 0),.int .i64 (if 0≤a∧a<ws.length then 0 else 2)]∧h'=h:=by
 refine ba (S:=S76) rfl omQ λk hk=>?_;unfold S76;try simp only[iZ]
 refine qG (L4 omQ H s s2) ?_;rintro _ _ ⟨rfl,rfl⟩;by_cases hc:0≤a∧a<ws.length
 ·rw[iG hc,iJ hc,iJ hc];obtain⟨k,rfl⟩:∃k:Nat,a=k:=⟨a.toNat,by omega⟩;refine jA (qJ (qK (qQ (qX H s rfl ?_))));refine jb (H.sl s2) (x:=.int .u64 (qO ws k)) (by rw[List.getElem?_map,wq omQ];rfl) ?_;exact qY ⟨rfl,rfl⟩
 ·rw[iV hc,iQ hc,iQ hc];refine jF (qZ ?_);exact qY ⟨rfl,rfl⟩
theorem qXc {ws:List Int} {w:Int} (hn:2≤n) (H:HS g h (qy b [v]::qD e 1 ws.length v (ws.map (.int .u64))::R)) :
  aA n 71 [.ptr b 0,.int .i64 a,.int .u64 w] h λr h'=>r=.int .i64 (if 1≤a∧a<ws.length then 0 else 2)∧
   HS g h' (qy b [v]::qD e 1 (if 1≤a∧a<ws.length then ws.set a.toNat w else ws).length v ((if 1≤a∧a<ws.length then ws.set a.toNat w else ws).map (.int .u64))::R):=by
 refine cL (S:=S71) rfl omQ λk hk=>?_;unfold S71;try simp only[iZ]
 refine qG (L3 omQ H .here e_1) ?_;rintro _ _ ⟨rfl,rfl⟩;by_cases hc:1≤a∧a<ws.length
 ·rw[iG hc];simp only[iJ hc];obtain⟨k,rfl⟩:∃k:Nat,a=k:=⟨a.toNat,by omega⟩;refine jA (qJ (qK (qQ (qX ‹_› .here rfl ?_))));refine XR (H.aI e_1) omQ ⟨rfl,rfl⟩ λh2 H2=>?_;rw[← List.map_set]at H2;exact qY ⟨rfl,by rw[List.length_set];exact H2.sub (.cons e_1 (.cons .here .refl))⟩
 ·rw[iV hc];simp only[iQ hc];refine jF (qZ ?_);exact qY ⟨rfl,H⟩
theorem qZ6 {ws:List Int} {w:Int} (hn:2≤n) (H:HS g h (qy b [v]::qD e 1 ws.length v (ws.map (.int .u64))::R)) :
  aA n 77 [.ptr b 0,.int .i64 a,.int .u64 w] h λr h'=>r=.int .i64 (if 0≤a∧a<ws.length then 0 else 2)∧
   HS g h' (qy b [v]::qD e 1 (if 0≤a∧a<ws.length then ws.set a.toNat w else ws).length v ((if 0≤a∧a<ws.length then ws.set a.toNat w else ws).map (.int .u64))::R):=by
 refine cL (S:=S77) rfl omQ λk hk=>?_;unfold S77;try simp only[iZ]
 refine qG (L4 omQ H .here e_1) ?_;rintro _ _ ⟨rfl,rfl⟩;by_cases hc:0≤a∧a<ws.length
 ·rw[iG hc];simp only[iJ hc];obtain⟨k,rfl⟩:∃k:Nat,a=k:=⟨a.toNat,by omega⟩;refine jA (qJ (qK (qQ (qX ‹_› .here rfl ?_))));refine XR (H.aI e_1) omQ ⟨rfl,rfl⟩ λh2 H2=>?_;rw[← List.map_set]at H2;exact qY ⟨rfl,by rw[List.length_set];exact H2.sub (.cons e_1 (.cons .here .refl))⟩
 ·rw[iV hc];simp only[iQ hc];refine jF (qZ ?_);exact qY ⟨rfl,H⟩
variable {ls:List dy} {wd:AV}
theorem qYs (hn:2≤n) (H:HS g h L) (s:bc L (qy b [v,wd]) R) (s2:bc L (qD e 3 ls.length v (ls.flatMap zW)) R2) :
  aA n 72 [.ptr b 0,.int .i64 a] h λr h'=>r=.bJ [.agg (zW (if 0≤a∧a<ls.length then xg ls a else cB)),.int .i64 (if 0≤a∧a<ls.length then 0 else 2)]∧HS g h' L:=by
 refine ba (S:=S72) rfl omQ λk hk=>?_;unfold S72;try simp only[iZ]
 refine qI H rfl λb0 h1 H1=>?_;refine qG (L5 omQ H1 (.there s) (.there s2)) ?_;rintro _ _ ⟨rfl,rfl⟩;by_cases hc:0≤a∧a<ls.length
 ·rw[iG hc,iJ hc,iJ hc];obtain⟨k,rfl⟩:∃k:Nat,a=k:=⟨a.toNat,by omega⟩;refine jA (qJ (qK (qQ (qX H1 (.there s) rfl ?_))));refine zS (l:=zW (xg ls k)) (H1.sl (.there s2)) omQ omQ (MS omQ) ?_;refine qd H1 (b:=b0) .here rfl (by show 0+3≤3;omega) rfl λh2 H2=>?_;refine qE H2 (b:=b0) (off:=0) .here rfl omQ (l:=zW (xg ls k)) rfl ?_;exact qY ⟨rfl,H2.drop⟩
 ·rw[iV hc,iQ hc,iQ hc];refine jF (qZ (qL rfl ?_));refine qd H1 (b:=b0) .here rfl (by show 0+3≤3;omega) rfl λh2 H2=>?_;refine qE H2 (b:=b0) (off:=0) .here rfl omQ (l:=zW cB) rfl ?_;exact qY ⟨rfl,H2.drop⟩
def kX (n:Nat) (a:Int) (l:dy):Int:=if 0≤a∧a<n then(if Ye l then 0 else 1)else 2
theorem L6 {l:dy} (hn:3≤n) (H:HS g h L) (s:bc L (qy b [v,wd]) R) (s2:bc L (qD e 3 m v xs) R2) :
  aA n 105 [.ptr b 0,.int .i64 a,.agg (zW l)] h λr h'=>r=.int .i64 (kX m a l)∧HS g h' L:=by
 refine cL (S:=S105) rfl omQ λk hk=>?_;unfold S105;try simp only[iZ]
 unfold kX;refine qI H rfl λb0 h1 H1=>?_;refine qG (L5 omQ H1 (.there s) (.there s2)) ?_;rintro _ _ ⟨rfl,rfl⟩;by_cases hc:0≤a∧a<m
 ·rw[iG hc,iJ hc];refine jA (qJ (qE H1 (b:=b0) (off:=0) .here rfl omQ (l:=zW l) rfl ?_));refine qG (qv3 omQ H1) ?_;rintro _ h2 ⟨rfl,H2⟩;by_cases hl:Ye l
  ·rw[iG hl,iJ hl];refine jA (qJ ?_);exact qY ⟨rfl,H2.drop⟩
  ·rw[iV hl,iQ hl];refine jF (qZ ?_);exact qY ⟨rfl,H2.drop⟩
 ·rw[iV hc,iQ hc];refine jF (qZ ?_);exact qY ⟨rfl,H1.drop⟩
theorem L7 (x y:dy):xk [.lA .int 0,.lA .bool 1,.lA .int 2] (zW x) (zW y)=some (decide (x=y)):=by obtain⟨a,b,c⟩:=x;obtain⟨a',b',c'⟩:=y;show(bif lm a a' then(bif b==b' then(bif lm c c' then some true else some false)else some false)else some false)=_;rw[XW,XW];by_cases h1:a=a'<;>by_cases h3:c=c'<;>cases b<;>cases b'<;>simp[h1,h3]
theorem qx5 {aZ l:dy} (hn:4≤n) (H:HS g h (qy b [v,wd]::qD e 3 ls.length v (ls.flatMap zW)::R)) :
  aA n 73 [.ptr b 0,.int .i64 a,.agg (zW aZ),.agg (zW l)] h λr h'=>r=.bJ [.bool (decide (kX ls.length a l=0∧xg ls a=aZ)),.int .i64 (kX ls.length a l)]∧
   HS g h' (qy b [v,wd]::qD e 3 (if kX ls.length a l=0∧xg ls a=aZ then ls.set a.toNat l else ls).length v ((if kX ls.length a l=0∧xg ls a=aZ then ls.set a.toNat l else ls).flatMap zW)::R):=by
 (refine qA (g:=W73) rfl omQ λk hk=>?_;show wp (S73 (callT tab qz k) _ _ _ _ _) _;unfold S73;try simp only[iI,uU,iZ])
 refine qI H rfl λb0 h1 H1=>?_;refine qI H1 rfl λb1 h2 H2=>?_;refine qE H2 (b:=b1) (off:=0) .here rfl omQ (l:=zW l) rfl ?_;refine qG (L6 (l:=l) omQ H2 e_2 e_3) ?_;rintro _ h3 ⟨rfl,H3⟩;by_cases c0:kX ls.length a l=0
 rotate_left
 ·refine jQ c0 ?_;refine qZ ?_;rw[iV (λh=>c0 h.1)];simp only[iQ (show¬(kX ls.length a l=0∧xg ls a=aZ)from λh=>c0 h.1)];exact qY ⟨rfl,H3.drop.drop⟩
 have hc:0≤a∧a<ls.length:=by
  unfold kX at c0
  split at c0
  ·assumption
  ·cases c0
 obtain⟨k,rfl⟩:∃k:Nat,a=k:=⟨a.toNat,by omega⟩;refine jJ c0 ?_;refine qJ (qK (qQ (qX ‹_› e_2 rfl ?_)));refine zS (l:=zW (xg ls k)) (H3.sl e_3) omQ omQ (MS omQ) ?_;refine qE H3 (b:=b0) (off:=0) e_1 rfl omQ (l:=zW aZ) rfl ?_;refine LG (p:=xg ls k=aZ) (L7 _ _) (λc1=>?_) (λc1=>?_)
 ·rw[iG ⟨c0,c1⟩];simp only[iJ (show kX ls.length k l=0∧xg ls k=aZ from⟨c0,c1⟩)];rw[c0];refine qJ (qK (qQ (qX ‹_› e_2 rfl ?_)));refine qE H3 (b:=b1) (off:=0) .here rfl omQ (l:=zW l) rfl ?_;refine Fl (l:=zW l) (i:=k) (H3.aI e_3) omQ rfl rfl λh4 H4=>?_;rw[MT (sz:=3) (enc:=zW) (l:=ls) (i:=k) (a:=l) (λ_=>rfl) omQ]at H4;exact qY ⟨rfl,by rw[List.length_set];exact H4.sub (.cons e_3 (.cons .here (.drop (.drop .refl))))⟩
 ·rw[iV (λh=>c1 h.2)];simp only[iQ (show¬(kX ls.length k l=0∧xg ls k=aZ)from λh=>c1 h.2)];rw[c0];refine qZ ?_;exact qY ⟨rfl,H3.drop.drop⟩
theorem qK9 {l:dy} (hn:4≤n) (H:HS g h (qy b [v,wd]::qD e 3 ls.length v (ls.flatMap zW)::R)) :
  aA n 74 [.ptr b 0,.int .i64 a,.agg (zW l)] h λr h'=>r=.int .i64 (kX ls.length a l)∧
   HS g h' (qy b [v,wd]::qD e 3 (if kX ls.length a l=0 then ls.set a.toNat l else ls).length v ((if kX ls.length a l=0 then ls.set a.toNat l else ls).flatMap zW)::R):=by
 refine cL (S:=S74) rfl omQ λk hk=>?_;unfold S74;try simp only[iZ]
 refine qI H rfl λb0 h1 H1=>?_;refine qE H1 (b:=b0) (off:=0) .here rfl omQ (l:=zW l) rfl ?_;refine qG (L6 (l:=l) omQ H1 e_1 e_2) ?_;rintro _ h3 ⟨rfl,H3⟩;refine qW ?_
 try dsimp only
 by_cases c0:kX ls.length a l=0
 rotate_left
 ·refine qj c0 ?_;refine qJ (qx ?_);simp only[iQ c0];exact qY ⟨rfl,H3.drop⟩
 have hc:0≤a∧a<ls.length:=by
  unfold kX at c0
  split at c0
  ·assumption
  ·cases c0
 obtain⟨k,rfl⟩:∃k:Nat,a=k:=⟨a.toNat,by omega⟩;refine qk c0 ?_;simp only[iJ c0];refine qZ (qK (qQ (qX ‹_› e_1 rfl ?_)));refine qE H3 (b:=b0) (off:=0) .here rfl omQ (l:=zW l) rfl ?_;refine Fl (l:=zW l) (i:=k) (H3.aI e_2) omQ rfl rfl λh4 H4=>?_;rw[MT (sz:=3) (enc:=zW) (l:=ls) (i:=k) (a:=l) (λ_=>rfl) omQ]at H4;refine qx ?_;exact qY ⟨rfl,by rw[List.length_set];exact H4.sub (.cons e_2 (.cons .here (.drop .refl)))⟩
end
def uw (p hb tb cb sb:Nat) (wv lv sv:AV) (S:zK) (M:zZ) (R:List SP):List SP :=
 qy p [.int .i64 S.words,.int .i64 S.ax,.int .i64 S.wide,.int .i64 S.aa,.int .u64 S.start,.ptr hb 0,.ptr tb 0,.ptr cb 0,.ptr sb 0,.int .i64 M.b6]::qy hb [wv]::qD 24 1 M.w.length wv (M.w.map (.int .u64))::
 qy tb [lv,.int .i64 S.wide]::qD 65 3 M.l.length lv (M.l.flatMap zW)::qy cb [.int .u64 M.n]::qy sb [sv]::qD 24 1 M.s.length sv (M.s.map (.int .u64))::R
def bQ (p:Nat) (S:zK) (M:zZ):SP:=.ex λq:(Nat×Nat×Nat×Nat)×AV×AV×AV=>.all (uw p q.1.1 q.1.2.1 q.1.2.2.1 q.1.2.2.2 q.2.1 q.2.2.1 q.2.2.2 S M [])
section
variable {p hb tb cb sb:Nat} {wv lv sv:AV} {S:zK} {M:zZ}
theorem bQ.E (H:HS g h (bQ p S M::R)):∃hb tb cb sb wv lv sv,HS g h (qy p [.int .i64 S.words,.int .i64 S.ax,.int .i64 S.wide,.int .i64 S.aa,.int .u64 S.start,.ptr hb 0,.ptr tb 0,.ptr cb 0,.ptr sb 0,.int .i64 M.b6]::qy hb [wv]::qD 24 1 M.w.length wv (M.w.map (.int .u64))::
  qy tb [lv,.int .i64 S.wide]::qD 65 3 M.l.length lv (M.l.flatMap zW)::qy cb [.int .u64 M.n]::qy sb [sv]::qD 24 1 M.s.length sv (M.s.map (.int .u64))::R):=by
 obtain⟨⟨⟨hb,tb,cb,sb⟩,wv,lv,sv⟩,H⟩:=H.dU;exact⟨hb,tb,cb,sb,wv,lv,sv,H.cq⟩
theorem bQ.I (H:HS g h (uw p hb tb cb sb wv lv sv S M R)):HS g h (bQ p S M::R):=HS.en ((hb,tb,cb,sb),wv,lv,sv) (HS.allI (A:=uw p hb tb cb sb wv lv sv S M []) H)
end
end
section
variable {g h:AH} {L R:List SP}
def x6 (p:JX) (xs:List AV):List AV:=.int .i64 p.me:: .int .i64 p.ao:: .int .i64 p.fin:: .int .i64 p.cU:: .int .i64 p.err::xs
def rC (o:Option dF):AV:=.bJ [.agg (x8 (o.getD (bi 0 0 0))),.bool o.isSome]
def GT (p:JX):Prop:=p.fin=0→0≤p.ao∧p.ao≤4
section
variable {n b:Nat} {p:JX} {xs:List AV}
theorem NJ {me sp:Int} (hn:1≤n) (H:HS g h R):aA n 140 [.int .i64 me,.int .i64 sp] h λr h'=>r=.agg (x6 (NE me sp) [])∧HS g h' R:=by
 refine ba (S:=S140) rfl omQ λk hk=>?_;unfold S140;try simp only[iZ]
 refine qI H rfl λb h1 H1=>?_;refine zz (zh (qL rfl ?_));refine qd H1 (b:=b) .here rfl (by show 0+5≤5;omega) rfl λh2 H2=>?_;refine qE H2 (b:=b) (off:=0) .here rfl omQ (l:=x6 (NE me sp) []) rfl ?_;exact qY ⟨rfl,H2.drop⟩
theorem Jn (hn:1≤n) (H:HS g h L) (s:bc L (qy b (x6 p xs)) R):aA n 125 [.ptr b 0] h λr h'=>r=.int .i64 p.fin∧h'=h:=by
 refine aB (S:=S125) rfl omQ λk hk=>?_;unfold S125;try simp only[iZ]
 refine qK (qQ ?_);exact qX H s rfl (qY ⟨rfl,rfl⟩)
theorem qjM (hn:1≤n) (H:HS g h L) (s:bc L (qy b (x6 p xs)) R):aA n 177 [.ptr b 0] h λr h'=>r=.int .i64 p.err∧h'=h:=by
 refine aB (S:=S177) rfl omQ λk hk=>?_;unfold S177;try simp only[iZ]
 refine qK (qQ ?_);exact qX H s rfl (qY ⟨rfl,rfl⟩)
theorem Ha (hn:1≤n) (H:HS g h L) (s:bc L (qy b (x6 p xs)) R):aA n 365 [.ptr b 0] h λr h'=>r=.int .i64 p.cU∧h'=h:=by
 refine aB (S:=S365) rfl omQ λk hk=>?_;unfold S365;try simp only[iZ]
 refine qK (qQ ?_);exact qX H s rfl (qY ⟨rfl,rfl⟩)
theorem vr {f e y:Int} (hn:1≤n) (H:HS g h (qy b (x6 p xs)::R)):aA n 367 [.ptr b 0,.int .i64 f,.int .i64 e,.int .i64 y] h λ_ h'=>HS g h' (qy b (x6 (qr p f e y) xs)::R):=by
 refine pu (S:=S367) rfl omQ λk hk=>?_;unfold S367;try simp only[iZ]
 unfold x6 at H;refine qK (qQ (qw H (b:=b) .here ⟨rfl,rfl⟩ aN λh1 H1=>?_));refine qK (qQ (qw H1 (b:=b) .here ⟨rfl,rfl⟩ aN λh2 H2=>?_));refine qK (qQ (qw H2 (b:=b) .here ⟨rfl,rfl⟩ aN λh3 H3=>?_));exact qY H3
theorem GJ {l:dy} (hn:1≤n) (hp:0≤p.ao∧p.ao≤4) (H:HS g h (qy b (x6 p xs)::R)):aA n 369 [.ptr b 0,.agg (zW l)] h λr h'=>r=.bool (jE p l).1∧HS g h' (qy b (x6 (jE p l).2 xs)::R):=by
 refine ba (S:=S369) rfl omQ λk hk=>?_;unfold S369;try simp only[iZ]
 refine qI H rfl λb0 h1 H1=>?_;have H1:HS g h1 (qy b0 (zW l)::qy b (.int .i64 p.me:: .int .i64 p.ao:: .int .i64 p.fin:: .int .i64 p.cU:: .int .i64 p.err::xs)::R):=H1;unfold zW at H1;refine qQ (qX ‹_› .here rfl ?_);refine qK (qQ (qX ‹_› e_1 rfl ?_));unfold jE;by_cases c:p.me<l.2.2
 ·refine y8 c ?_;rw[iJ c];refine qZ ?_;exact qY ⟨rfl,H1.drop⟩
 ·refine yU c ?_;rw[iQ c];refine qJ (qK (qQ (qX ‹_› e_1 rfl ?_)));refine zB omQ ?_;refine qK (qQ (qw H1 (b:=b) e_1 ⟨rfl,rfl⟩ aN λh2 H2=>?_));have H2:HS g h2 (qy b (.int .i64 p.me:: .int .i64 (p.ao-1):: .int .i64 p.fin:: .int .i64 p.cU:: .int .i64 p.err::xs)::qy b0 (zW l)::R):=H2;refine qK (qQ (qX ‹_› .here rfl ?_));refine yA (λc2=>?_) (λc2=>?_)
  ·exact qY ⟨by rw[iG omQ],H2.sub (.cons .here (.drop .refl))⟩
  ·exact qY ⟨by rw[iV omQ],H2.sub (.cons .here (.drop .refl))⟩
theorem Jj {a:cO} (hn:2≤n) (H:HS g h (qy b (x6 p xs)::R)):aA n 366 [.ptr b 0,.agg (zt a)] h λr h'=>r=.bool (jK p a).1∧HS g h' (qy b (x6 (jK p a).2 xs)::R):=by
 refine ba (S:=S366) rfl omQ λk hk=>?_;unfold S366;try simp only[iZ]
 refine qI H rfl λb0 h1 H1=>?_;have H1:HS g h1 (qy b0 (zt a)::qy b (.int .i64 p.me:: .int .i64 p.ao:: .int .i64 p.fin:: .int .i64 p.cU:: .int .i64 p.err::xs)::R):=H1;unfold zt at H1;refine jm [] (λs h'=>s=(.ptr b 0,())∧HS g h' (qy b (x6 (if p.fin=0∧a.err≠0 then qr p 4 a.err (-1)else p) xs)::R)) ?_ ?_
 rotate_left
 ·rintro s h2 ⟨rfl,H2⟩;unfold x6 at H2;refine qK (qQ (qX ‹_› .here rfl ?_));by_cases c:p.fin=0∧a.err≠0
  ·rw[iJ c]at H2;rw[show jK p a=(true,qr p 4 a.err (-1))from iJ c];rw[iJ c];refine jQ (by show(4:Int)≠0;decide) ?_;refine qx ?_;exact qY ⟨rfl,H2⟩
  ·rw[iQ c]at H2;rw[show jK p a=(decide (p.fin≠0),p)from iQ c];rw[iQ c];refine yx (λc2=>?_) (λc2=>?_)
   ·refine qx ?_;exact qY ⟨congrArg AV.bool (iG (p:=p.fin≠0) c2).symm,H2⟩
   ·refine qx ?_;exact qY ⟨congrArg AV.bool (iV (p:=p.fin≠0) (λh=>h c2)).symm,H2⟩
 intro j hj;refine qK (qQ (qX ‹_› e_1 rfl ?_));by_cases c:p.fin=0
 ·refine qk c ?_;refine qW ?_;(try dsimp only);refine qR ?_;(try dsimp only);refine qQ (qX ‹_› .here rfl ?_)
  by_cases c2:a.err=0
  ·refine jJ c2 ?_;refine qC (qJ ?_);exact hj _ _ ⟨rfl,by rw[iQ (λh=>h.2 c2)];exact H1.drop⟩
  ·refine jQ c2 ?_;refine qC (qZ (qQ (qX ‹_› .here rfl ?_)));refine qG (vr (p:=p) omQ (H1.aI e_1)) λ_ h2 H2=>?_;exact hj _ _ ⟨rfl,by rw[iJ ⟨c,c2⟩];exact H2.sub (.cons .here (.drop .refl))⟩
 ·refine qj c ?_;refine qW ?_;(try dsimp only);refine qS ?_;(try dsimp only);refine qF (qJ ?_)
  exact hj _ _ ⟨rfl,by rw[iQ (λh=>c h.1)];exact H1.drop⟩
end
def gH (f:kK):List AV:=x6 f.p [.int .i64 f.at_,.int .i64 f.bV,.int .u64 f.af,.int .i64 f.state,.int .u64 f.lk.1,.bool f.lk.2.1,.int .i64 f.lk.2.2,.int .u64 f.word]
section
variable {n b:Nat} {f:kK}
theorem qzl {me at_ st sp t:Int} (hn:2≤n) (H:HS g h R):aA n 136 [.int .i64 me,.int .i64 at_,.int .i64 st,.int .i64 sp,.int .u64 t] h λr h'=>∃b,r=.ptr b 0∧HS g h' (qy b (gH (OR me at_ st sp t))::R):=by
 refine Fo (S:=S136) rfl omQ λk hk=>?_;unfold S136;try simp only[iZ]
 refine qG (NJ omQ H) ?_;rintro _ h1 ⟨rfl,H1⟩;unfold x6;refine qL rfl ?_;refine qI H1 rfl λb h2 H2=>qY ⟨b,rfl,H2⟩
theorem qV6 (hn:2≤n) (H:HS g h (qy b (gH f)::R)):aA n 363 [.ptr b 0] h λr h'=>r=rC (gW f)∧HS g h' (qy b (gH f)::R):=by
 refine aB (S:=S363) rfl omQ λk hk=>?_;unfold S363;try simp only[iZ]
 refine qI H rfl λb0 h1 H1=>?_;refine qK (qQ (qG (Jn omQ H1 e_1) ?_));rintro _ _ ⟨rfl,rfl⟩;unfold gW;have H2:=H1;unfold gH x6 at H2;by_cases c:f.p.fin=0
 ·refine jJ c ?_;rw[iQ (λh=>h c)];refine qJ (qK (qQ (qX ‹_› e_1 rfl ?_)));by_cases c2:f.state=1
  ·refine qk c2 ?_;rw[iJ c2];refine qZ (qK (qQ (qX ‹_› e_1 rfl ?_)));refine qL rfl ?_;refine qd H1 (b:=b0) .here rfl (by show 0+10≤10;omega) rfl λh3 H3=>?_;refine qE H3 (b:=b0) (off:=0) .here rfl omQ (l:=x8 (bi 1 f.at_ 0)) rfl ?_;exact qY ⟨rfl,H3.drop⟩
  ·refine qj c2 ?_;rw[iQ c2];refine qJ (qK (qQ (qX ‹_› e_1 rfl ?_)));refine qL rfl ?_;refine qd H1 (b:=b0) .here rfl (by show 0+10≤10;omega) rfl λh3 H3=>?_;refine qE H3 (b:=b0) (off:=0) .here rfl omQ (l:=x8 (bi 3 f.bV 0)) rfl ?_;exact qY ⟨rfl,H3.drop⟩
 ·refine jQ c ?_;rw[iJ c];refine qZ (qL rfl ?_);refine qd H1 (b:=b0) .here rfl (by show 0+10≤10;omega) rfl λh3 H3=>?_;refine qE H3 (b:=b0) (off:=0) .here rfl omQ (l:=x8 (bi 0 0 0)) rfl ?_;exact qY ⟨rfl,H3.drop⟩
theorem VP {l:dy} (hn:2≤n) (hp:0≤f.p.ao∧f.p.ao≤4) (H:HS g h (qy b (gH f)::R)):aA n 368 [.ptr b 0,.agg (zW l)] h λ_ h'=>HS g h' (qy b (gH (vX f l))::R):=by
 refine ba (S:=S368) rfl omQ λk hk=>?_;unfold S368;try simp only[iZ]
 refine qI H rfl λb0 h1 H1=>?_;unfold gH x6 zW at H1;refine qK (qQ (qw H1 (b:=b) e_1 ⟨rfl,rfl⟩ aN λh2 H2=>?_));have H2:HS g h2 (qy b (gH { f with state:=0 })::qy b0 (zW l)::R):=H2;have H3:=H2;unfold gH x6 zW at H3;refine qW ?_;(try dsimp only);refine qQ (qX ‹_› e_1 rfl ?_)
 unfold vX;obtain⟨w,d,o⟩:=l;cases d with
 |true=>
  rw[iJ rfl];refine qZ (qK (qQ (qE H2 (b:=b0) (off:=0) e_1 rfl omQ (l:=zW (w,true,o)) rfl ?_)));refine qG (GJ (l:=(w,true,o)) omQ hp H2) ?_;rintro _ h4 ⟨rfl,H4⟩;cases hw:(jE f.p (w,true,o)).1 with
  |true=>rw[iJ rfl];refine jA (qJ (qx ?_));exact qY (H4.sub (.cons .here (.drop .refl)))
  |false=>rw[iQ aN];have H5:=H4;unfold zW at H5;refine jF (qZ (qK (qQ (qQ (qX ‹_› e_1 rfl ?_)))));refine qG (vr omQ H4) λ_ h5 H5=>?_;refine qx ?_;exact qY (H5.sub (.cons .here (.drop .refl)))
 |false=>
  rw[iQ aN];refine qJ (qQ (qX ‹_› e_1 rfl ?_));refine qK (qQ (qX ‹_› .here rfl ?_));by_cases c:f.af<w
  ·refine y8 c ?_;rw[iJ c];refine qZ (qK (qQ (qG (vr omQ H2) λ_ h5 H5=>?_)));refine qx ?_;exact qY (H5.sub (.cons .here (.drop .refl)))
  ·refine yU c ?_;rw[iQ c];refine qJ (qE H3 (b:=b0) (off:=0) e_1 rfl omQ (l:=zW (w,false,o)) rfl ?_);refine qK (qQ (qd H3 (b:=b) .here rfl (by show 9+3≤13;omega) rfl λh5 H5=>?_));refine qK (qQ (qw H5 (b:=b) .here ⟨rfl,rfl⟩ (by simp[wA]) λh6 H6=>?_));refine qx ?_;exact qY (H6.sub (.cons .here (.drop .refl)))
theorem qGt {a:cO} (hn:3≤n) (hp:GT f.p) (H:HS g h (qy b (gH f)::R)):aA n 364 [.ptr b 0,.agg (zt a)] h λ_ h'=>HS g h' (qy b (gH (xY f a))::R):=by
 (refine qA (g:=W364) rfl omQ λk hk=>?_;show wp (S364 (callT tab qz k) _ _ _) _;unfold S364;try simp only[iI,uU,iZ])
 generalize hF:xY f a=F;refine qI H rfl λb0 h1 H1=>?_;refine jm [] (λ_ h'=>HS g h' (qy b (gH F)::R)) (λj hj=>?_) λ_ h' H'=>?_
 rotate_left
 ·refine qx ?_;exact qY H'
 refine qK (qQ (qE H1 (b:=b0) (off:=0) .here rfl omQ (l:=zt a) rfl ?_));refine qG (Jj omQ (H1.aI e_1)) ?_;rintro _ h2 ⟨rfl,H2⟩;unfold xY at hF;cases hs:(jK f.p a).1 with
 |true=>rw[iJ hs]at hF;refine qZ ?_;exact hj _ _ (by rw[← hF];exact H2.sub (.cons .here (.drop .refl)))
 |false=>
  rw[iQ (by rw[hs];simp)]at hF;have pN:(jK f.p a).2=f.p∧f.p.fin=0:=by
   unfold jK at hs ⊢
   split at hs
   ·cases hs
   ·rename_i c;rw[iQ c];exact⟨rfl,by simpa using hs⟩
  rw[pN.1]at H2;have H3:HS g h2 (qy b (gH f)::qy b0 (zt a)::R):=H2;have H4:=H3;unfold gH x6 zt at H4;refine qJ (qK (qQ (qX ‹_› .here rfl ?_)));by_cases c1:f.state=1
  ·refine qk c1 ?_;rw[iJ c1]at hF;refine qZ (qQ (qX ‹_› e_1 rfl ?_));refine qK (qQ (qw H4 (b:=b) .here ⟨rfl,rfl⟩ aN λh5 H5=>?_));refine qK (qQ (qw H5 (b:=b) .here ⟨rfl,rfl⟩ aN λh6 H6=>?_));exact hj _ _ (by rw[← hF];exact H6.sub (.cons .here (.drop .refl)))
  refine qj c1 ?_;rw[iQ c1]at hF;refine qJ (qK (qQ (qX ‹_› .here rfl ?_)));by_cases c2:f.state=2
  ·refine qk c2 ?_;refine qW ?_;(try dsimp only);refine qR ?_;(try dsimp only);refine qQ ?_
   refine qE H4 (b:=b0) (off:=1) e_1 rfl omQ (l:=zW a.lk) rfl ?_;refine qK (qQ (qE H4 (b:=b) (off:=9) .here rfl omQ (l:=zW f.lk) rfl ?_));refine LG (p:=a.lk=f.lk) (L7 _ _) (λc3=>?_) (λc3=>?_)
   ·rw[iJ ⟨c2,c3⟩]at hF;show wp (kV (.bool true) (.bool true) (.bool false) _) _;refine qC (qZ (qK (qQ (qG (vr omQ H3) λ_ h5 H5=>?_))));exact hj _ _ (by rw[← hF];exact H5.sub (.cons .here (.drop .refl)))
   ·rw[iQ (λh=>c3 h.2)]at hF;refine qC (qJ (qQ (qE H4 (b:=b0) (off:=1) e_1 rfl omQ (l:=zW a.lk) rfl ?_)));refine qG (VP omQ (hp pN.2) H3) λ_ h5 H5=>?_;exact hj _ _ (by rw[← hF];exact H5.sub (.cons .here (.drop .refl)))
  ·refine qj c2 ?_;rw[iQ (λh=>c2 h.1)]at hF;refine qW ?_;(try dsimp only);refine qS ?_;(try dsimp only);refine qF (qJ (qQ ?_))
   refine qE H4 (b:=b0) (off:=1) e_1 rfl omQ (l:=zW a.lk) rfl ?_;refine qG (VP omQ (hp pN.2) H3) λ_ h5 H5=>?_;exact hj _ _ (by rw[← hF];exact H5.sub (.cons .here (.drop .refl)))
theorem Gt (hn:2≤n) (H:HS g h L) (s:bc L (qy b (gH f)) R):aA n 171 [.ptr b 0] h λr h'=>r=.int .i64 f.p.fin∧h'=h:=by
 refine aB (S:=S171) rfl omQ λk hk=>?_;unfold S171;try simp only[iZ]
 refine qK (qQ (qG (Jn omQ H s) ?_));rintro _ _ ⟨rfl,rfl⟩;exact qY ⟨rfl,rfl⟩
theorem qvT (hn:2≤n) (H:HS g h L) (s:bc L (qy b (gH f)) R):aA n 362 [.ptr b 0] h λr h'=>r=.int .i64 f.p.cU∧h'=h:=by
 refine aB (S:=S362) rfl omQ λk hk=>?_;unfold S362;try simp only[iZ]
 refine qK (qQ (qG (Ha omQ H s) ?_));rintro _ _ ⟨rfl,rfl⟩;exact qY ⟨rfl,rfl⟩
theorem qWN (hn:3≤n) (H:HS g h L) (s:bc L (qy b (gH f)) R):aA n 175 [.ptr b 0] h λr h'=>r=.int .u64 (xq f)∧h'=h:=by
 refine aB (S:=S175) rfl omQ λk hk=>?_;unfold S175;try simp only[iZ]
 refine qG (Gt omQ H s) ?_;rintro _ _ ⟨rfl,rfl⟩;unfold xq;by_cases c:f.p.fin=2
 ·refine jJ c ?_;rw[iQ (λh=>h c)];refine qJ (qK (qQ ?_));exact qX H s rfl (qY ⟨rfl,rfl⟩)
 ·refine jQ c ?_;rw[iJ c];refine qZ ?_;exact qY ⟨rfl,rfl⟩
def yf (x:xD):List AV:=[.int .i64 x.1,.int .u64 x.2]
theorem qGU (hn:3≤n) (H:HS g h L) (s:bc L (qy b (gH f)) R):aA n 173 [.ptr b 0] h λr h'=>r=.agg (yf (xN f))∧HS g h' L:=by
 refine aB (S:=S173) rfl omQ λk hk=>?_;unfold S173;try simp only[iZ]
 refine qI H rfl λb0 h1 H1=>?_;refine qG (Gt omQ H1 (.there s)) ?_;rintro _ _ ⟨rfl,rfl⟩;unfold xN;by_cases c:f.p.fin=2
 ·refine jJ c ?_;rw[iQ (λh=>h c)];refine qJ (qK (qQ (qX H1 (.there s) rfl ?_)));refine qK (qQ (qX H1 (.there s) rfl ?_));refine qL rfl ?_;refine qd H1 (b:=b0) .here rfl (by show 0+2≤2;omega) rfl λh3 H3=>?_;refine qE H3 (b:=b0) (off:=0) .here rfl omQ (l:=yf (f.bV,f.lk.1)) rfl ?_;exact qY ⟨rfl,H3.drop⟩
 ·refine jQ c ?_;rw[iJ c];refine qZ (qL rfl ?_);refine qd H1 (b:=b0) .here rfl (by show 0+2≤2;omega) rfl λh3 H3=>?_;refine qE H3 (b:=b0) (off:=0) .here rfl omQ (l:=yf (0,0)) rfl ?_;exact qY ⟨rfl,H3.drop⟩
end
end
section
variable {g h:AH} {L R:List SP}
section
variable {n m:Nat} {v:AV} {xs:List AV}
theorem qVE (hn:1≤n) (H:HS g h L) (s:bc L (qD 24 1 m v xs) R) (ha:ql xs=true) (hm:m≤1000000) :
  aA n 94 [v] h λr h'=>HS g h' (qD 24 1 m r xs::L):=by
 refine aB (S:=S94) rfl omQ λk hk=>?_;unfold S94;try simp only[iZ]
 refine Qh H s (λh1 h2=>?_) (qJ ?_)
 ·subst h1 h2;obtain rfl:xs=[]:=iA (by simpa using H.cZ s);exact qZ (qY H.ak)
 ·refine qf (n:=0) (l:=[]) (sz:=1) H rfl rfl rfl rfl λv2 h2 H2=>?_;refine ju H2 (H2.sl (.there s)) omQ omQ ha λv3 h3 H3=>?_;rw[Nat.zero_add,List.nil_append]at H3;exact qY H3
theorem YK (hn:1≤n) (H:HS g h L) (s:bc L (qD 111 2 m v xs) R) (ha:ql xs=true) (hm:m≤1000000) :
  aA n 124 [v] h λr h'=>HS g h' (qD 111 2 m r xs::L):=by
 refine aB (S:=S124) rfl omQ λk hk=>?_;unfold S124;try simp only[iZ]
 refine Qh H s (λh1 h2=>?_) (qJ ?_)
 ·subst h1 h2;obtain rfl:xs=[]:=iA (by simpa using H.cZ s);exact qZ (qY H.ak)
 ·refine qf (n:=0) (l:=[]) (sz:=2) H rfl rfl rfl rfl λv2 h2 H2=>?_;refine ju H2 (H2.sl (.there s)) omQ omQ ha λv3 h3 H3=>?_;rw[Nat.zero_add,List.nil_append]at H3;exact qY H3
end
theorem Nv {f:Int→AV} (hf:∀x,(f x).one=true):∀l:List Int,ql (l.map f)=true:=by intro l;unfold ql;rw[List.all_map,List.all_eq_true];intro x _;exact hf x
theorem JL {α:Type} {f:α→List AV} (hf:∀x,ql (f x)=true):∀l:List α,ql (l.flatMap f)=true:=by
 intro l
 induction l with
 |nil=>rfl
 |cons x l ih=>rw[List.flatMap_cons];unfold ql at*;rw[List.all_append,hf,ih];rfl
section
variable {n b m:Nat} {v wd:AV} {e:TypeId} {xs:List AV} {R2:List SP}
theorem qkF (hn:2≤n) (H:HS g h L) (s:bc L (qy b [v]) R) (s2:bc L (qD 24 1 m v xs) R2) (ha:ql xs=true) (hm:m≤1000000) :
  aA n 60 [.ptr b 0] h λr h'=>HS g h' (qD 24 1 m r xs::L):=by
 refine aB (S:=S60) rfl omQ λk hk=>?_;unfold S60;try simp only[iZ]
 refine qK (qQ (qX H s rfl ?_));exact qG (qVE omQ H s2 ha hm) λ_ _ H1=>qY H1
end
section
variable {n p hb tb cb sb:Nat} {wv lv sv:AV} {S:zK} {M:zZ} {o:dF}
theorem bQ.I1 {X:SP} (H:HS g h (X::uw p hb tb cb sb wv lv sv S M R)):HS g h (X::bQ p S M::R):=HS.cm e_1 (bQ.I (HS.back (A:=uw p hb tb cb sb wv lv sv S M []) H))
theorem qK1 (hn:3≤n) (hw:M.w.length≤1000000) (H:HS g h (bQ p S M::R)) :
  aA n 31 [.ptr p 0] h λr h'=>HS g h' (qD 24 1 M.w.length r (M.w.map (.int .u64))::bQ p S M::R):=by
 refine aB (S:=S31) rfl omQ λk hk=>?_;unfold S31;try simp only[iZ]
 obtain⟨hb,tb,cb,sb,wv,lv,sv,H⟩:=bQ.E H;refine qK (qQ (qX ‹_› .here rfl ?_));exact qG (qkF omQ H e_1 e_2 (Nv (λ_=>rfl) _) hw) λ_ _ H1=>qY (bQ.I1 H1)
theorem qq0 {b:Nat} {x:Int} (hn:1≤n) (H:HS g h L) (s:bc L (qy b [.int .u64 x]) R):aA n 62 [.ptr b 0] h λr h'=>r=.int .u64 x∧h'=h:=by
 refine aB (S:=S62) rfl omQ λk hk=>?_;unfold S62;try simp only[iZ]
 refine qK (qQ ?_);exact qX H s rfl (qY ⟨rfl,rfl⟩)
theorem qxN {b:Nat} (hn:1≤n) (H:HS g h (qy b [.int .u64 M.n]::R)):aA n 75 [.ptr b 0,.int .u64 o.cS,.int .u64 o.word] h λr h'=>
  r=.bJ [.bool (Xz M { o with kind:=7 }).1.done,.int .i64 (Xz M { o with kind:=7 }).1.err]∧HS g h' (qy b [.int .u64 (Xz M { o with kind:=7 }).2.n]::R):=by
 refine cL (S:=S75) rfl omQ λk hk=>?_;unfold S75;try simp only[iZ]
 unfold Xz;rw[iQ (show¬(7:Int)=6 by decide)];refine wn (λc1=>?_) (λc1=>?_)
 ·rw[iJ c1];refine qZ ?_;exact qY ⟨rfl,H⟩
 rw[iQ c1];refine qJ (yA (λc2=>?_) (λc2=>?_))
 ·rw[iJ (by dsimp only;omega)];refine qZ ?_;exact qY ⟨rfl,H⟩
 rw[iQ (by dsimp only;omega)];refine qJ (qK (qQ (qX ‹_› .here rfl ?_)));refine yx (λc3=>?_) (λc3=>?_)
 ·rw[iJ c3];refine qZ ?_;exact qY ⟨rfl,H⟩
 ·rw[iQ (λh=>h c3)];refine qJ (qK (qQ (qw H (b:=b) .here ⟨rfl,rfl⟩ aN λh2 H2=>?_)));exact qY ⟨rfl,H2⟩
def yN (M:zZ) (o:dF):cO×zZ:=if o.kind=1∨o.kind=2 then UV M o else if o.kind=3∨o.kind=4∨o.kind=5 then Gf M o else if o.kind=6∨o.kind=7 then Xz M o else if o.kind=8∨o.kind=9 then Ya M o else(lh 1,M)
theorem wG:qu M o=if(yN M o).1.err=0 then((yN M o).1,{ (yN M o).2 with b6:=(yN M o).2.b6+1 })else yN M o:=rfl
theorem ZK:(yN M o).2.b6=M.b6:=by
 unfold yN UV Gf Xz Ya
 repeat' split
 all_goals rfl
theorem qv7 (hn:6≤n) (H:HS g h (bQ p S M::R)) :
  aA n 46 [.ptr p 0,.agg (x8 o)] h λr h'=>r=.agg (zt (yN M o).1)∧HS g h' (bQ p S (yN M o).2::R):=by
 refine ba (S:=S46) rfl omQ λk hk=>?_;unfold S46;try simp only[iZ]
 generalize hr:yN M o=r;obtain⟨hb,tb,cb,sb,wv,lv,sv,H⟩:=bQ.E H;refine qI H rfl λb0 h1 H1=>?_;refine qI H1 rfl λb1 h2 H2=>?_;refine qI H2 rfl λb2 h3 H3=>?_;clear H1 H2;unfold x8 at H3;refine qQ (qX H3 (b:=b0) e_2 rfl ?_);refine jm [] (λs h'=>s=(.ptr b2 0,.ptr b1 0,())∧HS g h' (qy b2 (zt r.1)::qy b1 (zt lg)::uw p hb tb cb sb wv lv sv S r.2 R)) ?_ ?_
 rotate_left
 ·rintro s h4 ⟨rfl,H4⟩;dsimp only;refine qE H4 (b:=b2) (off:=0) .here rfl omQ (l:=zt r.1) rfl ?_;refine qd H4 (b:=b1) e_1 rfl (by show 0+6≤6;omega) rfl λh5 H5=>?_;refine qx (qE H5 (b:=b1) (off:=0) .here rfl omQ (l:=zt r.1) rfl ?_);exact qY ⟨rfl,bQ.I (H5.drop.drop)⟩
 intro j hj;by_cases k1:o.kind=1
 ·refine qk k1 ?_;refine qZ (qK (qQ (qX ‹_› e_3 rfl ?_)));refine qQ (qX ‹_› e_2 rfl ?_);have e:r=(⟨(if 1≤o.at_∧o.at_<M.w.length then qO M.w o.at_ else 0),cB,false,(if 1≤o.at_∧o.at_<M.w.length then 0 else 2)⟩,M):=by
   rw[← hr];unfold yN UV lh;rw[iJ (.inl k1)];by_cases c:1≤o.at_∧o.at_<M.w.length
   ·rw[iQ omQ,iJ k1,iJ c,iJ c]
   ·rw[iJ omQ,iQ c,iQ c]
  subst e;refine qG (qYo omQ H3 e_4 e_5) ?_;rintro _ _ ⟨rfl,rfl⟩;refine qB rfl ?_;refine qB rfl ?_;refine qQ (qw H3 (b:=b2) .here ⟨rfl,rfl⟩ (by show 0<6;omega) λh4 H4=>?_);refine qQ (qw H4 (b:=b2) .here ⟨rfl,rfl⟩ (by show 5<6;omega) λh5 H5=>?_);exact hj _ _ ⟨rfl,H5.sub (.cons .here (.cons .here (.drop .refl)))⟩
 refine qj k1 ?_;refine qJ ?_;by_cases k2:o.kind=2
 ·refine qk k2 ?_;refine qZ (qK (qQ (qX ‹_› e_3 rfl ?_)));refine qQ (qX ‹_› e_2 rfl ?_);refine qQ (qX ‹_› e_2 rfl ?_);have e:r=(⟨0,cB,false,(if 1≤o.at_∧o.at_<M.w.length then 0 else 2)⟩,{ M with w:=(if 1≤o.at_∧o.at_<M.w.length then M.w.set o.at_.toNat o.word else M.w) }):=by
   rw[← hr];unfold yN UV lh;rw[iJ (.inr k2)];by_cases c:1≤o.at_∧o.at_<M.w.length
   ·rw[iQ omQ,iQ k1,iJ c,iJ c];rfl
   ·rw[iJ omQ,iQ c,iQ c]
  subst e;refine qG (qXc omQ (H3.sub (.cons e_4 (.cons e_4 .refl)))) ?_;rintro _ h4 ⟨rfl,H4⟩;refine qQ (qw H4 (b:=b2) e_2 ⟨rfl,rfl⟩ (by show 5<6;omega) λh5 H5=>?_);exact hj _ _ ⟨rfl,H5.sub (.cons .here (.cons e_2 (.cons e_3 (.cons .here (.cons .here (.drop .refl))))))⟩
 refine qj k2 ?_;refine qJ ?_;by_cases k3:o.kind=3
 ·refine qk k3 ?_;refine qZ (qK (qQ (qX ‹_› e_3 rfl ?_)));refine qQ (qX ‹_› e_2 rfl ?_);have e:r=(⟨0,(if 0≤o.at_∧o.at_<M.l.length then xg M.l o.at_ else cB),false,(if 0≤o.at_∧o.at_<M.l.length then 0 else 2)⟩,M):=by
   rw[← hr];unfold yN Gf lh;rw[iQ omQ,iJ (.inl k3)];by_cases c:0≤o.at_∧o.at_<M.l.length
   ·rw[iQ omQ,iJ k3,iJ c,iJ c]
   ·rw[iJ omQ,iQ c,iQ c]
  subst e;refine qG (qYs omQ H3 e_6 e_7) ?_;rintro _ h4 ⟨rfl,H4⟩;refine qB rfl ?_;refine qB rfl ?_;refine qQ (qd H4 (b:=b2) .here rfl (by show 1+3≤6;omega) rfl λh5 H5=>?_);refine qQ (qw H5 (b:=b2) .here ⟨rfl,rfl⟩ (by show 5<6;omega) λh6 H6=>?_);exact hj _ _ ⟨rfl,H6.sub (.cons .here (.cons .here (.drop .refl)))⟩
 refine qj k3 ?_;refine qJ ?_;by_cases k4:o.kind=4
 ·refine qk k4 ?_;refine qZ (qK (qQ (qX ‹_› e_3 rfl ?_)));refine qQ (qX ‹_› e_2 rfl ?_);refine qQ ?_;have e:r=(⟨0,cB,decide (kX M.l.length o.at_ o.lk=0∧xg M.l o.at_=o.aZ),kX M.l.length o.at_ o.lk⟩,{ M with l:=if kX M.l.length o.at_ o.lk=0∧xg M.l o.at_=o.aZ then M.l.set o.at_.toNat o.lk else M.l }):=by
   rw[← hr];unfold yN Gf kX lh lg;rw[iQ omQ,iJ (.inr (.inl k4))];by_cases c:0≤o.at_∧o.at_<M.l.length
   ·rw[iQ omQ,iQ k3,iJ c];by_cases c2:Ye o.lk
    ·rw[iQ (λh=>h c2),iQ omQ,iJ c2];by_cases c3:xg M.l o.at_=o.aZ
     ·rw[iQ (λh=>h c3),iG ⟨rfl,c3⟩,iJ ⟨rfl,c3⟩]
     ·rw[iJ c3,iV (λh=>c3 h.2),iQ (λh=>c3 h.2)]
    ·rw[iJ c2,iQ c2,iV aN,iQ aN]
   ·rw[iJ omQ,iQ c,iV aN,iQ aN]
  subst e;refine qE H3 (b:=b0) (off:=4) e_2 rfl omQ (l:=zW o.aZ) rfl ?_;refine qQ (qE H3 (b:=b0) (off:=7) e_2 rfl omQ (l:=zW o.lk) rfl ?_);refine qG (qx5 omQ (H3.sub (.cons e_6 (.cons e_6 .refl)))) ?_;rintro _ h4 ⟨rfl,H4⟩;refine qB rfl ?_;refine qB rfl ?_;refine qQ (qw H4 (b:=b2) e_2 ⟨rfl,rfl⟩ (by show 4<6;omega) λh5 H5=>?_);refine qQ (qw H5 (b:=b2) .here ⟨rfl,rfl⟩ (by show 5<6;omega) λh6 H6=>?_);exact hj _ _ ⟨rfl,H6.sub (.cons .here (.cons e_2 (.cons e_3 (.cons e_3 (.cons e_3 (.cons .here (.cons .here (.drop .refl))))))))⟩
 refine qj k4 ?_;refine qJ ?_;by_cases k5:o.kind=5
 ·refine qk k5 ?_;refine qZ (qK (qQ (qX ‹_› e_3 rfl ?_)));refine qQ (qX ‹_› e_2 rfl ?_);refine qQ ?_;have e:r=(⟨0,cB,false,kX M.l.length o.at_ o.lk⟩,{ M with l:=if kX M.l.length o.at_ o.lk=0 then M.l.set o.at_.toNat o.lk else M.l }):=by
   rw[← hr];unfold yN Gf kX lh lg;rw[iQ omQ,iJ (.inr (.inr k5))];by_cases c:0≤o.at_∧o.at_<M.l.length
   ·rw[iQ omQ,iQ k3,iJ c];by_cases c2:Ye o.lk
    ·rw[iQ (λh=>h c2),iJ k5,iJ c2,iJ rfl]
    ·rw[iJ c2,iQ c2,iQ od]
   ·rw[iJ omQ,iQ c,iQ od]
  subst e;refine qE H3 (b:=b0) (off:=7) e_2 rfl omQ (l:=zW o.lk) rfl ?_;refine qG (qK9 omQ (H3.sub (.cons e_6 (.cons e_6 .refl)))) ?_;rintro _ h4 ⟨rfl,H4⟩;refine qQ (qw H4 (b:=b2) e_2 ⟨rfl,rfl⟩ (by show 5<6;omega) λh5 H5=>?_);exact hj _ _ ⟨rfl,H5.sub (.cons .here (.cons e_2 (.cons e_3 (.cons e_3 (.cons e_3 (.cons .here (.cons .here (.drop .refl))))))))⟩
 refine qj k5 ?_;refine qJ ?_;by_cases k6:o.kind=6
 ·refine qk k6 ?_;refine qZ (qK (qQ (qX ‹_› e_3 rfl ?_)));have e:r=(⟨M.n,cB,false,0⟩,M):=by
   rw[← hr];unfold yN Xz;rw[iQ omQ,iQ omQ,iJ (.inl k6),iJ k6]
  subst e;refine qG (qq0 omQ H3 e_8) ?_;rintro _ _ ⟨rfl,rfl⟩;refine qQ (qw H3 (b:=b2) .here ⟨rfl,rfl⟩ (by show 0<6;omega) λh4 H4=>?_);exact hj _ _ ⟨rfl,H4.sub (.cons .here (.cons .here (.drop .refl)))⟩
 refine qj k6 ?_;refine qJ ?_;by_cases k7:o.kind=7
 ·refine qk k7 ?_;refine qZ (qK (qQ (qX ‹_› e_3 rfl ?_)));refine qQ (qX ‹_› e_2 rfl ?_);refine qQ (qX ‹_› e_2 rfl ?_);have e:r=(⟨0,cB,(Xz M { o with kind:=7 }).1.done,(Xz M { o with kind:=7 }).1.err⟩,{ M with n:=(Xz M { o with kind:=7 }).2.n }):=by
   rw[← hr];unfold yN Xz lh lg;rw[iQ omQ,iQ omQ,iJ (.inr k7),iQ k6,iQ (show¬(7:Int)=6 by decide)];dsimp only
   repeat' split
   all_goals rfl
  subst e;refine qG (qxN (o:=o) omQ (H3.sub (.cons e_8 .refl))) ?_;rintro _ h4 ⟨rfl,H4⟩;refine qB rfl ?_;refine qB rfl ?_;refine qQ (qw H4 (b:=b2) e_1 ⟨rfl,rfl⟩ (by show 4<6;omega) λh5 H5=>?_);refine qQ (qw H5 (b:=b2) .here ⟨rfl,rfl⟩ (by show 5<6;omega) λh6 H6=>?_);exact hj _ _ ⟨rfl,H6.sub (.cons .here (.cons e_1 (.cons e_2 (.cons e_2 (.cons e_2 (.cons e_2 (.cons e_2 (.cons .here (.drop .refl)))))))))⟩
 refine qj k7 ?_;refine qJ ?_;by_cases k8:o.kind=8
 ·refine qk k8 ?_;refine qZ (qK (qQ (qX ‹_› e_3 rfl ?_)));refine qQ (qX ‹_› e_2 rfl ?_);have e:r=(⟨(if 0≤o.at_∧o.at_<M.s.length then qO M.s o.at_ else 0),cB,false,(if 0≤o.at_∧o.at_<M.s.length then 0 else 2)⟩,M):=by
   rw[← hr];unfold yN Ya lh;rw[iQ omQ,iQ omQ,iQ omQ,iJ (.inl k8)];by_cases c:0≤o.at_∧o.at_<M.s.length
   ·rw[iQ omQ,iJ k8,iJ c,iJ c]
   ·rw[iJ omQ,iQ c,iQ c]
  subst e;refine qG (qqe omQ H3 e_9 e_10) ?_;rintro _ _ ⟨rfl,rfl⟩;refine qB rfl ?_;refine qB rfl ?_;refine qQ (qw H3 (b:=b2) .here ⟨rfl,rfl⟩ (by show 0<6;omega) λh4 H4=>?_);refine qQ (qw H4 (b:=b2) .here ⟨rfl,rfl⟩ (by show 5<6;omega) λh5 H5=>?_);exact hj _ _ ⟨rfl,H5.sub (.cons .here (.cons .here (.drop .refl)))⟩
 refine qj k8 ?_;refine qJ ?_;by_cases k9:o.kind=9
 ·refine qk k9 ?_;refine qZ (qK (qQ (qX ‹_› e_3 rfl ?_)));refine qQ (qX ‹_› e_2 rfl ?_);refine qQ (qX ‹_› e_2 rfl ?_);have e:r=(⟨0,cB,false,(if 0≤o.at_∧o.at_<M.s.length then 0 else 2)⟩,{ M with s:=(if 0≤o.at_∧o.at_<M.s.length then M.s.set o.at_.toNat o.word else M.s) }):=by
   rw[← hr];unfold yN Ya lh;rw[iQ omQ,iQ omQ,iQ omQ,iJ (.inr k9)];by_cases c:0≤o.at_∧o.at_<M.s.length
   ·rw[iQ omQ,iQ k8,iJ c,iJ c];rfl
   ·rw[iJ omQ,iQ c,iQ c]
  subst e;refine qG (qZ6 omQ (H3.sub (.cons e_9 (.cons e_9 .refl)))) ?_;rintro _ h4 ⟨rfl,H4⟩;refine qQ (qw H4 (b:=b2) e_2 ⟨rfl,rfl⟩ (by show 5<6;omega) λh5 H5=>?_);exact hj _ _ ⟨rfl,H5.sub (.cons .here (.cons e_2 (.cons e_3 (.cons e_3 (.cons e_3 (.cons e_3 (.cons e_3 (.cons e_3 (.cons .here (.cons .here (.drop .refl)))))))))))⟩
 refine qj k9 ?_;refine qJ (qQ ?_);have e:r=(lh 1,M):=by rw[← hr];unfold yN;rw[iQ omQ,iQ omQ,iQ omQ,iQ omQ]
 subst e;refine qw H3 (b:=b2) .here ⟨rfl,rfl⟩ (by show 5<6;omega) λh4 H4=>?_;exact hj _ _ ⟨rfl,H4.sub (.cons .here (.cons .here (.drop .refl)))⟩
theorem L8 (hn:7≤n) (hc:0≤M.b6∧M.b6<1000000000) (H:HS g h (bQ p S M::R)) :
  aA n 25 [.ptr p 0,.agg (x8 o)] h λr h'=>r=.agg (zt (qu M o).1)∧HS g h' (bQ p S (qu M o).2::R):=by
 refine ba (S:=S25) rfl omQ λk hk=>?_;unfold S25;try simp only[iZ]
 refine qI H rfl λb0 h1 H1=>?_;refine qI H1 rfl λb1 h2 H2=>?_;refine qE H2 (b:=b0) (off:=0) e_1 rfl omQ (l:=x8 o) rfl ?_;refine qG (qv7 (o:=o) omQ (H2.aI e_2)) ?_;rintro _ h3 ⟨rfl,H3⟩;have ec:(yN M o).2.b6=M.b6:=ZK;rw[wG];generalize yN M o=r at*;obtain⟨r,M'⟩:=r;dsimp only at ec H3 ⊢;refine qI H3 rfl λb2 h4 H4=>?_;refine qd H4 (b:=b2) .here rfl (by show 0+6≤6;omega) rfl λh5 H5=>?_;have H5:HS g h5 (qy b2 (zt r)::bQ p S M'::qy b1 (zt lg)::qy b0 (x8 o)::R):=H5;clear H3 H4;have H6:=H5;unfold zt at H6;refine jm [] (λs h'=>s=(.ptr b2 0,.ptr b1 0,())∧HS g h' (qy b2 (zt r)::qy b1 (zt lg)::bQ p S (if r.err=0 then(r,{ M' with b6:=M'.b6+1 })else(r,M')).2::R)) ?_ ?_
 rotate_left
 ·rintro s h4 ⟨rfl,H4⟩;dsimp only;refine qE H4 (b:=b2) (off:=0) .here rfl omQ (l:=zt r) rfl ?_;refine qd H4 (b:=b1) e_1 rfl (by show 0+6≤6;omega) rfl λh5 H5=>?_;refine qx (qE H5 (b:=b1) (off:=0) .here rfl omQ (l:=zt r) rfl ?_);refine qY ⟨by split<;>rfl,?_⟩;exact H5.drop.drop
 intro j hj;refine qQ (qX ‹_› .here rfl ?_);by_cases c:r.err=0
 ·refine qk c ?_;rw[iJ c]at hj ⊢;refine qZ (qK (qQ ?_));obtain⟨hb,tb,cb,sb,wv,lv,sv,H7⟩:=bQ.E (H5.aI e_1);refine qX ‹_› .here rfl ?_;refine qU omQ ?_;refine qK (qQ (qw H7 (b:=p) .here ⟨rfl,rfl⟩ (by show 9<10;omega) λh8 H8=>?_));have H9:HS g h8 (bQ p S { M' with b6:=M'.b6+1 }::_):=bQ.I (hb:=hb) (tb:=tb) (cb:=cb) (sb:=sb) (wv:=wv) (lv:=lv) (sv:=sv) H8;exact hj _ _ ⟨rfl,H9.sub (.cons e_1 (.cons e_1 (.cons .here (.drop .refl))))⟩
 ·refine qj c ?_;rw[iQ c]at hj ⊢;refine qJ ?_;exact hj _ _ ⟨rfl,H5.sub (.cons .here (.cons e_1 (.cons .here (.drop .refl))))⟩
end
end
section
variable {g h:AH} {L R:List SP}
theorem qWe:∀{a b:List Int},a.Pairwise (· < ·)→b.Pairwise (· < ·)→(∀x,x∈a↔x∈b)→a=b:=by
 intro a
 induction a with
 |nil=>
  intro b _ _ h;cases b with
  |nil=>rfl
  |cons y b=>have:=(h y).2 (iK ..);cases this
 |cons x a ih=>
  intro b ha hb h;cases b with
  |nil=>have:=(h x).1 (iK ..);cases this
  |cons y b=>
   have tP:=List.pairwise_cons.1 ha;have bA:=List.pairwise_cons.1 hb;have e:x=y:=by
    rcases List.mem_cons.1 ((h x).1 (iK ..))with e |e
    ·exact e
    ·rcases List.mem_cons.1 ((h y).2 (iK ..))with e2 |e2
     ·exact e2.symm
     ·have h1:=bA.1 x e;have h2:=tP.1 y e2;omega
   subst e
   congr 1
   refine ih tP.2 bA.2 λz=>⟨λhz=>?_,λhz=>?_⟩
   ·rcases List.mem_cons.1 ((h z).1 (iX _ hz))with e |e
    ·have:=tP.1 z hz;omega
    ·exact e
   ·rcases List.mem_cons.1 ((h z).2 (iX _ hz))with e |e
    ·have:=bA.1 z hz;omega
    ·exact e
theorem qZi {d:Array Int} (hs:∀i j,i≤j→j<d.size→d[i]! ≤d[j]!):∀m,m≤d.size→(Lib.compactUpTo d m).Pairwise (· < ·)∧∀x,x∈Lib.compactUpTo d m↔∃j,j<m∧d[j]! =x:=by
 intro m
 induction m with
 |zero=>intro _;exact⟨List.Pairwise.nil,λx=>⟨(λh=>by cases h),λ⟨j,h,_⟩=>by omega⟩⟩
 |succ m ih=>
  intro hm;obtain⟨p,q⟩:=ih omQ;rw[Lib.compactUpTo_succ];by_cases hk:Lib.keeps d m=true
  ·rw[iJ hk];refine⟨?_,λx=>?_⟩
   ·rw[List.pairwise_append];refine⟨p,List.pairwise_singleton ..,λa ha b hb=>?_⟩;rw[List.mem_singleton]at hb;subst hb;obtain⟨j,hj,rfl⟩:=(q a).1 ha;have h1:=hs j (m-1) omQ omQ;have h2:=hs (m-1) m omQ omQ;have h3:d[m]! ≠d[m-1]!:=by
     intro e;rw[Lib.keeps_neg omQ e]at hk;cases hk
    omega
   ·rw[List.mem_append,q x,List.mem_singleton];refine⟨λh=>?_,λ⟨j,hj,e⟩=>?_⟩
    ·rcases h with⟨j,hj,e⟩ |e
     ·exact⟨j,by omega,e⟩
     ·exact⟨m,by omega,e.symm⟩
    ·by_cases fR:j=m
     ·subst fR;exact .inr e.symm
     ·exact .inl ⟨j,by omega,e⟩
  ·rw[iQ hk,List.append_nil];refine⟨p,λx=>?_⟩;rw[q x];refine⟨λ⟨j,hj,e⟩=>⟨j,by omega,e⟩,λ⟨j,hj,e⟩=>?_⟩;by_cases fR:j=m
   ·subst fR;have h0:0<j:=by
     rcases Nat.eq_zero_or_pos j with h |h
     ·subst h;exact absurd (Lib.keeps_lt_one d 0 omQ) hk
     ·exact h
    refine⟨j-1,by omega,?_⟩;refine Decidable.byContradiction λcx=>hk (Lib.keeps_pos λh=>cx ?_);rw[← h,e]
   ·exact⟨j,by omega,e⟩
theorem qxc {zs:List Int} (h:zs.Pairwise (· ≤ ·)):(Lib.compact zs).Pairwise (· < ·)∧∀x,x∈Lib.compact zs↔x∈zs:=by
 have hg:∀i:Nat,i<zs.length→zs.toArray[i]! =zs[i]!:=λi hi=>by simp
 obtain⟨p,q⟩:=qZi (d:=zs.toArray) (λi j oU hj=>by
  have hj:j<zs.length:=by simpa using hj
  rw[hg i omQ,hg j hj,getElem!_pos zs i omQ,getElem!_pos zs j hj];by_cases e:i=j
  ·subst e;exact Int.le_refl _
  ·exact List.pairwise_iff_getElem.1 h i j omQ hj omQ) zs.length aN
 refine⟨p,λx=>?_⟩;refine(q x).trans ⟨λ⟨j,hj,e⟩=>?_,λhx=>?_⟩
 ·rw[hg j hj,getElem!_pos zs j hj]at e;rw[← e];exact List.getElem_mem hj
 ·obtain⟨j,hj,e⟩:=List.mem_iff_getElem.1 hx;exact⟨j,hj,by rw[hg j hj,getElem!_pos zs j hj];exact e⟩
theorem ZJ {p n w:Int} (h:0≤p):0≤ofM p n w∧ofM p n w<16:=by unfold ofM;rw[iQ omQ];have h1:=Int.emod_nonneg (p/max 1 (min w 16)) (show max 1 (min n 16)≠0 by omega);have h2:=Int.emod_lt_of_pos (p/max 1 (min w 16)) (show 0<max 1 (min n 16) by omega);omega
theorem YR {cs:List Cl} {n w:Int}:(xF cs n w).Pairwise (· < ·):=by unfold xF;refine List.Pairwise.filter _ ?_;rw[List.pairwise_map];exact List.pairwise_lt_range.imp λh=>by omega
theorem GU {cs:List Cl} {n w:Int} (h:∀c∈cs,0≤c.1) {x:Int}:x∈xF cs n w↔x∈cs.map λc=>ofM c.1 n w:=by unfold xF;rw[List.mem_filter,List.any_eq_true,List.mem_map,List.mem_map];refine⟨λ⟨_,c,hc,e⟩=>⟨c,hc,by simpa using e⟩,λ⟨c,hc,e⟩=>⟨?_,c,hc,by simpa using e⟩⟩;have:=ZJ (n:=n) (w:=w) (h c hc);exact⟨x.toNat,List.mem_range.2 omQ,by omega⟩
theorem Zt {cs:List Cl} {n w:Int} (h:∀c∈cs,0≤c.1):Lib.compact (kD (cs.map λc=>ofM c.1 n w))=xF cs n w:=by obtain⟨p,q⟩:=qxc (XE (cs.map λc=>ofM c.1 n w));exact qWe p YR λx=>by rw[q,(Jy _).mem_iff,GU h]
section
variable {n m:Nat} {v:AV} {zs:List Int}
theorem qqT {e:TypeId} (hn:1≤n) (H:HS g h (qD e 1 m v (zs.map (.int .i64))::R)) (h0:0<m) (hm:m≤1000000) :
  aA n 169 [v] h λ_ h'=>HS g h' (qD e 1 m v ((kD zs).map (.int .i64))::R):=by
 have hl:zs.length=m:=by have:=H.cZ .here;simpa using this
 obtain⟨b,cp,o,ys,rfl,HC,q1,q2,q3⟩:=H.BQ h0;rw[Nat.mul_one]at q1 q2;refine qA (g:=W169) rfl omQ λk hk=>?_;show wp (ZZ _ [.slice b 0 m cp o] h) _;obtain⟨D,⟨hD,A⟩,dS,kk⟩:=HC.act;obtain⟨c,c1,c2,c3⟩:=A.br;unfold ZZ;simp only[c1,c2];rw[q2,Mc];simp only[];rw[show Nat.beq zs.length m=true from by rw[hl];exact Nat.beq_refl _,iY hm];simp only[Bool.and_self,cond_true];refine⟨_,_,rfl,?_⟩;have Hb:=kk _ (Cell b ((kD zs).map (.int .i64)++ys.drop m) e o) D ⟨by simp,λa ha hn=>AH.bn h _ λe=>hn ((hD a).2 e.symm)⟩ ⟨hD,by simpa using A.lt,CT.ofList _,AH.aS ..,CT.aG _,CT.bh _⟩ λa ha=>⟨.inl ha,by have:=(dS a ha).2;simpa using this⟩;have hlen:((kD zs).map (AV.int .i64)).length=m:=by rw[List.length_map,Ul,hl]
 have:=HS.BR (n:=m) (sz:=1) (cp:=cp) Hb (by rw[List.length_append,hlen];omega) (by
  rw[List.length_append,hlen,List.length_drop,show m+(ys.length-m)=ys.length by omega];exact q3)
 rw[Nat.mul_one,List.take_append_of_le_length omQ,List.take_of_length_le omQ]at this;exact this
theorem qW5 (hn:1≤n) (H:HS g h (qD 3 1 m v (zs.map (.int .i64))::R)) (h0:0<m) (hm:m≤1000000) :
  aA n 170 [v] h λr h'=>HS g h' (qD 3 1 (Lib.compact zs).length r ((Lib.compact zs).map (.int .i64))::R):=by
 have hl:zs.length=m:=by have:=H.cZ .here;simpa using this
 obtain⟨b,cp,o,ys,rfl,HC,q1,q2,q3⟩:=H.BQ h0;rw[Nat.mul_one]at q1 q2;refine qA (g:=W170) rfl omQ λk hk=>?_;show wp (Nt 3 _ [.slice b 0 m cp o] h) _;obtain⟨D,⟨hD,A⟩,dS,kk⟩:=HC.act;obtain⟨c,c1,c2,c3⟩:=A.br;have hle:=Ly zs;unfold Nt;simp only[c1,c2];rw[q2,Mc];simp only[];have hc:(Nat.beq zs.length m&&(Nat.ble m 1000000&&(bif o then Nat.beq cp 0&&(o&&Nat.beq 3 3)else Nat.ble m cp)))=true:=by
  rw[show Nat.beq zs.length m=true from by rw[hl];exact Nat.beq_refl _,iY hm];cases o with
  |true=>rw[iJ rfl]at q3;subst q3;rfl
  |false=>rw[iQ aN]at q3;simp only[Bool.true_and,cond_false];exact iY q3.2
 rw[hc];simp only[cond_true];refine⟨_,_,rfl,?_⟩;have Hb:=kk _ (Cell b ((Lib.compact zs++List.replicate (zs.length-(Lib.compact zs).length) 0).map (.int .i64)++ys.drop m) 3 o) D ⟨by simp,λa ha hn=>AH.bn h _ λe=>hn ((hD a).2 e.symm)⟩ ⟨hD,by simpa using A.lt,CT.ofList _,AH.aS ..,CT.aG _,CT.bh _⟩ λa ha=>⟨.inl ha,by have:=(dS a ha).2;simpa using this⟩;have hlen:((Lib.compact zs++List.replicate (zs.length-(Lib.compact zs).length) 0).map (AV.int .i64)).length=m:=by simp;omega
 have:=HS.BR (n:=(Lib.compact zs).length) (sz:=1) (cp:=cp) Hb (by rw[List.length_append,hlen];omega) (by
  rw[List.length_append,hlen,List.length_drop,show m+(ys.length-m)=ys.length by omega];cases o with
  |true=>exact q3
  |false=>rw[iQ aN]at q3 ⊢;exact⟨q3.1,by omega⟩)
 have tk:((Lib.compact zs++List.replicate (zs.length-(Lib.compact zs).length) 0).map (AV.int .i64)++ys.drop m).take (Lib.compact zs).length=(Lib.compact zs).map (AV.int .i64):=by rw[List.take_append_of_le_length omQ,List.map_append,List.take_append_of_le_length aN,List.take_of_length_le aN]
 rw[Nat.mul_one,tk]at this;exact this
theorem qqb:∀{l:List Int},l.Pairwise (· ≤ ·)→UG l=true:=by
 intro l
 induction l with
 |nil=>intro _;rfl
 |cons x r ih=>
  intro h;cases r with
  |nil=>rfl
  |cons y r=>have h1:=List.pairwise_cons.1 h;unfold UG;rw[ih h1.2,iG (h1.1 y (iK ..))];rfl
theorem qq4 {e:TypeId} {x:Int} (hn:1≤n) (H:HS g h L) (s:bc L (qD e 1 m v (zs.map (.int .i64))) R) (h0:0<m) (hm:m≤1000000) (hs:zs.Pairwise (· ≤ ·)) :
  aA n 386 [v,.int .i64 x] h λr h'=>r=.bJ [.int .i64 (zs.countP (· <x):Nat),.bool (zs.contains x)]∧h'=h:=by
 have hl:zs.length=m:=by have:=H.cZ s;simpa using this
 obtain⟨b,cp,o,ys,rfl,HC,q1,q2,q3⟩:=(H.aI s).BQ h0;rw[Nat.mul_one]at q1 q2;refine qA (g:=W386) rfl omQ λk hk=>?_;show wp (Ns _ [.slice b 0 m cp o,.int .i64 x] h) _;obtain⟨D,⟨hD,A⟩,dS,kk⟩:=HC.act;obtain⟨c,c1,c2,c3⟩:=A.br;unfold Ns;simp only[c1,c2];rw[q2,Mc];simp only[];rw[show Nat.beq zs.length m=true from by rw[hl];exact Nat.beq_refl _,iY hm,qqb hs];exact⟨_,_,rfl,rfl,rfl⟩
end
theorem KX {n:Nat} {a b:Int} (hn:1≤n):aA n 69 [.int .i64 a,.int .i64 b] h λr h'=>r=.int .i64 (max 1 (min a b))∧h'=h:=by
 refine ba (S:=S69) rfl omQ λk hk=>?_;unfold S69;try simp only[iZ]
 refine zz (zh ?_);exact qY ⟨rfl,rfl⟩
theorem L9 {n:Nat} {p a w:Int} (hn:2≤n) (hp:p<4611686018427387904):aA n 137 [.int .i64 p,.int .i64 a,.int .i64 w] h λr h'=>r=.int .i64 (ofM p a w)∧h'=h:=by
 refine cL (S:=S137) rfl omQ λk hk=>?_;unfold S137;try simp only[iZ]
 unfold ofM;by_cases c:p<0
 ·refine jH c ?_;rw[iJ c];refine qZ ?_;exact qY ⟨rfl,rfl⟩
 ·refine jz c ?_;rw[iQ c];refine qJ (qG (KX omQ) ?_);rintro _ _ ⟨rfl,rfl⟩;refine I5 omQ ?_;have h1:p.tdiv (max 1 (min w ((16:Nat):Int)))=p/max 1 (min w 16):=Int.tdiv_eq_ediv_of_nonneg omQ;have h2:0≤p/max 1 (min w 16):=Int.ediv_nonneg omQ omQ;have h3:p/max 1 (min w 16)≤p:=Int.ediv_le_self _ omQ;rw[h1,VN omQ];refine qG (KX omQ) ?_;rintro _ _ ⟨rfl,rfl⟩;refine Jv omQ ?_;rw[Int.tmod_eq_emod_of_nonneg h2];exact qY ⟨rfl,rfl⟩
theorem qJI {n:Nat} {cv:AV} {cs:List Cl} {a w:Int} (hn:4≤n) (H:HS g h R) (S:Rd g R 2 cs.length cv (cs.flatMap jT)) (h0:0<cs.length) (hl:cs.length≤1000) (hc:∀c∈cs,0≤c.1∧c.1<100000) :
  aA n 141 [cv,.int .i64 a,.int .i64 w] h λr h'=>HS g h' (qD 3 1 (xF cs a w).length r ((xF cs a w).map (.int .i64))::R):=by
 refine cL (S:=S141) rfl omQ λk hk=>?_;unfold S141;try simp only[iZ]
 have DI:=(S.sl H).rR;refine x9 ‹_› ?_
 refine jR (λm s h'=>∃(i:Nat) (v:AV),s=(.int .i64 (i:Int),.int .i64 (cs.length:Int),cv,v,.int .i64 w,.int .i64 a,())∧i≤cs.length∧m=cs.length-i∧
  HS g h' (qD 3 1 i v (((cs.take i).map λc=>ofM c.1 a w).map (.int .i64))::R))
  ?_ (m:=cs.length) (by show _<1000000000;omega) ⟨0,.ak,rfl,by omega,by omega,H.ak⟩
 clear H DI;rintro m ih s h2 bF ⟨i,v,rfl,hi,rfl,H⟩;dsimp only;by_cases ap:i<cs.length
 ·refine jH omQ (qZ ?_);have rz:=hc _ (List.getElem_mem ap);have hr:=ZJ (n:=a) (w:=w) rz.1;refine qW ?_
  try dsimp only
  refine zS (l:=jT cs[i]) (S.sl H.drop) ap omQ (gJ (sz:=2) (enc:=jT) (λ_=>rfl) (iW ap)) ?_;refine qI H rfl λb h3 H3=>?_;refine qd H3 (b:=b) .here rfl (by show 0+2≤2;omega) rfl λh4 H4=>?_;have H4:HS g h4 (qy b [.int .i64 cs[i].1,.int .u64 cs[i].2]::qD 3 1 i v (((cs.take i).map λc=>ofM c.1 a w).map (.int .i64))::R):=H4;refine qQ (qX ‹_› .here rfl ?_);refine qG (L9 omQ omQ) ?_;rintro _ _ ⟨rfl,rfl⟩;refine zy omQ (qZ ?_);refine qf (n:=1) (l:=[.int .i64 (ofM cs[i].1 a w)]) (sz:=1) H4 rfl rfl rfl rfl λv2 h5 H5=>?_;refine ju (H5.aI e_2) (H5.sl .here) omQ omQ rfl λv3 h6 H6=>?_;refine qU omQ ?_;refine bF (cs.length-(i+1)) _ _ omQ ⟨i+1,v3,rfl,by omega,rfl,?_⟩;have e:(cs.take (i+1)).map (λc=>ofM c.1 a w)=(cs.take i).map (λc=>ofM c.1 a w)++[ofM cs[i].1 a w]:=by rw[List.take_add_one,iW ap,List.map_append];rfl
  rw[e,List.map_append];exact H6.sub (.cons .here (.drop (.drop .refl)))
 ·obtain rfl:i=cs.length:=by omega
  refine jz omQ (qJ ?_);rw[List.take_of_length_le (Nat.le_refl _)]at H;refine qG (qqT omQ H h0 omQ) λ_ h3 H3=>?_;refine qG (qW5 omQ H3 h0 omQ) λr h4 H4=>?_;rw[Zt λc mq=>(hc c mq).1]at H4;refine qx ?_;exact qY H4
end
section
variable {g h:AH} {L R:List SP}
theorem Nf {l:List xD} {k:Nat} (hk:k<l.length):((l.flatMap yf).drop (k*2)).take 2=yf (z6 l (k:Int)):=gJ (sz:=2) (enc:=yf) (λ_=>rfl) (by unfold z6;rw[Int.toNat_natCast,iW hk];rfl)
theorem QE {l:List xD} {k:Nat} (hk:k<l.length):(l.flatMap yf)[k*2+0]? =some (.int .i64 (z6 l (k:Int)).1)∧(l.flatMap yf)[k*2+1]? =some (.int .u64 (z6 l (k:Int)).2):=by
 have e:=Nf hk;have hl:(l.flatMap yf).length=l.length*2:=YB (sz:=2) yf (λ_=>rfl) (l:=l);constructor
 ·have:=congrArg (·[0]?) e;simp only[List.getElem?_take_of_lt (show 0<2 by omega),List.getElem?_drop]at this;exact this
 ·have:=congrArg (·[1]?) e;simp only[List.getElem?_take_of_lt (show 1<2 by omega),List.getElem?_drop]at this;exact this
def bX (b:Nat) (r:List xD):SP:=.ex λsv=>.all [qy b [.int .i64 16,sv],qD 111 2 r.length sv (r.flatMap yf)]
section
variable {n b:Nat} {r:List xD} {x:xD}
theorem bX.E (H:HS g h (bX b r::R)):∃sv,HS g h (qy b [.int .i64 16,sv]::qD 111 2 r.length sv (r.flatMap yf)::R):=by obtain⟨sv,H⟩:=H.dU;exact⟨sv,H.cq⟩
theorem bX.I {sv:AV} (H:HS g h (qy b [.int .i64 16,sv]::qD 111 2 r.length sv (r.flatMap yf)::R)):HS g h (bX b r::R):=HS.en sv H.allI
theorem qz1 (hn:1≤n) (H:HS g h R):aA n 129 [.int .i64 ((16:Nat):Int)] h λv h'=>∃b,v=.ptr b 0∧HS g h' (bX b []::R):=by
 refine aB (S:=S129) rfl omQ λk hk=>?_;unfold S129;try simp only[iZ]
 refine zz (zh (qL rfl ?_));refine qI H rfl λb h1 H1=>qY ⟨b,rfl,bX.I (sv:=.ak) ?_⟩;have:=(H1.ak (e:=111) (sz:=2));exact this.sub (.cons e_1 (.cons .here .refl))
theorem qxM {r:List xD} {i:Nat} {st:Int} {y:xD} (hb:∀z∈r.take i,z.1≠st) (hi:r[i]? =some y) (hy:y.1=st):r.find? (λz=>decide (z.1=st))=some y:=by
 obtain⟨ap,e⟩:=List.getElem?_eq_some_iff.1 hi;have h1:(r.take i).find? (λz=>decide (z.1=st))=none:=List.find?_eq_none.2 λz hz=>by simpa using hb z hz
 have h2:r=r.take i++y::r.drop (i+1):=by rw[← e,← List.drop_eq_getElem_cons ap,List.take_append_drop]
 rw[h2,List.find?_append,h1,List.find?_cons,iG hy];rfl
theorem qzp {st:Int} (hn:1≤n) (hr:r.length≤1000) (H:HS g h (bX b r::R)) :
  aA n 202 [.ptr b 0,.int .i64 st] h λv h'=>v=.bJ [.int .u64 ((r.find? λz=>decide (z.1=st)).getD (0,0)).2,.bool (r.find? λz=>decide (z.1=st)).isSome]∧HS g h' (bX b r::R):=by
 refine ba (S:=S202) rfl omQ λk hk=>?_;unfold S202;try simp only[iZ]
 obtain⟨sv,H⟩:=bX.E H;refine qK (qQ (qX ‹_› .here rfl ?_));refine qm ‹_› e_1 ?_;refine jR (λm s h'=>∃i:Nat,s=(.int .i64 (i:Int),.int .i64 (r.length:Int),sv,.int .i64 st,())∧i≤r.length∧m=r.length-i∧(∀z∈r.take i,z.1≠st)∧HS g h' (qy b [.int .i64 16,sv]::qD 111 2 r.length sv (r.flatMap yf)::R))
  ?_ (m:=r.length) (by show _<1000000000;omega) ⟨0,rfl,by omega,by omega,by simp,H⟩
 clear H;rintro m ih s h2 bF ⟨i,rfl,hi,rfl,hb,H⟩;dsimp only;by_cases ap:i<r.length
 ·refine jH omQ (qZ ?_);refine zS (l:=yf (z6 r i)) (H.sl e_1) ap omQ (Nf ap) ?_;refine qI H rfl λc h3 H3=>?_;refine qd H3 (b:=c) .here rfl (by show 0+2≤2;omega) rfl λh4 H4=>?_;have H4:HS g h4 (qy c [.int .i64 (z6 r i).1,.int .u64 (z6 r i).2]::qy b [.int .i64 16,sv]::qD 111 2 r.length sv (r.flatMap yf)::R):=H4;have hg:r[i]? =some (z6 r i):=by unfold z6;rw[Int.toNat_natCast,iW ap];rfl
  refine qQ (qX ‹_› .here rfl ?_);by_cases hy:(z6 r i).1=st
  ·refine qk hy ?_;refine qZ (qQ (qX ‹_› .here rfl ?_));refine qx ?_;rw[qxM hb hg hy];exact qY ⟨rfl,bX.I H4.drop⟩
  ·refine qj hy ?_;refine qJ (qU omQ ?_);refine bF (r.length-(i+1)) _ _ omQ ⟨i+1,rfl,by omega,rfl,?_,H4.drop⟩;intro z hz;rw[List.take_add_one,hg]at hz;rcases List.mem_append.1 hz with hz |hz
   ·exact hb z hz
   ·simp only[Option.toList_some,List.mem_singleton]at hz;subst hz;exact hy
 ·obtain rfl:i=r.length:=by omega
  refine jz omQ (qJ ?_);rw[List.take_of_length_le (Nat.le_refl _)]at hb;rw[List.find?_eq_none.2 λz hz=>by simpa using hb z hz];refine qx ?_;exact qY ⟨rfl,bX.I H⟩
theorem qxE (hn:2≤n) (hr:r.length≤16) (H:HS g h (bX b r::R)) :
  aA n 172 [.ptr b 0,.agg (yf x)] h λv h'=>v=.int .i64 (gr r x).1∧HS g h' (bX b (gr r x).2::R):=by
 refine ba (S:=S172) rfl omQ λk hk=>?_;unfold S172;try simp only[iZ]
 generalize hA:gr r x=A;refine qI H rfl λb0 h1 H1=>?_;have H1:HS g h1 (qy b0 [.int .i64 x.1,.int .u64 x.2]::bX b r::R):=H1;unfold gr at hA;refine qQ (qX ‹_› .here rfl ?_);by_cases c1:x.1<0
 ·refine jH c1 ?_;refine qW ?_;(try dsimp only);refine jZ ?_;(try dsimp only);refine qC (qW ?_);(try dsimp only);refine jZ ?_;(try dsimp only);refine qC (qZ ?_)
  rw[iJ (.inl c1)]at hA;subst hA;exact qY ⟨rfl,H1.drop⟩
 refine jz c1 ?_;refine qW ?_;(try dsimp only);refine qc ?_;(try dsimp only);refine qQ (qX ‹_› .here rfl ?_)
 by_cases c2:16≤x.1
 ·refine zy omQ ?_;refine qF (qW ?_);(try dsimp only);refine jZ ?_;(try dsimp only);refine qC (qZ ?_)
  rw[iJ (.inr (.inl c2))]at hA;subst hA;exact qY ⟨rfl,H1.drop⟩
 refine zY omQ ?_;refine qF (qW ?_);(try dsimp only);refine qc ?_;(try dsimp only);refine qQ (qX ‹_› .here rfl ?_)
 by_cases c3:4611686018427387904≤x.2
 ·refine zy omQ ?_;refine qF (qZ ?_);rw[iJ (.inr (.inr c3))]at hA;subst hA;exact qY ⟨rfl,H1.drop⟩
 refine zY omQ ?_;refine qF (qJ (qQ (qX ‹_› .here rfl ?_)));rw[iQ omQ]at hA;refine qG (qzp omQ omQ (H1.aI e_1)) ?_;rintro _ h2 ⟨rfl,H2⟩;have H3:=H2.aI e_1;refine qB rfl ?_;refine qB rfl ?_;cases hf:r.find? λz=>decide (z.1=x.1)with
 |some y=>
  rw[hf]at hA;dsimp only at hA;refine qZ (qQ (qX ‹_› .here rfl ?_));by_cases c4:y.2=x.2
  ·refine jJ c4 ?_;rw[iQ (λh=>h c4)]at hA;subst hA;refine qJ ?_;exact qY ⟨rfl,H3.drop⟩
  ·refine jQ c4 ?_;rw[iJ c4]at hA;subst hA;refine qZ ?_;exact qY ⟨rfl,H3.drop⟩
 |none=>
  rw[hf]at hA;dsimp only at hA;refine qJ ?_;obtain⟨sv,H4⟩:=bX.E H2;refine qK (qQ (qX ‹_› .here rfl ?_));refine qm ‹_› e_1 ?_;refine qK (qQ (qX ‹_› .here rfl ?_));by_cases c4:r.length=16
  ·refine qk omQ ?_;rw[iJ c4]at hA;subst hA;refine qZ ?_;exact qY ⟨rfl,H3.drop⟩
  ·refine qj omQ ?_;rw[iQ c4]at hA;subst hA;refine qJ (qK (qQ (qX ‹_› .here rfl ?_)));refine qE H4 (b:=b0) (off:=0) e_2 rfl omQ (l:=yf x) rfl ?_;refine qf (n:=1) (l:=yf x) (sz:=2) H4 rfl rfl rfl rfl λv2 h5 H5=>?_;refine ju (H5.aI e_2) (H5.sl .here) omQ omQ rfl λv3 h6 H6=>?_;have o6:=H6.one .here;refine qK (qQ (qw H6 (b:=b) e_2 o6 aN λh7 H7=>?_));refine qY ⟨rfl,bX.I (sv:=v3) ?_⟩;rw[List.length_append,List.flatMap_append];exact H7.sub (.cons .here (.cons .here (.drop (.drop .refl))))
theorem NF (hn:2≤n) (hr:r.length≤1000) (H:HS g h (bX b r::R)):aA n 93 [.ptr b 0] h λv h'=>HS g h' (qD 111 2 r.length v (r.flatMap yf)::bX b r::R):=by
 refine aB (S:=S93) rfl omQ λk hk=>?_;unfold S93;try simp only[iZ]
 obtain⟨sv,H⟩:=bX.E H;refine qK (qQ (qX ‹_› .here rfl ?_));refine qG (YK omQ H e_1 (JL (λ_=>rfl) _) omQ) λv h1 H1=>qY ?_;exact HS.cm e_1 (bX.I (sv:=sv) (H1.sub (.cons e_1 (.cons e_1 (.cons .here .refl)))))
end
def Ke (x:Qv) (sv:AV):List AV:=x6 x.p [sv,.bool x.bH,.int .i64 x.at_,.int .u64 x.af]
def b5 (b:Nat) (x:Qv):SP:=.ex λsv=>.all [qy b (Ke x sv),qD 111 2 x.seen.length sv (x.seen.flatMap yf)]
structure Kq (x:Qv):Prop where
  p:GT x.p
  lo:0≤x.at_
  hi:x.at_≤1000
  len:x.seen.length≤16
  le:x.at_≤x.seen.length
  pO:x.p.fin=0→x.bH=true→x.at_<x.seen.length
section
variable {n b:Nat} {x:Qv}
theorem b5.E (H:HS g h (b5 b x::R)):∃sv,HS g h (qy b (Ke x sv)::qD 111 2 x.seen.length sv (x.seen.flatMap yf)::R):=by obtain⟨sv,H⟩:=H.dU;exact⟨sv,H.cq⟩
theorem b5.I {sv:AV} (H:HS g h (qy b (Ke x sv)::qD 111 2 x.seen.length sv (x.seen.flatMap yf)::R)):HS g h (b5 b x::R):=HS.en sv H.allI
theorem qjc {me sp:Int} {v:AV} {r:List xD} (hn:2≤n) (hr:r.length≤1000) (H:HS g h (qD 111 2 r.length v (r.flatMap yf)::R)) :
  aA n 138 [.int .i64 me,.int .i64 sp,v] h λv h'=>∃b,v=.ptr b 0∧HS g h' (b5 b (NX me sp r)::R):=by
 refine cL (S:=S138) rfl omQ λk hk=>?_;unfold S138;try simp only[iZ]
 refine qG (NJ omQ H) ?_;rintro _ h1 ⟨rfl,H1⟩;refine qG (YK omQ H1 .here (JL (λ_=>rfl) _) omQ) λv h2 H2=>?_;unfold x6;have o2:=H2.one .here;refine qL (l:=Ke (NX me sp r) v) (by simp only[xT,o2.1];rfl) ?_;refine qI H2 (by show ql [_,_,_,_,_,v,_,_,_]=true;simp only[ql,List.all_cons,o2.2];rfl) λb h3 H3=>qY ⟨b,rfl,?_⟩;exact b5.I (sv:=v) (H3.sub (.cons .here (.cons .here (.drop .refl))))
theorem Pa (hn:2≤n) {sv:AV} (H:HS g h L) (s:bc L (qy b (Ke x sv)) R):aA n 176 [.ptr b 0] h λr h'=>r=.int .i64 x.p.fin∧h'=h:=by
 refine aB (S:=S176) rfl omQ λk hk=>?_;unfold S176;try simp only[iZ]
 refine qK (qQ (qG (Jn omQ H s) ?_));rintro _ _ ⟨rfl,rfl⟩;exact qY ⟨rfl,rfl⟩
theorem qvo (hn:2≤n) {sv:AV} (H:HS g h L) (s:bc L (qy b (Ke x sv)) R):aA n 370 [.ptr b 0] h λr h'=>r=.int .i64 x.p.cU∧h'=h:=by
 refine aB (S:=S370) rfl omQ λk hk=>?_;unfold S370;try simp only[iZ]
 refine qK (qQ (qG (Ha omQ H s) ?_));rintro _ _ ⟨rfl,rfl⟩;exact qY ⟨rfl,rfl⟩
theorem U9 (hn:3≤n) {sv:AV} (H:HS g h L) (s:bc L (qy b (Ke x sv)) R):aA n 144 [.ptr b 0] h λr h'=>r=.int .u64 (yr x)∧h'=h:=by
 refine aB (S:=S144) rfl omQ λk hk=>?_;unfold S144;try simp only[iZ]
 refine qG (Pa omQ H s) ?_;rintro _ _ ⟨rfl,rfl⟩;unfold yr;by_cases c:x.p.fin=2
 ·refine jJ c ?_;rw[iQ (λh=>h c)];refine qJ (qK (qQ ?_));exact qX H s rfl (qY ⟨rfl,rfl⟩)
 ·refine jQ c ?_;rw[iJ c];refine qZ ?_;exact qY ⟨rfl,rfl⟩
theorem qGE (hn:2≤n) (O:Kq x) (H:HS g h (b5 b x::R)):aA n 371 [.ptr b 0] h λr h'=>r=rC (QV x)∧HS g h' (b5 b x::R):=by
 refine aB (S:=S371) rfl omQ λk hk=>?_;unfold S371;try simp only[iZ]
 obtain⟨sv,H⟩:=b5.E H;refine qI H rfl λb0 h1 H1=>?_;refine qK (qQ (qG (Jn omQ H1 e_1) ?_));rintro _ _ ⟨rfl,rfl⟩;unfold QV;have H2:=H1;unfold Ke x6 at H2;by_cases c:x.p.fin=0
 ·refine jJ c ?_;rw[iQ (λh=>h c)];refine qJ (qK (qQ (qX ‹_› e_1 rfl ?_)));cases hl:x.bH with
  |false=>rw[iJ rfl];refine jF (qZ (qL rfl ?_));refine qd H1 (b:=b0) .here rfl (by show 0+10≤10;omega) rfl λh3 H3=>?_;refine qE H3 (b:=b0) (off:=0) .here rfl omQ (l:=x8 (bi 6 0 0)) rfl ?_;exact qY ⟨rfl,b5.I H3.drop⟩
  |true=>rw[iQ aN];refine jA (qJ (qK (qQ (qX ‹_› e_1 rfl ?_))));refine qK (qQ (qX ‹_› e_1 rfl ?_));have dl:=O.pO c hl;have dt:=O.lo;obtain⟨k,hk⟩:∃k:Nat,x.at_=k:=⟨x.at_.toNat,by omega⟩;rw[hk]at dl ⊢;refine y4 (H1.sl e_2) omQ omQ (QE omQ).1 ?_;refine qL rfl ?_;refine qd H1 (b:=b0) .here rfl (by show 0+10≤10;omega) rfl λh3 H3=>?_;refine qE H3 (b:=b0) (off:=0) .here rfl omQ (l:=x8 (bi 3 (z6 x.seen k).1 0)) rfl ?_;exact qY ⟨rfl,b5.I H3.drop⟩
 ·refine jQ c ?_;rw[iJ c];refine qZ (qL rfl ?_);refine qd H1 (b:=b0) .here rfl (by show 0+10≤10;omega) rfl λh3 H3=>?_;refine qE H3 (b:=b0) (off:=0) .here rfl omQ (l:=x8 (bi 0 0 0)) rfl ?_;exact qY ⟨rfl,b5.I H3.drop⟩
theorem JS {p:JX} {a:cO} (hs:(jK p a).1=false):(jK p a).2=p∧p.fin=0:=by
 unfold jK at hs ⊢
 split at hs
 ·cases hs
 ·rename_i c;rw[iQ c];exact⟨rfl,by simpa using hs⟩
theorem qG6 {a:cO} (hn:3≤n) (O:Kq x) (H:HS g h (b5 b x::R)):aA n 372 [.ptr b 0,.agg (zt a)] h λ_ h'=>HS g h' (b5 b (xO x a)::R):=by
 refine ba (S:=S372) rfl omQ λk hk=>?_;unfold S372;try simp only[iZ]
 generalize hF:xO x a=F;obtain⟨sv,H⟩:=b5.E H;refine qI H rfl λb0 h1 H1=>?_;refine jm [] (λs h'=>s=(.ptr b 0,())∧∃y,F=XF y∧y.seen.length≤16∧HS g h' (b5 b y::R)) (λj hj=>?_) ?_
 rotate_left
 ·rintro s h2 ⟨rfl,y,rfl,hy,H2⟩;obtain⟨sv,H2⟩:=b5.E H2;have H3:=H2;unfold Ke x6 at H3;unfold XF;refine qK (qQ (qX ‹_› .here rfl ?_));refine qK (qQ (qX ‹_› .here rfl ?_));refine qm ‹_› e_1 ?_;by_cases c:y.at_=(y.seen.length:Int)
  ·refine qk c ?_;rw[iJ c];refine qZ (qK (qQ (qG (vr omQ H2) λ_ h4 H4=>?_)));refine qx ?_;exact qY (b5.I H4)
  ·refine qj c ?_;rw[iQ c];refine qJ (qx ?_);exact qY (b5.I H2)
 refine qK (qQ (qE H1 (b:=b0) (off:=0) .here rfl omQ (l:=zt a) rfl ?_));refine qG (Jj omQ (H1.aI e_1)) ?_;rintro _ h2 ⟨rfl,H2⟩;unfold xO at hF;cases hs:(jK x.p a).1 with
 |true=>rw[iJ hs]at hF;subst hF;refine qZ ?_;exact qY (b5.I (x:={ x with p:=(jK x.p a).2 }) (sv:=sv) (H2.sub (.cons .here (.cons e_1 (.drop .refl)))))
 |false=>
  rw[iQ (by rw[hs];simp)]at hF;have pN:=JS hs;rw[pN.1]at H2;have H3:HS g h2 (qy b (Ke x sv)::qy b0 (zt a)::qD 111 2 x.seen.length sv (x.seen.flatMap yf)::R):=H2;have H4:=H3;unfold Ke x6 zt at H4;have dt:=O.lo;have iN:=O.hi;have hlen:=O.len;refine qJ (qK (qQ (qX ‹_› .here rfl ?_)));cases hl:x.bH with
  |false=>
   rw[iJ hl]at hF;refine jF (qZ (qW ?_));(try dsimp only);refine qQ (qX ‹_› e_1 rfl ?_);refine qK (qQ ?_)
   refine qw H4 (b:=b) .here ⟨rfl,rfl⟩ aN λh5 H5=>?_;refine qK (qQ (qw H5 (b:=b) .here ⟨rfl,rfl⟩ aN λh6 H6=>?_));refine qb ‹_› e_1 rfl ‹_› e_1 rfl (HS.lt ‹_› e_1) ?_;exact hj _ _ ⟨rfl,{ x with bH:=true,af:=a.word },hF.symm,hlen,b5.I (sv:=sv) (H6.sub (.cons .here (.cons e_1 (.drop .refl))))⟩
  |true=>
   rw[iQ (by rw[hl];simp)]at hF;refine jA (qJ (qQ (qh (qX H4 (b:=b0) e_1 rfl ?_))));cases hd:a.lk.2.1 with
   |true=>
    rw[iJ hd]at hF;refine qZ (qW ?_);(try dsimp only);refine qK (qQ (qQ ?_))
    refine qE H4 (b:=b0) (off:=1) e_1 rfl omQ (l:=zW a.lk) rfl ?_;refine qG (GJ (l:=a.lk) omQ (O.p pN.2) H3) ?_;rintro _ h5 ⟨rfl,H5⟩;cases hw:(jE x.p a.lk).1 with
    |true=>rw[iJ hw]at hF;subst hF;refine jA (qJ (qx ?_));exact qY (b5.I (x:={ x with p:=(jE x.p a.lk).2 }) (sv:=sv) (H5.sub (.cons .here (.cons e_1 (.drop .refl)))))
    |false=>rw[iQ (by rw[hw];simp)]at hF;subst hF;have H6:=H5;unfold zt at H6;refine jF (qZ (qK (qQ (qQ (qh (qX H6 (b:=b0) e_1 rfl ?_))))));refine qG (vr omQ H5) λ_ h7 H7=>?_;refine qx ?_;exact qY (b5.I (x:={ x with p:=qr (jE x.p a.lk).2 5 0 a.lk.2.2 }) (sv:=sv) (H7.sub (.cons .here (.cons e_1 (.drop .refl)))))
   |false=>
    rw[iQ (by rw[hd];simp)]at hF;refine qJ (qQ (qh (qX H4 (b:=b0) e_1 rfl ?_)));refine qK (qQ (qX ‹_› .here rfl ?_));refine qK (qQ (qX ‹_› .here rfl ?_));have dl:=O.pO pN.2 hl;obtain⟨k,hk⟩:∃k:Nat,x.at_=k:=⟨x.at_.toNat,by omega⟩;rw[hk]at dl ⊢;rw[hk]at hF;refine y4 (H3.sl e_2) omQ omQ (QE omQ).2 ?_;by_cases c:a.lk.1=(z6 x.seen k).2
    ·refine jJ c ?_;rw[iQ (λh=>h c)]at hF;refine qJ (qK (qQ (qX ‹_› .here rfl ?_)));refine qU omQ ?_;refine qK (qQ ?_);rw[hk]
     skip
     refine qw H4 (b:=b) .here ⟨rfl,rfl⟩ aN λh5 H5=>?_;exact hj _ _ ⟨rfl,{ x with at_:=(k:Int)+1 },hF.symm,hlen,b5.I (sv:=sv) (H5.sub (.cons .here (.cons e_1 (.drop .refl))))⟩
    ·refine jQ c ?_;rw[iJ c,← hk]at hF;subst hF;refine qZ (qK (qQ (qG (vr omQ H3) λ_ h7 H7=>?_)));exact qY (b5.I (x:={ x with p:=qr x.p 5 0 (-1) }) (sv:=sv) (H7.sub (.cons .here (.cons e_1 (.drop .refl)))))
end
end
section
variable {g h:AH} {L R:List SP}
structure ComL (c:zL):Prop where
  seen:c.seen.length≤16
  cells:c.cells.length≤1000
  s:c.s.length≤16
  aZ:c.aZ.length≤c.s.length
  pos:0<c.s.length
  di:c.s.Pairwise (· < ·)
  lo:0≤c.at_
  hi:c.at_≤1000
  now:0≤c.now∧c.now<9223372036854775807
def zv (fin ao state at_ now bL:Int) (sl cl tl wl:Nat):Prop :=
 (sl≤16∧cl≤1000∧tl≤16∧wl≤tl∧0<tl∧0≤at_∧at_≤1000∧0≤now∧now<9223372036854775807∧0≤state∧state≤7)∧(fin=0→state≤6→0≤ao∧ao≤4)∧(fin=0→state≤1→wl<tl)∧(state≤4→at_≤sl)∧
 (2≤state→state≤6→wl=tl)∧(fin=0→state=4→at_<sl)∧(fin=0→state=5→at_<cl)∧(fin=0→state=6→at_<tl)∧(fin=0→state=7→at_<wl)∧(state=7→bL≠0)
structure zr (c:zL):Prop where
  di:c.s.Pairwise (· < ·)
  ar:zv c.p.fin c.p.ao c.state c.at_ c.now c.bL c.seen.length c.cells.length c.s.length c.aZ.length
section
variable {c:zL} (O:zr c)
include O
theorem zr.toComL:ComL c:=by have h:=O.ar;unfold zv at h;exact⟨by omega,by omega,by omega,by omega,by omega,O.di,by omega,by omega,by omega⟩
theorem zr.p (hg:c.p.fin=0) (hs:c.state≤6):0≤c.p.ao∧c.p.ao≤4:=by have h:=O.ar;unfold zv at h;omega
theorem zr.Pb (hg:c.p.fin=0) (hs:c.state≤1):c.aZ.length<c.s.length:=by have h:=O.ar;unfold zv at h;omega
theorem zr.Pc (h1:2≤c.state) (h2:c.state≤4):c.aZ.length=c.s.length∧c.at_≤c.seen.length:=by have h:=O.ar;unfold zv at h;omega
theorem zr.Pd (hg:c.p.fin=0) (hs:c.state=4):c.at_<c.seen.length:=by have h:=O.ar;unfold zv at h;omega
theorem zr.Pe (hg:c.p.fin=0) (hs:c.state=5):c.at_<c.cells.length:=by have h:=O.ar;unfold zv at h;omega
theorem zr.Pf (hg:c.p.fin=0) (hs:c.state=6):c.at_<c.s.length:=by have h:=O.ar;unfold zv at h;omega
theorem zr.Pg (hg:c.p.fin=0) (hs:c.state=7):c.at_<c.aZ.length:=by have h:=O.ar;unfold zv at h;omega
theorem zr.st:0≤c.state∧c.state≤7:=by have h:=O.ar;unfold zv at h;omega
theorem zr.s:c.s.length≤16:=O.toComL.s
theorem zr.aZ:c.aZ.length≤c.s.length:=O.toComL.aZ
theorem zr.seen:c.seen.length≤16:=O.toComL.seen
theorem zr.lo:0≤c.at_:=O.toComL.lo
theorem zr.hi:c.at_≤1000:=O.toComL.hi
theorem zr.now:0≤c.now∧c.now<9223372036854775807:=O.toComL.now
end
theorem qW2:∀{s:List Int} {aZ:List dy} {x:Int},s.Pairwise (· < ·)→aZ.length=s.length→r8 s aZ x=if x∈s then some (xg aZ (s.countP (· <x):Nat)).1 else none:=by
 intro s
 induction s with
 |nil=>intro aZ x _ _;cases aZ<;>rfl
 |cons y s ih=>
  intro aZ x hp hl;cases aZ with
  |nil=>cases hl
  |cons w aZ=>
   have h1:=List.pairwise_cons.1 hp;unfold r8;by_cases e:y=x
   ·subst e;rw[iJ rfl,iJ (iK ..),List.countP_cons,List.countP_eq_zero.2 (λa ha=>by have:=h1.1 a ha;simp;omega),iV omQ];rfl
   ·rw[iQ e,ih h1.2 (by simpa using hl)];by_cases hm:x∈s
    ·rw[iJ hm,iJ (iX _ hm),List.countP_cons,iG (h1.1 x hm)];unfold xg;simp
    ·rw[iQ hm,iQ (λh=>by rcases List.mem_cons.1 h with h |h;exact e h.symm;exact hm h)]
theorem qxe {s:List Int} {x:Int} (hp:s.Pairwise (· < ·)) (h:x∈s):s.countP (· <x)<s.length:=by
 rcases Nat.lt_or_ge (s.countP (· <x)) s.length with h' |h'
 ·exact h'
 ·have:=List.countP_eq_length.1 (Nat.le_antisymm List.countP_le_length h') x h;simp at this
def kc (c:zL) (sv cv tv wv:AV):List AV:=x6 c.p [.int .i64 c.me,.int .u64 c.af,sv,cv,tv,wv,.int .i64 c.state,.int .i64 c.at_,.int .u64 c.lk.1,.bool c.lk.2.1,.int .i64 c.lk.2.2,.int .u64 c.now,.bool c.writing,.int .i64 c.bL,.int .i64 c.Am,.int .i64 c.nZ]
def ay (b:Nat) (c:zL):SP:=.ex λq:AV×AV×AV×AV=>.all [qy b (kc c q.1 q.2.1 q.2.2.1 q.2.2.2),qD 111 2 c.seen.length q.1 (c.seen.flatMap yf),qD 163 2 c.cells.length q.2.1 (c.cells.flatMap jT),
 qD 3 1 c.s.length q.2.2.1 (c.s.map (.int .i64)),qD 65 3 c.aZ.length q.2.2.2 (c.aZ.flatMap zW)]
section
variable {n b:Nat} {c:zL} {sv cv tv wv:AV}
theorem ay.E (H:HS g h (ay b c::R)):∃sv cv tv wv,HS g h (qy b (kc c sv cv tv wv)::qD 111 2 c.seen.length sv (c.seen.flatMap yf)::qD 163 2 c.cells.length cv (c.cells.flatMap jT)::
  qD 3 1 c.s.length tv (c.s.map (.int .i64))::qD 65 3 c.aZ.length wv (c.aZ.flatMap zW)::R):=by
 obtain⟨⟨sv,cv,tv,wv⟩,H⟩:=H.dU;exact⟨sv,cv,tv,wv,H.cq⟩
theorem ay.I (H:HS g h (qy b (kc c sv cv tv wv)::qD 111 2 c.seen.length sv (c.seen.flatMap yf)::qD 163 2 c.cells.length cv (c.cells.flatMap jT)::
  qD 3 1 c.s.length tv (c.s.map (.int .i64))::qD 65 3 c.aZ.length wv (c.aZ.flatMap zW)::R)):HS g h (ay b c::R):=HS.en (sv,cv,tv,wv) H.allI
theorem O7 (hn:2≤n) (H:HS g h (ay b c::R)):aA n 381 [.ptr b 0] h λ_ h'=>HS g h' (ay b (ki c)::R):=by
 refine aB (S:=S381) rfl omQ λk hk=>?_;unfold S381;try simp only[iZ]
 obtain⟨sv,cv,tv,wv,H⟩:=ay.E H;have H1:=H;unfold kc x6 at H1;unfold ki;refine qK (qQ (qX ‹_› .here rfl ?_));refine qK (qQ (qX ‹_› .here rfl ?_));refine qm ‹_› e_3 ?_;by_cases c0:c.at_=(c.s.length:Int)
 ·refine qk c0 ?_;rw[iJ c0];refine qZ (qK (qQ (qG (vr omQ H) λ_ h2 H2=>?_)));exact qY (ay.I (c:={ c with p:=qr c.p 2 0 (-1) }) H2)
 ·refine qj c0 ?_;rw[iQ c0];refine qJ ?_;exact qY (ay.I H)
theorem Vi (hn:3≤n) (H:HS g h (ay b c::R)):aA n 380 [.ptr b 0] h λ_ h'=>HS g h' (ay b (wW c)::R):=by
 refine aB (S:=S380) rfl omQ λk hk=>?_;unfold S380;try simp only[iZ]
 obtain⟨sv,cv,tv,wv,H⟩:=ay.E H;have H1:=H;unfold kc x6 at H1;unfold wW;refine qK (qQ (qX ‹_› .here rfl ?_));refine qK (qQ (qX ‹_› .here rfl ?_));refine qm ‹_› e_2 ?_;by_cases c0:c.at_=(c.cells.length:Int)
 ·refine qk c0 ?_;rw[iJ c0];refine qZ (qK (qQ (qw H1 (b:=b) .here ⟨rfl,rfl⟩ aN λh2 H2=>?_)));refine qK (qQ (qw H2 (b:=b) .here ⟨rfl,rfl⟩ aN λh3 H3=>?_));refine qG (O7 (c:={ c with at_:=0,state:=6 }) omQ (ay.I H3)) λ_ h4 H4=>qY H4
 ·refine qj c0 ?_;rw[iQ c0];refine qJ ?_;exact qY (ay.I H)
theorem Vx (hn:4≤n) (H:HS g h (ay b c::R)):aA n 376 [.ptr b 0] h λ_ h'=>HS g h' (ay b (kw c)::R):=by
 refine aB (S:=S376) rfl omQ λk hk=>?_;unfold S376;try simp only[iZ]
 obtain⟨sv,cv,tv,wv,H⟩:=ay.E H;unfold kc x6 at H;refine qK (qQ (qw H (b:=b) .here ⟨rfl,rfl⟩ aN λh2 H2=>?_));refine qK (qQ (qw H2 (b:=b) .here ⟨rfl,rfl⟩ aN λh3 H3=>?_));refine qK (qQ (qw H3 (b:=b) .here ⟨rfl,rfl⟩ aN λh4 H4=>?_));refine qG (Vi (c:={ c with writing:=true,at_:=0,state:=5 }) omQ (ay.I H4)) λ_ h5 H5=>qY H5
theorem VZ (hn:2≤n) (H:HS g h (ay b c::R)):aA n 382 [.ptr b 0] h λ_ h'=>HS g h' (ay b (wV c)::R):=by
 refine aB (S:=S382) rfl omQ λk hk=>?_;unfold S382;try simp only[iZ]
 obtain⟨sv,cv,tv,wv,H⟩:=ay.E H;have H1:=H;unfold kc x6 at H1;unfold wV;refine qK (qQ (qX ‹_› .here rfl ?_));refine qK (qQ (qX ‹_› .here rfl ?_));refine qm ‹_› e_4 ?_;by_cases c0:c.at_=(c.aZ.length:Int)
 ·refine qk c0 ?_;rw[iJ c0];refine qZ (qK (qQ (qK (qQ (qX ‹_› .here rfl ?_)))));refine qK (qQ (qX ‹_› .here rfl ?_));refine qK (qQ (qX ‹_› .here rfl ?_));refine qG (vr omQ H) λ_ h2 H2=>?_;exact qY (ay.I (c:={ c with p:=qr c.p c.bL c.nZ c.Am }) H2)
 ·refine qj c0 ?_;rw[iQ c0];refine qJ ?_;exact qY (ay.I H)
theorem Yy {f e y:Int} (hn:3≤n) (H:HS g h (ay b c::R)):aA n 384 [.ptr b 0,.int .i64 f,.int .i64 e,.int .i64 y] h λ_ h'=>HS g h' (ay b (wo c f e y)::R):=by
 refine pu (S:=S384) rfl omQ λk hk=>?_;unfold S384;try simp only[iZ]
 obtain⟨sv,cv,tv,wv,H⟩:=ay.E H;unfold kc x6 at H;refine qK (qQ (qw H (b:=b) .here ⟨rfl,rfl⟩ aN λh2 H2=>?_));refine qK (qQ (qw H2 (b:=b) .here ⟨rfl,rfl⟩ aN λh3 H3=>?_));refine qK (qQ (qw H3 (b:=b) .here ⟨rfl,rfl⟩ aN λh4 H4=>?_));refine qK (qQ (qw H4 (b:=b) .here ⟨rfl,rfl⟩ aN λh5 H5=>?_));refine qK (qQ (qw H5 (b:=b) .here ⟨rfl,rfl⟩ aN λh6 H6=>?_));refine qG (VZ (c:={ c with bL:=f,nZ:=e,Am:=y,at_:=0,state:=7 }) omQ (ay.I H6)) λ_ h5 H5=>qY H5
theorem ZH (hn:1≤n) (H:HS g h (ay b c::R)):aA n 142 [.ptr b 0] h λ_ h'=>HS g h' (ay b (Qn c)::R):=by
 refine aB (S:=S142) rfl omQ λk hk=>?_;unfold S142;try simp only[iZ]
 obtain⟨sv,cv,tv,wv,H⟩:=ay.E H;unfold kc x6 at H;unfold Qn;refine qK (qQ (qw H (b:=b) .here ⟨rfl,rfl⟩ aN λh2 H2=>?_));refine qK (qQ (qX ‹_› .here rfl ?_));refine qm ‹_› e_4 ?_;refine qK (qQ (qX ‹_› .here rfl ?_));refine qm ‹_› e_3 ?_;by_cases c0:c.aZ.length=c.s.length
 ·refine qk omQ ?_;rw[iJ c0];refine qZ (qK (qQ (qw H2 (b:=b) .here ⟨rfl,rfl⟩ aN λh3 H3=>?_)));exact qY (ay.I (c:={ c with state:=2 }) H3)
 ·refine qj omQ ?_;rw[iQ c0];refine qJ ?_;exact qY (ay.I (c:={ c with state:=0 }) H2)
theorem Nr {l:dy} (hn:4≤n) (hp:0≤c.p.ao∧c.p.ao≤4) (H:HS g h (ay b c::R)):aA n 383 [.ptr b 0,.agg (zW l)] h λ_ h'=>HS g h' (ay b (kh c l)::R):=by
 refine ba (S:=S383) rfl omQ λk hk=>?_;unfold S383;try simp only[iZ]
 obtain⟨sv,cv,tv,wv,H⟩:=ay.E H;refine qI H rfl λb0 h1 H1=>?_;unfold kh;refine qK (qQ (qE H1 (b:=b0) (off:=0) .here rfl omQ (l:=zW l) rfl ?_));refine qG (GJ (l:=l) omQ hp (H1.aI e_1)) ?_;rintro _ h2 ⟨rfl,H2⟩;have H3:HS g h2 (ay b { c with p:=(jE c.p l).2 }::qy b0 (zW l)::R):=ay.I (sv:=sv) (cv:=cv) (tv:=tv) (wv:=wv) (H2.sub (.cons .here (.cons e_1 (.cons e_1 (.cons e_1 (.cons e_1 .refl))))));cases hw:(jE c.p l).1 with
 |true=>rw[iJ rfl];refine jA (qJ ?_);exact qY (H3.sub (.cons .here (.drop .refl)))
 |false=>rw[iQ aN];unfold zW at H3;refine jF (qZ (qQ (qX ‹_› e_1 rfl ?_)));refine qG (Yy omQ H3) λ_ h4 H4=>?_;exact qY (H4.sub (.cons .here (.drop .refl)))
theorem Vu (hn:5≤n) (O:ComL c) (hw:c.aZ.length=c.s.length) (ha:c.at_≤c.seen.length) (H:HS g h (ay b c::R)):aA n 385 [.ptr b 0] h λ_ h'=>HS g h' (ay b (QL c)::R):=by
 refine aB (S:=S385) rfl omQ λk hk=>?_;unfold S385;try simp only[iZ]
 generalize hF:QL c=F;unfold QL at hF;obtain⟨sv,cv,tv,wv,H⟩:=ay.E H;unfold kc x6 at H;have l1:=O.seen;have l2:=O.s;have l3:=O.pos;have l4:=O.lo;refine qK (qQ (qw H (b:=b) .here ⟨rfl,rfl⟩ aN λh2 H2=>?_));have H2:HS g h2 (ay b { c with state:=4 }::R):=ay.I H2;refine jR (λm s h'=>s=(.ptr b 0,())∧∃a:Int,vO { c with state:=4,at_:=a } m=F∧0≤a∧a≤c.seen.length∧c.seen.length<a+m∧HS g h' (ay b { c with state:=4,at_:=a }::R))
  ?_ (m:=c.seen.length+1) (by show _<1000000000;omega) ⟨rfl,c.at_,hF,l4,ha,by omega,H2⟩
 clear H H2 hF;rintro m ih s h3 bF ⟨rfl,a,hF,ha0,ha,hm,H⟩;dsimp only;obtain⟨m,rfl⟩:∃k,m=k+1:=⟨m-1,by omega⟩;unfold vO at hF;dsimp only at hF;obtain⟨sv,cv,tv,wv,H⟩:=ay.E H;have H1:=H;unfold kc x6 at H1;dsimp only at H1;refine qK (qQ (qX ‹_› .here rfl ?_));refine qK (qQ (qX ‹_› .here rfl ?_));refine qm ‹_› e_1 ?_;by_cases ap:a<c.seen.length
 ·refine jH ap ?_;rw[iJ ap]at hF;obtain⟨k,rfl⟩:∃k:Nat,a=k:=⟨a.toNat,by omega⟩;refine qZ (qK (qQ (qX ‹_› .here rfl ?_)));refine qK (qQ (qX ‹_› .here rfl ?_));refine qK (qQ (qX ‹_› .here rfl ?_));refine y4 (H.sl e_1) omQ (by show k<c.seen.length;omega) (QE (by show k<c.seen.length;omega)).1 ?_;refine qG (qq4 omQ H1 e_3 l3 omQ (O.di.imp λh=>by omega)) ?_;rintro _ _ ⟨rfl,rfl⟩;rw[qW2 O.di hw]at hF;by_cases hc:(z6 c.seen k).1∈c.s
  ·rw[iJ hc]at hF;dsimp only at hF;rw[show c.s.contains (z6 c.seen k).1=true from List.contains_iff_mem.2 hc];have DH:=qxe O.di hc;refine qB rfl ?_;refine qB rfl ?_;refine jA (qJ (qK (qQ (qX ‹_› .here rfl ?_))));refine y4 (f:=0) (x:=.int .u64 (xg c.aZ (c.s.countP (· <(z6 c.seen k).1):Nat)).1) (H.sl e_4) omQ (Nat.lt_of_lt_of_eq DH hw.symm) ?_ ?_
   ·have:=congrArg (·[0]?) (MS (l:=c.aZ) (k:=c.s.countP (· <(z6 c.seen k).1)) omQ);simp only[List.getElem?_take_of_lt (show 0<3 by omega),List.getElem?_drop]at this;exact this
   refine qK (qQ (qX ‹_› .here rfl ?_));refine qK (qQ (qX ‹_› .here rfl ?_));refine y4 (H.sl e_1) omQ (by show k<c.seen.length;omega) (QE (by show k<c.seen.length;omega)).2 ?_;by_cases hv:(xg c.aZ (c.s.countP (· <(z6 c.seen k).1):Nat)).1=(z6 c.seen k).2
   ·refine jJ hv ?_;rw[iQ (λh=>h hv)]at hF;refine qJ (qK (qQ (qX ‹_› .here rfl ?_)));refine qU omQ ?_;refine qK (qQ (qw H1 (b:=b) .here ⟨rfl,rfl⟩ aN λh4 H4=>?_));exact bF m _ _ omQ ⟨rfl,(k:Int)+1,hF,by omega,by omega,by omega,ay.I (c:={ c with state:=4,at_:=(k:Int)+1 }) H4⟩
   ·refine jQ hv ?_;rw[iJ hv]at hF;subst hF;refine qZ (qG (Yy omQ (ay.I H)) λ_ h4 H4=>?_);refine qx ?_;exact qY H4
  ·rw[iQ hc]at hF;dsimp only at hF;subst hF;rw[show c.s.contains (z6 c.seen k).1=false from by simpa using hc];refine qB rfl ?_;refine qB rfl ?_;refine jF (qZ (qx ?_));exact qY (ay.I H)
 ·refine jz ap ?_;rw[iQ ap]at hF;subst hF;refine qJ (qG (Vx omQ (ay.I H)) λ_ h4 H4=>?_);refine qx ?_;exact qY H4
end
end
section
variable {g h:AH} {L R:List SP}
section
variable {n b:Nat} {c:zL} {sv cv tv wv:AV} {a:cO}
theorem qQm {l:dy} (hn:6≤n) (O:zr c) (hg:c.p.fin=0) (h4:c.state=4) (H:HS g h (ay b c::R)):aA n 379 [.ptr b 0,.agg (zW l)] h λ_ h'=>HS g h' (ay b (w7 c l)::R):=by
 refine ba (S:=S379) rfl omQ λk hk=>?_;unfold S379;try simp only[iZ]
 generalize hF:w7 c l=F;refine qI H rfl λb0 h1 H1=>?_;refine jm [] (λ_ h'=>HS g h' (ay b F::R)) (λj hj=>?_) λ_ h' H'=>?_
 rotate_left
 ·refine qx ?_;exact qY H'
 unfold w7 at hF;have H2:=H1;unfold zW at H2;refine qQ (qX ‹_› .here rfl ?_);cases hd:l.2.1 with
 |true=>rw[iJ hd]at hF;subst hF;refine qZ (qE H1 (b:=b0) (off:=0) .here rfl omQ (l:=zW l) rfl ?_);refine qG (Nr omQ (O.p hg omQ) (H1.aI e_1)) λ_ h3 H3=>?_;exact hj _ _ (H3.sub (.cons .here (.drop .refl)))
 |false=>
  rw[iQ (by rw[hd];simp)]at hF;obtain⟨sv,cv,tv,wv,H3⟩:=ay.E (H2.aI e_1);have H4:=H3;unfold kc x6 at H4;have ap:=O.Pd hg h4;have dt:=O.lo;have l1:=O.seen;obtain⟨k,hk⟩:∃k:Nat,c.at_=k:=⟨c.at_.toNat,by omega⟩;refine qJ (qQ (qX ‹_› e_5 rfl ?_));refine qK (qQ (qX ‹_› .here rfl ?_));refine qK (qQ (qX ‹_› .here rfl ?_));rw[hk]at hF ap ⊢;refine y4 (H3.sl e_1) omQ omQ (QE omQ).2 ?_;by_cases c0:l.1=(z6 c.seen k).2
  ·refine jJ c0 ?_;rw[iQ (λh=>h c0)]at hF;subst hF;refine qJ (qK (qQ (qX ‹_› .here rfl ?_)));refine qU omQ ?_;refine qK (qQ ?_);rw[hk]
   skip
   refine qw H4 (b:=b) .here ⟨rfl,rfl⟩ aN λh5 H5=>?_;refine qG (Vu (c:={ c with at_:=(k:Int)+1 }) omQ { O.toComL with lo:=(by show(0:Int)≤k+1;omega),hi:=(by show(k:Int)+1≤1000;have:=O.seen;omega) } (O.Pc omQ omQ).1 (by show(k:Int)+1≤c.seen.length;omega) (ay.I H5)) λ_ h6 H6=>?_;exact hj _ _ (H6.sub (.cons .here (.drop .refl)))
  ·refine jQ c0 ?_;rw[iJ c0]at hF;subst hF;refine qZ (qG (Yy omQ (ay.I H3)) λ_ h6 H6=>?_);exact hj _ _ (H6.sub (.cons .here (.drop .refl)))
theorem Oz (hn:5≤n) (O:zr c) (hg:c.p.fin=0) (H:HS g h (ay b c::R)):aA n 377 [.ptr b 0,.agg (zt a)] h λ_ h'=>HS g h' (ay b (XZ c a)::R):=by
 refine ba (S:=S377) rfl omQ λk hk=>?_;unfold S377;try simp only[iZ]
 generalize hF:XZ c a=F;refine qI H rfl λb0 h1 H1=>?_;refine jm [] (λ_ h'=>HS g h' (ay b F::R)) (λj hj=>?_) λ_ h' H'=>?_
 rotate_left
 ·refine qx ?_;exact qY H'
 unfold XZ at hF;obtain⟨sv,cv,tv,wv,H2⟩:=ay.E (H1.aI e_1);have H3:=H2;unfold kc x6 zt at H3;have l1:=O.s;have l2:=O.aZ;refine qK (qQ (qX ‹_› .here rfl ?_));by_cases c0:c.state=0
 ·refine qk c0 ?_;refine qW ?_;(try dsimp only);refine qR ?_;(try dsimp only);refine qQ ?_
  refine qh (qX H3 (b:=b0) e_5 rfl ?_);cases hd:a.lk.2.1 with
  |true=>rw[iJ ⟨c0,hd⟩]at hF;subst hF;refine qC (qZ (qQ (qE H1 (b:=b0) (off:=1) .here rfl omQ (l:=zW a.lk) rfl ?_)));refine qG (Nr omQ (O.p hg omQ) (H1.aI e_1)) λ_ h3 H3=>?_;exact hj _ _ (H3.sub (.cons .here (.drop .refl)))
  |false=>rw[iQ (λh=>by rw[hd]at h;cases h.2),iJ c0]at hF;subst hF;refine qC (qJ (qK (qQ (qX ‹_› .here rfl ?_))));refine qk omQ ?_;refine qZ (qQ (qE H1 (b:=b0) (off:=1) .here rfl omQ (l:=zW a.lk) rfl ?_));refine qK (qQ (qd H3 (b:=b) .here rfl (by show 13+3≤21;omega) rfl λh5 H5=>?_));refine qK (qQ (qw H5 (b:=b) .here ⟨rfl,rfl⟩ (by simp[wA]) λh6 H6=>?_));have H7:HS g h6 (ay b { c with lk:=a.lk,state:=1 }::qy b0 (zt a)::R):=ay.I (sv:=sv) (cv:=cv) (tv:=tv) (wv:=wv) H6;exact hj _ _ (H7.sub (.cons .here (.drop .refl)))
 ·refine qj c0 ?_;rw[iQ (λh=>c0 h.1),iQ c0]at hF;refine qW ?_;(try dsimp only);refine qS ?_;(try dsimp only);refine qF (qJ (qK (qQ (qX ‹_› .here rfl ?_))));refine qj omQ ?_;refine qJ (qQ (qX ‹_› e_5 rfl ?_))
  cases hd:a.done with
  |true=>
   rw[iJ hd]at hF;subst hF;refine qZ (qK (qQ (qX ‹_› .here rfl ?_)));refine qK (qQ (qE H3 (b:=b) (off:=13) .here rfl omQ (l:=zW c.lk) rfl ?_));refine qf (n:=1) (l:=zW c.lk) (sz:=3) H3 rfl rfl rfl rfl λv2 h5 H5=>?_;refine ju (H5.aI e_5) (H5.sl .here) omQ omQ rfl λv3 h6 H6=>?_;have o6:=H6.one .here;refine qK (qQ (qw H6 (b:=b) e_2 o6 aN λh7 H7=>?_));have H8:HS g h7 (ay b { c with aZ:=c.aZ++[c.lk] }::qy b0 (zt a)::R):=by refine ay.I (sv:=sv) (cv:=cv) (tv:=tv) (wv:=v3) ?_;rw[List.length_append,List.flatMap_append];exact H7.sub (.cons .here (.cons e_2 (.cons e_2 (.cons e_2 (.cons .here (.drop .refl))))))
   refine qG (ZH omQ H8) λ_ h9 H9=>?_;exact hj _ _ (H9.sub (.cons .here (.drop .refl)))
  |false=>rw[iQ (by rw[hd];simp)]at hF;subst hF;refine qJ (qK (qQ (qw H3 (b:=b) .here ⟨rfl,rfl⟩ aN λh6 H6=>?_)));have H7:HS g h6 (ay b { c with state:=0 }::qy b0 (zt a)::R):=ay.I (sv:=sv) (cv:=cv) (tv:=tv) (wv:=wv) H6;exact hj _ _ (H7.sub (.cons .here (.drop .refl)))
theorem Vd (hn:6≤n) (O:zr c) (Ac:c.state=2∨c.state=3) (H:HS g h (ay b c::R)):aA n 378 [.ptr b 0,.agg (zt a)] h λ_ h'=>HS g h' (ay b (QP c a)::R):=by
 refine ba (S:=S378) rfl omQ λk hk=>?_;unfold S378;try simp only[iZ]
 generalize hF:QP c a=F;refine qI H rfl λb0 h1 H1=>?_;refine jm [] (λ_ h'=>HS g h' (ay b F::R)) (λj hj=>?_) λ_ h' H'=>?_
 rotate_left
 ·refine qx ?_;exact qY H'
 unfold QP at hF;obtain⟨sv,cv,tv,wv,H2⟩:=ay.E (H1.aI e_1);have H3:=H2;unfold kc x6 zt at H3;refine qK (qQ (qX ‹_› .here rfl ?_));by_cases c0:c.state=2
 ·refine qk c0 ?_;refine qW ?_;(try dsimp only);refine qR ?_;(try dsimp only);refine qQ (qX ‹_› e_5 rfl ?_)
  by_cases c1:4611686018427387903≤a.word
  ·refine zy omQ ?_;rw[iJ ⟨c0,c1⟩]at hF;subst hF;refine qC (qZ (qG (Yy omQ (ay.I H2)) λ_ h6 H6=>?_));exact hj _ _ (H6.sub (.cons .here (.drop .refl)))
  ·refine zY omQ ?_;rw[iQ (λh=>c1 h.2),iJ c0]at hF;subst hF;refine qC (qJ (qK (qQ (qX ‹_› .here rfl ?_))));refine qk omQ ?_;refine qZ (qQ (qX ‹_› e_5 rfl ?_));refine qK (qQ (qw H3 (b:=b) .here ⟨rfl,rfl⟩ aN λh6 H6=>?_));refine qK (qQ (qw H6 (b:=b) .here ⟨rfl,rfl⟩ aN λh7 H7=>?_));have H8:HS g h7 (ay b { c with now:=a.word,state:=3 }::qy b0 (zt a)::R):=ay.I (sv:=sv) (cv:=cv) (tv:=tv) (wv:=wv) H7;exact hj _ _ (H8.sub (.cons .here (.drop .refl)))
 ·refine qj c0 ?_;rw[iQ (λh=>c0 h.1),iQ c0]at hF;have h3:=O.Pc omQ omQ;refine qW ?_;(try dsimp only);refine qS ?_;(try dsimp only);refine qF (qJ (qK (qQ (qX ‹_› .here rfl ?_))));refine qj omQ ?_;refine qJ (qQ (qX ‹_› e_5 rfl ?_))
  cases hd:a.done with
  |false=>rw[iJ hd]at hF;subst hF;refine jF (qZ (qK (qQ (qw H3 (b:=b) .here ⟨rfl,rfl⟩ aN λh6 H6=>?_))));have H7:HS g h6 (ay b { c with state:=2 }::qy b0 (zt a)::R):=ay.I (sv:=sv) (cv:=cv) (tv:=tv) (wv:=wv) H6;exact hj _ _ (H7.sub (.cons .here (.drop .refl)))
  |true=>
   rw[iQ (by rw[hd];simp)]at hF;refine jA (qJ (qK (qQ (qX ‹_› .here rfl ?_))));refine qK (qQ (qX ‹_› .here rfl ?_));by_cases c1:c.now=c.af
   ·refine qk c1 ?_;rw[iJ c1]at hF;subst hF;refine qZ (qG (Vx omQ (ay.I H2)) λ_ h6 H6=>?_);exact hj _ _ (H6.sub (.cons .here (.drop .refl)))
   ·refine qj c1 ?_;rw[iQ c1]at hF;subst hF;refine qJ (qG (Vu omQ O.toComL h3.1 h3.2 (ay.I H2)) λ_ h6 H6=>?_);exact hj _ _ (H6.sub (.cons .here (.drop .refl)))
theorem qq5 (hn:7≤n) (O:zr c) (H:HS g h (ay b c::R)):aA n 375 [.ptr b 0,.agg (zt a)] h λ_ h'=>HS g h' (ay b (xL c a)::R):=by
 refine ba (S:=S375) rfl omQ λk hk=>?_;unfold S375;try simp only[iZ]
 generalize hF:xL c a=F;refine qI H rfl λb0 h1 H1=>?_;obtain⟨sv,cv,tv,wv,H2⟩:=ay.E (H1.aI e_1);have dt:=O.lo;have iN:=O.hi;have cP:=O.st;unfold xL at hF;refine qK (qQ (qE H1 (b:=b0) (off:=0) .here rfl omQ (l:=zt a) rfl ?_));refine qG (Jj omQ H2) ?_;rintro _ h2 ⟨rfl,H3⟩;cases hs:(jK c.p a).1 with
 |true=>rw[iJ hs]at hF;subst hF;refine qZ ?_;have H4:HS g h2 (ay b { c with p:=(jK c.p a).2 }::qy b0 (zt a)::R):=ay.I (sv:=sv) (cv:=cv) (tv:=tv) (wv:=wv) H3;exact qY (H4.sub (.cons .here (.drop .refl)))
 |false=>
  rw[iQ (by rw[hs];simp)]at hF;have pN:=JS hs;rw[pN.1]at H3;have hg:=pN.2;clear H1 H2 H pN hs;have H2:HS g h2 (ay b c::qy b0 (zt a)::R):=ay.I (sv:=sv) (cv:=cv) (tv:=tv) (wv:=wv) H3
  have H4:HS g h2 (qy b (kc c sv cv tv wv)::qD 111 2 c.seen.length sv (c.seen.flatMap yf)::qD 163 2 c.cells.length cv (c.cells.flatMap jT)::
   qD 3 1 c.s.length tv (c.s.map (.int .i64))::qD 65 3 c.aZ.length wv (c.aZ.flatMap zW)::qy b0 (zt a)::R):=H3
  unfold kc x6 at H4;refine qJ (qK (qh (qX H4 (b:=b) .here rfl ?_)));refine jm [] (λ_ h'=>HS g h' (ay b F::R)) (λj hj=>?_) λ_ h' H'=>?_
  rotate_left
  ·refine qx ?_;exact qY H'
  by_cases c0:c.state=0∨c.state=1
  ·rw[iJ c0]at hF;subst hF;rcases c0 with c0 |c0
   ·refine qW ?_;(try dsimp only);refine qk omQ ?_;refine qZ (qZ ?_)
    refine qE H3 (b:=b0) (off:=0) e_5 rfl omQ (l:=zt a) rfl ?_;refine qG (Oz omQ O hg H2) λ_ h6 H6=>?_;exact hj _ _ (H6.sub (.cons .here (.drop .refl)))
   ·refine qW ?_;(try dsimp only);refine qj omQ ?_;refine qJ (qk omQ ?_);refine qZ ?_
    refine qE H3 (b:=b0) (off:=0) e_5 rfl omQ (l:=zt a) rfl ?_;refine qG (Oz omQ O hg H2) λ_ h6 H6=>?_;exact hj _ _ (H6.sub (.cons .here (.drop .refl)))
  rw[iQ c0]at hF;by_cases c1:c.state=2∨c.state=3
  ·rw[iJ c1]at hF;subst hF;have c2:=c1;rcases c1 with c1' |c1'
   ·refine qW ?_;(try dsimp only);refine qj omQ ?_;refine qJ (qj omQ ?_);refine qJ (qW ?_);(try dsimp only);refine qk omQ ?_;refine qZ (qZ ?_)
    refine qE H3 (b:=b0) (off:=0) e_5 rfl omQ (l:=zt a) rfl ?_;refine qG (Vd omQ O c2 H2) λ_ h6 H6=>?_;exact hj _ _ (H6.sub (.cons .here (.drop .refl)))
   ·refine qW ?_;(try dsimp only);refine qj omQ ?_;refine qJ (qj omQ ?_);refine qJ (qW ?_);(try dsimp only);refine qj omQ ?_;refine qJ (qk omQ ?_);refine qZ ?_
    refine qE H3 (b:=b0) (off:=0) e_5 rfl omQ (l:=zt a) rfl ?_;refine qG (Vd omQ O c2 H2) λ_ h6 H6=>?_;exact hj _ _ (H6.sub (.cons .here (.drop .refl)))
  rw[iQ c1]at hF;by_cases c4:c.state=4
  ·rw[iJ c4]at hF;subst hF;refine qW ?_;(try dsimp only);refine qj omQ ?_;refine qJ (qj omQ ?_);refine qJ (qW ?_);(try dsimp only);refine qj omQ ?_;refine qJ (qj omQ ?_);refine qJ (qk omQ ?_);refine qZ (qQ ?_)
   refine qE H3 (b:=b0) (off:=1) e_5 rfl omQ (l:=zW a.lk) rfl ?_;refine qG (qQm omQ O hg c4 H2) λ_ h6 H6=>?_;exact hj _ _ (H6.sub (.cons .here (.drop .refl)))
  rw[iQ c4]at hF;by_cases c5:c.state=5
  ·rw[iJ c5]at hF;subst hF;refine qW ?_;(try dsimp only);refine qj omQ ?_;refine qJ (qj omQ ?_);refine qJ (qW ?_);(try dsimp only);refine qj omQ ?_;refine qJ (qj omQ ?_);refine qJ (qj omQ ?_);refine qJ (qk omQ ?_);refine qZ (qK (qQ (qX ‹_› .here rfl ?_)));refine qU omQ ?_;refine qK (qQ ?_)
   refine qw H4 (b:=b) .here ⟨rfl,rfl⟩ aN λh5 H5=>?_;have H6:HS g h5 (ay b { c with at_:=c.at_+1 }::qy b0 (zt a)::R):=ay.I (sv:=sv) (cv:=cv) (tv:=tv) (wv:=wv) H5;refine qG (Vi omQ H6) λ_ h6 H6=>?_;exact hj _ _ (H6.sub (.cons .here (.drop .refl)))
  rw[iQ c5]at hF;by_cases c6:c.state=6
  ·rw[iJ c6]at hF;subst hF;refine qW ?_;(try dsimp only);refine qj omQ ?_;refine qJ (qj omQ ?_);refine qJ (qW ?_);(try dsimp only);refine qj omQ ?_;refine qJ (qj omQ ?_);refine qJ (qj omQ ?_);refine qJ (qj omQ ?_);refine qJ (qk omQ ?_);refine qZ (qK (qQ (qX ‹_› .here rfl ?_)));refine qU omQ ?_;refine qK (qQ ?_)
   refine qw H4 (b:=b) .here ⟨rfl,rfl⟩ aN λh5 H5=>?_;have H6:HS g h5 (ay b { c with at_:=c.at_+1 }::qy b0 (zt a)::R):=ay.I (sv:=sv) (cv:=cv) (tv:=tv) (wv:=wv) H5;refine qG (O7 omQ H6) λ_ h6 H6=>?_;exact hj _ _ (H6.sub (.cons .here (.drop .refl)))
  rw[iQ c6]at hF;subst hF;refine qW ?_;(try dsimp only);refine qj omQ ?_;refine qJ (qj omQ ?_);refine qJ (qW ?_);(try dsimp only);refine qj omQ ?_;refine qJ (qj omQ ?_);refine qJ (qj omQ ?_);refine qJ (qj omQ ?_);refine qJ (qj omQ ?_);refine qJ (qk omQ ?_);refine qZ (qK (qQ (qX ‹_› .here rfl ?_)));refine qU omQ ?_;refine qK (qQ ?_)
  refine qw H4 (b:=b) .here ⟨rfl,rfl⟩ aN λh5 H5=>?_;have H6:HS g h5 (ay b { c with at_:=c.at_+1 }::qy b0 (zt a)::R):=ay.I (sv:=sv) (cv:=cv) (tv:=tv) (wv:=wv) H5;refine qG (VZ omQ H6) λ_ h6 H6=>?_;exact hj _ _ (H6.sub (.cons .here (.drop .refl)))
end
end
section
variable {g h:AH} {L R:List SP}
theorem Ot {l:List Cl} {k:Nat} (hk:k<l.length):(l.flatMap jT)[k*2+0]? =some (.int .i64 (Qk l (k:Int)).1)∧(l.flatMap jT)[k*2+1]? =some (.int .u64 (Qk l (k:Int)).2):=by
 have e:((l.flatMap jT).drop (k*2)).take 2=jT (Qk l (k:Int)):=gJ (sz:=2) (enc:=jT) (λ_=>rfl) (by unfold Qk;rw[Int.toNat_natCast,iW hk];rfl);constructor
 ·have:=congrArg (·[0]?) e;simp only[List.getElem?_take_of_lt (show 0<2 by omega),List.getElem?_drop]at this;exact this
 ·have:=congrArg (·[1]?) e;simp only[List.getElem?_take_of_lt (show 1<2 by omega),List.getElem?_drop]at this;exact this
section
variable {n b:Nat} {c:zL} {sv cv tv wv:AV}
theorem G3 (hn:2≤n) (H:HS g h (ay b c::R)):aA n 96 [.ptr b 0] h λr h'=>r=.int .i64 c.p.fin∧h'=h:=by
 refine aB (S:=S96) rfl omQ λk hk=>?_;unfold S96;try simp only[iZ]
 obtain⟨sv,cv,tv,wv,H⟩:=ay.E H;refine qK (qQ (qG (Jn omQ H .here) ?_));rintro _ _ ⟨rfl,rfl⟩;exact qY ⟨rfl,rfl⟩
theorem qjI (hn:2≤n) (H:HS g h (ay b c::R)):aA n 145 [.ptr b 0] h λr h'=>r=.int .i64 c.p.err∧h'=h:=by
 refine aB (S:=S145) rfl omQ λk hk=>?_;unfold S145;try simp only[iZ]
 obtain⟨sv,cv,tv,wv,H⟩:=ay.E H;refine qK (qQ (qG (qjM omQ H .here) ?_));rintro _ _ ⟨rfl,rfl⟩;exact qY ⟨rfl,rfl⟩
theorem qv4 (hn:2≤n) (H:HS g h (ay b c::R)):aA n 373 [.ptr b 0] h λr h'=>r=.int .i64 c.p.cU∧h'=h:=by
 refine aB (S:=S373) rfl omQ λk hk=>?_;unfold S373;try simp only[iZ]
 obtain⟨sv,cv,tv,wv,H⟩:=ay.E H;refine qK (qQ (qG (Ha omQ H .here) ?_));rintro _ _ ⟨rfl,rfl⟩;exact qY ⟨rfl,rfl⟩
theorem qXl (hn:1≤n) (hw:0≤c.now∧c.now<9223372036854775807) (H:HS g h (ay b c::R)):aA n 117 [.ptr b 0] h λr h'=>r=.int .u64 (Ys c)∧h'=h:=by
 refine aB (S:=S117) rfl omQ λk hk=>?_;unfold S117;try simp only[iZ]
 obtain⟨sv,cv,tv,wv,H⟩:=ay.E H;unfold kc x6 at H;unfold Ys;refine qK (qQ (qX ‹_› .here rfl ?_));cases hd:c.writing with
 |true=>rw[iQ aN];refine jA (qJ (qK (qQ (qX ‹_› .here rfl ?_))));refine ya omQ ?_;exact qY ⟨rfl,rfl⟩
 |false=>rw[iJ rfl];refine jF (qZ ?_);exact qY ⟨rfl,rfl⟩
theorem OF (hn:3≤n) (H:HS g h (ay b c::R)):aA n 95 [.ptr b 0] h λr h'=>r=.bool (Q5 c)∧h'=h:=by
 refine aB (S:=S95) rfl omQ λk hk=>?_;unfold S95;try simp only[iZ]
 obtain⟨sv,cv,tv,wv,H1⟩:=ay.E H;unfold kc x6 at H1;unfold Q5;refine qK (qQ (qX ‹_› .here rfl ?_));refine qW ?_;(try dsimp only)
 cases hd:c.writing with
 |true=>
  refine qR ?_;(try dsimp only)
  refine qG (G3 omQ H) ?_;rintro _ _ ⟨rfl,rfl⟩;refine vw (λc1=>?_) (λc1=>?_)
  ·refine qC ?_;exact qY ⟨congrArg AV.bool (by rw[iG (p:=c.p.fin=0) c1];rfl),rfl⟩
  ·refine qC ?_;exact qY ⟨congrArg AV.bool (by rw[iV (p:=c.p.fin=0) c1];rfl),rfl⟩
 |false=>
  refine qS ?_;(try dsimp only);refine qF ?_
  exact qY ⟨rfl,rfl⟩
theorem qGR (hn:2≤n) (O:zr c) (H:HS g h (ay b c::R)):aA n 374 [.ptr b 0] h λr h'=>r=rC (wU c)∧HS g h' (ay b c::R):=by
 refine aB (S:=S374) rfl omQ λk hk=>?_;unfold S374;try simp only[iZ]
 obtain⟨sv,cv,tv,wv,H⟩:=ay.E H;refine qI H rfl λb0 h1 H1=>?_;have dt:=O.lo;have cP:=O.st;have hnow:=O.now;have l1:=O.s;have l2:=O.aZ;refine qK (qQ (qG (Jn omQ H1 e_1) ?_));rintro _ _ ⟨rfl,rfl⟩;unfold wU;have H2:=H1;unfold kc x6 at H2;by_cases hg:c.p.fin=0
 rotate_left
 ·refine jQ hg ?_;rw[iJ hg];refine qZ (qL rfl ?_);refine qd H1 (b:=b0) .here rfl (by show 0+10≤10;omega) rfl λh3 H3=>?_;refine qE H3 (b:=b0) (off:=0) .here rfl omQ (l:=x8 (bi 0 0 0)) rfl ?_;exact qY ⟨rfl,ay.I H3.drop⟩
 refine jJ hg ?_;rw[iQ (λh=>h hg)];refine qJ (qK (qQ (qX ‹_› e_1 rfl ?_)));by_cases c0:c.state=0
 ·refine qk c0 ?_;rw[iJ c0];refine qZ (qK (qQ (qX ‹_› e_1 rfl ?_)));refine qK (qQ (qX ‹_› e_1 rfl ?_));refine qm ‹_› e_5 ?_;have hw:=O.Pb hg omQ;refine jb (H1.sl e_4) (x:=.int .i64 (qO c.s c.aZ.length)) (by rw[List.getElem?_map,wq hw];rfl) ?_;refine qL rfl ?_;refine qd H2 (b:=b0) .here rfl (by show 0+10≤10;omega) rfl λh3 H3=>?_;refine qE H3 (b:=b0) (off:=0) .here rfl omQ (l:=x8 (bi 3 (qO c.s c.aZ.length) 0)) rfl ?_;exact qY ⟨rfl,ay.I H3.drop⟩
 refine qj c0 ?_;rw[iQ c0];refine qJ ?_;by_cases c1:c.state=1
 ·refine qk c1 ?_;rw[iJ c1];refine qZ (qK (qQ ?_));have hw:=O.Pb hg omQ;refine qh (qX H2 (b:=b) e_1 rfl ?_);refine qK (qQ (qX ‹_› e_1 rfl ?_));refine qL rfl ?_;refine qI H2 rfl λb1 h3 H3=>?_;refine qd H3 (b:=b1) .here rfl (by show 0+3≤3;omega) rfl λh4 H4=>?_;have H4:HS g h4 (qy b1 (zW (c.lk.1,true,c.me))::qy b0 _::qy b (kc c sv cv tv wv)::_):=H4;have H5:=H4;unfold kc x6 at H5;refine qK (qQ (qX ‹_› e_2 rfl ?_));refine qK (qQ (qX ‹_› e_2 rfl ?_));refine qm ‹_› e_6 ?_;refine jb (H4.sl e_5) (x:=.int .i64 (qO c.s c.aZ.length)) (by rw[List.getElem?_map,wq hw];rfl) ?_;refine qK (qQ (qE H5 (b:=b) (off:=13) e_2 rfl omQ (l:=zW c.lk) rfl ?_));refine qE H5 (b:=b1) (off:=0) .here rfl omQ (l:=zW (c.lk.1,true,c.me)) rfl ?_;refine qL rfl ?_;refine qd H5 (b:=b0) e_1 rfl (by show 0+10≤10;omega) rfl λh6 H6=>?_;refine qE H6 (b:=b0) (off:=0) .here rfl omQ (l:=x8 ⟨4,qO c.s c.aZ.length,0,0,c.lk,(c.lk.1,true,c.me)⟩) rfl ?_;exact qY ⟨rfl,ay.I H6.drop.drop⟩
 refine qj c1 ?_;rw[iQ c1];refine qJ ?_;by_cases c2:c.state=2
 ·refine qk c2 ?_;rw[iJ c2];refine qZ (qL rfl ?_);refine qd H2 (b:=b0) .here rfl (by show 0+10≤10;omega) rfl λh3 H3=>?_;refine qE H3 (b:=b0) (off:=0) .here rfl omQ (l:=x8 (bi 6 0 0)) rfl ?_;exact qY ⟨rfl,ay.I H3.drop⟩
 refine qj c2 ?_;rw[iQ c2];refine qJ ?_;by_cases c3:c.state=3
 ·refine qk c3 ?_;rw[iJ c3];refine qZ (qK (qQ (qX ‹_› e_1 rfl ?_)));refine qK (qQ (qX ‹_› e_1 rfl ?_));refine ya omQ ?_;refine qL rfl ?_;refine qd H2 (b:=b0) .here rfl (by show 0+10≤10;omega) rfl λh3 H3=>?_;refine qE H3 (b:=b0) (off:=0) .here rfl omQ (l:=x8 (⟨7,0,c.now,c.now+1,cB,cB⟩)) rfl ?_;exact qY ⟨rfl,ay.I H3.drop⟩
 refine qj c3 ?_;rw[iQ c3];refine qJ ?_;by_cases c4:c.state=4
 ·refine qk c4 ?_;rw[iJ c4];refine qZ (qK (qQ (qX ‹_› e_1 rfl ?_)));refine qK (qQ (qX ‹_› e_1 rfl ?_));have ap:=O.Pd hg c4;obtain⟨k,hk⟩:∃k:Nat,c.at_=k:=⟨c.at_.toNat,by omega⟩;rw[hk]at ap ⊢;refine y4 (H1.sl e_2) omQ omQ (QE omQ).1 ?_;refine qL rfl ?_;refine qd H2 (b:=b0) .here rfl (by show 0+10≤10;omega) rfl λh3 H3=>?_;refine qE H3 (b:=b0) (off:=0) .here rfl omQ (l:=x8 (bi 3 (z6 c.seen k).1 0)) rfl ?_;exact qY ⟨rfl,ay.I H3.drop⟩
 refine qj c4 ?_;rw[iQ c4];refine qJ ?_;by_cases c5:c.state=5
 ·refine qk c5 ?_;rw[iJ c5];refine qZ (qK (qQ (qX ‹_› e_1 rfl ?_)));refine qK (qQ (qX ‹_› e_1 rfl ?_));have ap:=O.Pe hg c5;obtain⟨k,hk⟩:∃k:Nat,c.at_=k:=⟨c.at_.toNat,by omega⟩;rw[hk]at ap ⊢;refine y4 (H1.sl e_3) omQ omQ (Ot omQ).1 ?_;refine qK (qQ (qX ‹_› e_1 rfl ?_));refine qK (qQ (qX ‹_› e_1 rfl ?_));rw[hk];refine y4 (H1.sl e_3) omQ omQ (Ot omQ).2 ?_;refine qL rfl ?_;refine qd H2 (b:=b0) .here rfl (by show 0+10≤10;omega) rfl λh3 H3=>?_;refine qE H3 (b:=b0) (off:=0) .here rfl omQ (l:=x8 (bi 2 (Qk c.cells k).1 (Qk c.cells k).2)) rfl ?_;exact qY ⟨rfl,ay.I H3.drop⟩
 refine qj c5 ?_;rw[iQ c5];refine qJ ?_;by_cases c6:c.state=6
 ·refine qk c6 ?_;rw[iJ c6];refine qZ (qK (qQ (qX ‹_› e_1 rfl ?_)));refine qK (qQ (qX ‹_› e_1 rfl ?_));have ap:=O.Pf hg c6;obtain⟨k,hk⟩:∃k:Nat,c.at_=k:=⟨c.at_.toNat,by omega⟩;rw[hk]at ap ⊢;refine jb (H1.sl e_4) (x:=.int .i64 (qO c.s k)) (by rw[List.getElem?_map,wq omQ];rfl) ?_;refine qK (qQ (qX ‹_› e_1 rfl ?_));refine ya omQ ?_;refine qL rfl ?_;refine qL rfl ?_;refine qd H2 (b:=b0) .here rfl (by show 0+10≤10;omega) rfl λh3 H3=>?_;refine qE H3 (b:=b0) (off:=0) .here rfl omQ (l:=x8 (⟨5,qO c.s k,0,0,cB,(c.now+1,false,0)⟩)) rfl ?_;exact qY ⟨rfl,ay.I H3.drop⟩
 refine qj c6 ?_;rw[iQ c6];refine qJ (qK (qQ (qX ‹_› e_1 rfl ?_)));refine qK (qQ (qX ‹_› e_1 rfl ?_));have ap:=O.Pg hg omQ;obtain⟨k,hk⟩:∃k:Nat,c.at_=k:=⟨c.at_.toNat,by omega⟩;rw[hk]at ap ⊢;refine jb (H1.sl e_4) (x:=.int .i64 (qO c.s k)) (by rw[List.getElem?_map,wq omQ];rfl) ?_;refine qK (qQ (qX ‹_› e_1 rfl ?_));refine qK (qQ (qX ‹_› e_1 rfl ?_));rw[hk];refine zS (l:=zW (xg c.aZ k)) (H1.sl e_5) omQ omQ (MS omQ) ?_;refine qL rfl ?_;refine qd H2 (b:=b0) .here rfl (by show 0+10≤10;omega) rfl λh3 H3=>?_;refine qE H3 (b:=b0) (off:=0) .here rfl omQ (l:=x8 (⟨5,qO c.s k,0,0,cB,xg c.aZ k⟩)) rfl ?_;exact qY ⟨rfl,ay.I H3.drop⟩
theorem qjm {me sp st a w:Int} {v1 v2:AV} {r:List xD} {cs:List Cl} (hn:5≤n) (hr:r.length≤1000) (h0:0<cs.length) (hl:cs.length≤1000) (hc:∀c∈cs,0≤c.1∧c.1<100000)
  (H:HS g h (qD 111 2 r.length v1 (r.flatMap yf)::qD 163 2 cs.length v2 (cs.flatMap jT)::R)) :
  aA n 114 [.int .i64 me,.int .i64 sp,.int .u64 st,v1,v2,.int .i64 a,.int .i64 w] h λv h'=>∃b,v=.ptr b 0∧HS g h' (ay b (On me sp st r cs a w)::R):=by
 refine Fp (S:=S114) rfl omQ λk hk=>?_;unfold S114;try simp only[iZ]
 refine qG (NJ omQ H) ?_;rintro _ h1 ⟨rfl,H1⟩;refine qG (YK omQ H1 .here (JL (λ_=>rfl) _) omQ) λu1 h2 H2=>?_;refine qG (ZS omQ H2 e_2 omQ) λu2 h3 H3=>?_;refine qG (qJI omQ H3 (H3.rd e_3) h0 hl hc) λu3 h4 H4=>?_;have o1:=H4.one e_2;have o2:=H4.one e_1;have o3:=H4.one .here;unfold x6;refine qL (l:=kc ⟨NE me sp,me,st,r,cs,xF cs a w,[],0,0,cB,0,false,0,0,0⟩ u1 u2 u3 .ak) (by simp only[xT,o1.1,o2.1,o3.1];rfl) ?_;refine qI H4 (by show ql [_,_,_,_,_,_,_,u1,u2,u3,_,_,_,_,_,_,_,_,_,_,_]=true;simp only[ql,List.all_cons,o1.2,o2.2,o3.2];rfl) λb h5 H5=>?_;have H6:=H5.ak (e:=65) (sz:=3);have H7:HS g h5 (ay b ⟨NE me sp,me,st,r,cs,xF cs a w,[],0,0,cB,0,false,0,0,0⟩::R) :=
  ay.I (sv:=u1) (cv:=u2) (tv:=u3) (wv:=.ak) (H6.sub (.cons e_1 (.cons e_3 (.cons e_2 (.cons e_1 (.cons .here (.drop (.drop .refl))))))))
 refine qG (ZH omQ H7) λ_ h6 H8=>qY ⟨b,rfl,H8⟩
end
end
section
def XH (a:cO):Prop:=0≤a.word∧a.word<18446744073709551616
theorem ku {p:JX} {a:cO} (h:(jK p a).1=true):(jK p a).2.fin≠0:=by
 unfold jK at h ⊢
 split
 ·show(4:Int)≠0;decide
 ·rename_i c;rw[iQ c]at h;simpa using h
theorem NY {p:JX} {l:dy} (hp:0≤p.ao∧p.ao≤4) (h:(jE p l).1=true):(jE p l).2.fin=p.fin∧0≤(jE p l).2.ao∧(jE p l).2.ao≤4:=by
 unfold jE at h ⊢
 split
 ·exact⟨rfl,hp⟩
 ·rename_i c;rw[iQ c]at h;have:0≤p.ao-1:=by simpa using h
  refine⟨rfl,?_⟩;show 0≤p.ao-1∧p.ao-1≤4;omega
theorem Ph {me sp:Int}:GT (NE me sp):=λ_=>by show 0≤max 0 (min sp 4)∧max 0 (min sp 4)≤4;omega
theorem XY {p:JX} {f e y:Int} (h:f≠0):GT (qr p f e y):=λhf=>absurd hf h
theorem Xm {f:kK} {a:cO} (hp:GT f.p):GT (xY f a).p:=by
 unfold xY;cases hs:(jK f.p a).1 with
 |true=>rw[iJ rfl];exact λh=>absurd h (ku hs)
 |false=>
  rw[iQ aN];have hg:=(JS hs).2;unfold vX
  split
  ·exact hp
  ·split
   ·exact XY od
   ·split
    ·split
     ·rename_i hw;exact λ_=>(NY (hp hg) hw).2
     ·exact XY od
    ·split
     ·exact XY od
     ·exact hp
theorem qjo {me sp:Int} {r:List xD} (hr:r.length≤16):Kq (NX me sp r):=⟨Ph,Int.le_refl _,by show(0:Int)≤1000;decide,hr,by show(0:Int)≤_;omega,λ_ h=>by cases h⟩
theorem Zv {x:Qv} (hp:GT x.p) (h0:0≤x.at_) (h1:x.at_≤x.seen.length) (hr:x.seen.length≤16):Kq (XF x):=by
 unfold XF
 split
 ·exact⟨XY od,h0,by show x.at_≤1000;omega,hr,h1,λh=>by cases h⟩
 ·exact⟨hp,h0,by omega,hr,h1,λ_ _=>by omega⟩
theorem X7 {x:Qv} {a:cO} (O:Kq x):Kq (xO x a):=by
 unfold xO;cases hs:(jK x.p a).1 with
 |true=>rw[iJ rfl];exact⟨λh=>absurd h (ku hs),O.lo,O.hi,O.len,O.le,λh=>absurd h (ku hs)⟩
 |false=>
  rw[iQ aN];have hg:=(JS hs).2;have dt:=O.lo;have iN:=O.hi;have hlen:=O.len
  split
  ·exact Zv (x:={ x with bH:=true,af:=a.word }) O.p dt O.le hlen
  ·rename_i hl;have hl:x.bH=true:=by simpa using hl
   have dl:=O.pO hg hl
   split
   ·split
    ·rename_i hw;have:=NY (O.p hg) hw;exact⟨λ_=>this.2,dt,iN,hlen,O.le,λ_ _=>dl⟩
    ·exact⟨XY od,dt,iN,hlen,O.le,λh=>by cases h⟩
   ·split
    ·exact⟨XY od,dt,iN,hlen,O.le,λh=>by cases h⟩
    ·exact Zv (x:={ x with at_:=x.at_+1 }) O.p (by show 0≤x.at_+1;omega) (by show x.at_+1≤(x.seen.length:Int);omega) hlen
section
variable {c:zL}
theorem V9 (r:c.s.Pairwise (· < ·)) (h:zv 1 c.p.ao 6 c.at_ c.now c.bL c.seen.length c.cells.length c.s.length c.aZ.length) (hs:c.state=6) (hp:0≤c.p.ao∧c.p.ao≤4) (ha:c.at_≤c.s.length):zr (ki c):=by
 unfold ki;unfold zv at h
 split
 ·refine⟨r,?_⟩;show zv 2 c.p.ao c.state c.at_ c.now c.bL c.seen.length c.cells.length c.s.length c.aZ.length;unfold zv;omega
 ·refine⟨r,?_⟩;unfold zv;omega
theorem K7 (r:c.s.Pairwise (· < ·)) (h:zv 1 c.p.ao 5 c.at_ c.now c.bL c.seen.length c.cells.length c.s.length c.aZ.length) (hs:c.state=5) (hp:0≤c.p.ao∧c.p.ao≤4) (ha:c.at_≤c.cells.length):zr (wW c):=by
 unfold wW;unfold zv at h
 split
 ·refine V9 (c:={ c with at_:=0,state:=6 }) r ?_ rfl hp (by show(0:Int)≤_;omega);show zv 1 c.p.ao 6 0 c.now c.bL c.seen.length c.cells.length c.s.length c.aZ.length;unfold zv;omega
 ·refine⟨r,?_⟩;unfold zv;omega
theorem Xe (r:c.s.Pairwise (· < ·)) (h:zv 1 c.p.ao 4 c.at_ c.now c.bL c.seen.length c.cells.length c.s.length c.aZ.length) (hp:0≤c.p.ao∧c.p.ao≤4):zr (kw c):=by unfold kw;unfold zv at h;refine K7 (c:={ c with writing:=true,at_:=0,state:=5 }) r ?_ rfl hp (by show(0:Int)≤_;omega);show zv 1 c.p.ao 5 0 c.now c.bL c.seen.length c.cells.length c.s.length c.aZ.length;unfold zv;omega
theorem K4 (r:c.s.Pairwise (· < ·)) (h:zv 1 c.p.ao 7 c.at_ c.now c.bL c.seen.length c.cells.length c.s.length c.aZ.length) (hs:c.state=7) (ha:c.at_≤c.aZ.length):zr (wV c):=by
 unfold wV;unfold zv at h
 split
 ·refine⟨r,?_⟩;show zv c.bL c.p.ao c.state c.at_ c.now c.bL c.seen.length c.cells.length c.s.length c.aZ.length;unfold zv;omega
 ·refine⟨r,?_⟩;unfold zv;omega
theorem XQ {f e y:Int} (r:c.s.Pairwise (· < ·)) (h:zv 1 c.p.ao c.state c.at_ c.now c.bL c.seen.length c.cells.length c.s.length c.aZ.length) (hf:f≠0):zr (wo c f e y):=by unfold wo;unfold zv at h;refine K4 (c:={ c with bL:=f,nZ:=e,Am:=y,at_:=0,state:=7 }) r ?_ rfl (by show(0:Int)≤_;omega);show zv 1 c.p.ao 7 0 c.now f c.seen.length c.cells.length c.s.length c.aZ.length;unfold zv;omega
theorem zr.dead (O:zr c):zv 1 c.p.ao c.state c.at_ c.now c.bL c.seen.length c.cells.length c.s.length c.aZ.length:=by have h:=O.ar;unfold zv at h ⊢;omega
theorem VX {l:dy} (O:zr c) (hg:c.p.fin=0) (hs:c.state≤6):zr (kh c l):=by
 unfold kh;have h:=O.ar
 split
 ·rename_i hw;have:=NY (O.p hg hs) hw;refine⟨O.di,?_⟩;show zv (jE c.p l).2.fin (jE c.p l).2.ao c.state c.at_ c.now c.bL c.seen.length c.cells.length c.s.length c.aZ.length;unfold zv at h ⊢;omega
 ·refine XQ (c:={ c with p:=(jE c.p l).2 }) O.di ?_ od;show zv 1 (jE c.p l).2.ao c.state c.at_ c.now c.bL c.seen.length c.cells.length c.s.length c.aZ.length;unfold zv at h ⊢;omega
theorem OK (r:c.s.Pairwise (· < ·)):∀(m:Nat) (a:Int),zv 1 c.p.ao 4 a c.now c.bL c.seen.length c.cells.length c.s.length c.aZ.length→(0≤c.p.ao∧c.p.ao≤4)→zr (vO { c with state:=4,at_:=a } m):=by
 intro m
 induction m with
 |zero=>intro a h hp;exact Xe (c:={ c with state:=4,at_:=a }) r h hp
 |succ m ih=>
  intro a h hp;unfold vO;dsimp only
  split
  ·rename_i ap
   split
   ·refine⟨r,?_⟩;show zv c.p.fin c.p.ao 4 a c.now c.bL c.seen.length c.cells.length c.s.length c.aZ.length;unfold zv at h ⊢;omega
   ·split
    ·exact XQ (c:={ c with state:=4,at_:=a }) r h od
    ·refine ih (a+1) ?_ hp;unfold zv at h ⊢;omega
  ·exact Xe (c:={ c with state:=4,at_:=a }) r h hp
theorem Kp (r:c.s.Pairwise (· < ·)) (h:zv 1 c.p.ao 4 c.at_ c.now c.bL c.seen.length c.cells.length c.s.length c.aZ.length) (hp:0≤c.p.ao∧c.p.ao≤4):zr (QL c):=OK r _ c.at_ h hp
set_option maxHeartbeats 4000000 in
theorem Gy {a:cO} (O:zr c) (ha:XH a):zr (xL c a):=by
 have h:=O.ar;have hd:=O.dead;unfold xL;cases hs:(jK c.p a).1 with
 |true=>rw[iJ rfl];have hf:=ku hs;refine⟨O.di,?_⟩;show zv (jK c.p a).2.fin (jK c.p a).2.ao c.state c.at_ c.now c.bL c.seen.length c.cells.length c.s.length c.aZ.length;unfold zv at h ⊢;omega
 |false=>
  rw[iQ aN];have hg:=(JS hs).2;have ha:=ha.1;rw[hg]at h
  split
  ·rename_i cP;unfold XZ
   split
   ·exact VX O hg omQ
   ·split
    ·refine⟨O.di,?_⟩;show zv c.p.fin c.p.ao 1 c.at_ c.now c.bL c.seen.length c.cells.length c.s.length c.aZ.length;rw[hg];unfold zv at h ⊢;omega
    ·split
     ·unfold Qn;dsimp only;have hl:(c.aZ++[c.lk]).length=c.aZ.length+1:=by simp
      split
      ·refine⟨O.di,?_⟩;show zv c.p.fin c.p.ao 2 c.at_ c.now c.bL c.seen.length c.cells.length c.s.length (c.aZ++[c.lk]).length;rw[hg];unfold zv at h ⊢;omega
      ·refine⟨O.di,?_⟩;show zv c.p.fin c.p.ao 0 c.at_ c.now c.bL c.seen.length c.cells.length c.s.length (c.aZ++[c.lk]).length;rw[hg];unfold zv at h ⊢;omega
     ·refine⟨O.di,?_⟩;show zv c.p.fin c.p.ao 0 c.at_ c.now c.bL c.seen.length c.cells.length c.s.length c.aZ.length;rw[hg];unfold zv at h ⊢;omega
  split
  ·unfold QP
   split
   ·exact XQ O.di hd od
   ·split
    ·refine⟨O.di,?_⟩;show zv c.p.fin c.p.ao 3 c.at_ a.word c.bL c.seen.length c.cells.length c.s.length c.aZ.length;rw[hg];unfold zv at h ⊢;omega
    ·split
     ·refine⟨O.di,?_⟩;show zv c.p.fin c.p.ao 2 c.at_ c.now c.bL c.seen.length c.cells.length c.s.length c.aZ.length;rw[hg];unfold zv at h ⊢;omega
     ·have h4:zv 1 c.p.ao 4 c.at_ c.now c.bL c.seen.length c.cells.length c.s.length c.aZ.length:=by unfold zv at h ⊢;omega
      split
      ·exact Xe O.di h4 (O.p hg omQ)
      ·exact Kp O.di h4 (O.p hg omQ)
  split
  ·rename_i h4;unfold w7
   split
   ·exact VX O hg omQ
   ·split
    ·exact XQ O.di hd od
    ·refine Kp (c:={ c with at_:=c.at_+1 }) O.di ?_ (O.p hg omQ);show zv 1 c.p.ao 4 (c.at_+1) c.now c.bL c.seen.length c.cells.length c.s.length c.aZ.length;unfold zv at h ⊢;omega
  split
  ·rename_i h5;have:=O.Pe hg h5;refine K7 (c:={ c with at_:=c.at_+1 }) O.di ?_ h5 (O.p hg omQ) (by show c.at_+1≤(c.cells.length:Int);omega);show zv 1 c.p.ao 5 (c.at_+1) c.now c.bL c.seen.length c.cells.length c.s.length c.aZ.length;unfold zv at h ⊢;omega
  split
  ·rename_i h6;have:=O.Pf hg h6;refine V9 (c:={ c with at_:=c.at_+1 }) O.di ?_ h6 (O.p hg omQ) (by show c.at_+1≤(c.s.length:Int);omega);show zv 1 c.p.ao 6 (c.at_+1) c.now c.bL c.seen.length c.cells.length c.s.length c.aZ.length;unfold zv at h ⊢;omega
  ·have cP:=O.st;have h7:c.state=7:=by omega
   have:=O.Pg hg h7;refine K4 (c:={ c with at_:=c.at_+1 }) O.di ?_ h7 (by show c.at_+1≤(c.aZ.length:Int);omega);show zv 1 c.p.ao 7 (c.at_+1) c.now c.bL c.seen.length c.cells.length c.s.length c.aZ.length;unfold zv at h ⊢;omega
theorem qvm {me sp st a w:Int} {r:List xD} {cs:List Cl} (hr:r.length≤16) (h0:0<cs.length) (hl:cs.length≤1000) (hc:∀c∈cs,0≤c.1):zr (On me sp st r cs a w):=by
 have h1:(xF cs a w).length≤16:=by unfold xF;exact Nat.le_trans (List.length_filter_le ..) aN
 have h2:0<(xF cs a w).length:=by obtain⟨c,sU⟩:=List.exists_mem_of_length_pos h0;exact List.length_pos_of_mem ((GU (n:=a) (w:=w) hc).2 (List.mem_map.2 ⟨c,sU,rfl⟩))
 unfold On Qn;rw[iQ (by show¬(0:Nat)=(xF cs a w).length;omega)];refine⟨YR,?_⟩;show zv 0 (max 0 (min sp 4)) 0 0 0 0 r.length cs.length (xF cs a w).length 0;unfold zv;omega
end
end
section
theorem qvU {l:List qa} (F:Fit l) (Q:Quiet l):∀(n:Nat) {s:IM} {V:VM},GI l s V→bK V.lv+n<9000→(zp l (qp l) n s V).kind=1→bK (zp l (qp l) n s V).v.lv+(zp l (qp l) n s V).left≤bK V.lv+n:=by
 intro n
 induction n with
 |zero=>
  intro s V G hf;rw[XT]
  split<;>(intro h;cases h)
 |succ n ih=>
  intro s V G hf;rw[YY]
  split
  ·intro h;cases h
  ·rename_i h0;obtain⟨i,hi,sV⟩:=G.pc;have ap:i<l.length:=by omega
   rw[hi];have S:=ND F G hi ap omQ (Q.at ap).2 (Q.at ap).1;generalize b8 (qp l) s V (qT l i)=D at*
   split
   ·rename_i h1
    split
    ·intro h;cases h
    ·rename_i h2;have uq:=S.fr;intro h;have:=ih (S.next h1 (by simpa using h2)) omQ h;omega
   ·split
    ·rename_i dq;obtain⟨n1,n2,_⟩:=S.aC dq;intro _;show bK D.v.lv+(n+1)≤_;rw[n2];omega
    ·intro h;cases h
theorem qvc {l:List qa} {mt:List Int}:∀(n:Nat) {s:IM} {V:VM},(zp l mt n s V).kind=1→(zp l mt n s V).err=0:=by
 intro n
 induction n with
 |zero=>intro s V;rw[XT];split<;>(intro h;cases h)
 |succ n ih=>
  intro s V;rw[YY];generalize b8 mt s V (qT l s.pc)=D
  split
  ·intro h;cases h
  ·split
   ·split
    ·intro h;cases h
    ·exact ih
   ·split
    ·intro _;rfl
    ·intro h;cases h
theorem qjs {l:List qa} {s:IM} {V:VM} {p x:Int} (G:GI l s V) (hx:0≤x∧x<18446744073709551616):GI l s (yK V p x).2:=by
 have hl:(yK V p x).2.lv=V.lv:=by
  unfold yK
  repeat' split
  all_goals rfl
 refine⟨G.gb,G.pc,G.ly,G.told,G.Cg,by rw[hl];exact G.lv,⟨ZT G.aH.ok,?_⟩⟩;unfold yK
 split
 ·split
  ·exact G.aH.wd
  ·refine⟨λc hc=>?_,G.aH.wd.l⟩;rcases List.mem_append.1 hc with hc |hc
   ·exact G.aH.wd.k c hc
   ·rw[List.mem_singleton]at hc;subst hc;exact hx
 ·exact G.aH.wd
theorem qvr {l:List qa} {mt:List Int}:∀(n:Nat) {s:IM} {V:VM},(zp l mt n s V).left≤n:=by
 intro n
 induction n with
 |zero=>intro s V;rw[XT];split<;>exact Nat.le_refl _
 |succ n ih=>
  intro s V;rw[YY];generalize b8 mt s V (qT l s.pc)=D
  split
  ·exact Nat.le_refl _
  ·split
   ·split
    ·exact Nat.le_succ n
    ·exact Nat.le_trans ih (Nat.le_succ n)
   ·split<;>exact Nat.le_refl _
end
section
structure QG (S:zK):Prop where
  words:32≤S.words∧S.words≤256
  ax:1≤S.ax∧S.ax≤16
  wide:1≤S.wide∧S.wide≤16
  aa:1≤S.aa∧S.aa≤4
  start:0≤S.start∧S.start≤4611686018427387903
  ao:0≤S.ao∧S.ao≤4
  writes:0≤S.writes∧S.writes≤96
  fuel:0≤S.fuel∧S.fuel≤400
theorem Qs {n lo hi:Int} (h:lo≤hi):lo≤vh n lo hi∧vh n lo hi≤hi:=by unfold vh;omega
theorem kq {n lo hi:Int} (h:lo≤n∧n≤hi):vh n lo hi=n:=by unfold vh;omega
theorem vC {s:zK} (h:0≤s.start):QG (jG s) :=
 ⟨Qs omQ,Qs omQ,Qs omQ,Qs omQ,by show 0≤min s.start 4611686018427387903∧min s.start 4611686018427387903≤4611686018427387903;omega,Qs omQ,Qs omQ,Qs omQ⟩
theorem kY {S:zK} (O:QG S):jG S=S:=by obtain⟨a,b,c,d,e,f,g,i⟩:=O;obtain⟨w,s,wi,t,st,sp,wr,fu⟩:=S;unfold jG;dsimp only at*;rw[kq a,kq b,kq c,kq d,kq f,kq g,kq i,show min st 4611686018427387903=st by omega]
theorem qXt {M:VM} {b:Int} (h:(xE M b).1=11):JQ M (xE M b).2:=by
 have ha:=qxO M b;unfold xE at h ⊢
 split
 ·rename_i h1;rw[iJ h1]at h;have e:=ha.2 h1
  split
  ·rename_i h2;rw[iJ h2]at h;cases h
  ·rename_i h2;rw[iQ h2]at h
   split
   ·rename_i h3;rw[iJ h3]at h;exact(YP h).elim
   ·rename_i h3;rw[iQ h3]at h;rw[e]at h ⊢;exact w9 h
 ·rename_i h1;rw[iQ h1]at h;exact ZY h
theorem qZr {M:VM} {b:Int} (O:dz M):Q7 M (xE M b).2:=by
 have ha:=Ox M b;unfold xE
 repeat' split
 ·exact ha
 ·exact(ha.trans (xG _ _)).trans (vP (xd (J4 O)))
 ·exact ha.trans (xG _ _)
 ·exact ha
theorem qqa:∀(bs:List Int) (k:Nat) {V:VM},jL V→jL (xf V bs k).2∧Q7 V (xf V bs k).2∧bK (xf V bs k).2.lv=bK V.lv∧(xf V bs k).1.1≤k+bs.length∧
  ((xf V bs k).1.2=11→1≤(xf V bs k).2.aC∧(xf V bs k).2.aC<V.sz∧zU (xf V bs k).2.aC V.K=none):=by
 intro bs
 induction bs with
 |nil=>intro k V G;exact⟨G,.refl V,rfl,Nat.le_refl _,λh=>by cases h⟩
 |cons b r ih=>
  intro k V G;have hg:=G.r5 (b:=b);have hk:=qZr (b:=b) G.ok;by_cases h0:(xE V b).1=0
  ·rw[show xf V (b::r) k=xf (xE V b).2 r (k+1)from iJ h0];obtain⟨a1,a2,a3,a4,a5⟩:=ih (k+1) hg.1;refine⟨a1,hk.trans a2,a3.trans hg.2,by rw[List.length_cons];omega,λh=>?_⟩;have:=a5 h;rw[hk.sz,hk.K]at this;exact this
  ·rw[show xf V (b::r) k=((k,(xE V b).1),(xE V b).2)from iQ h0];exact⟨hg.1,hk,hg.2,by dsimp only;omega,λh=>(qXt h).2⟩
def bZ (live:Prop) (V:VM):Yc→Prop
 | .prog q=>Fit q.l∧Quiet q.l∧GB q.s∧(live→GI q.l q.s V∧q.fin=0∧q.err=0∧bK V.lv+q.left<9000)∧q.left≤400
 | .aj bs k=>k≤bs.length∧bs.length≤100000
theorem bZ.dead {live l5:Prop} {V V':VM} {j:Yc} (O:bZ live V j) (h:¬l5):bZ l5 V' j:=by
 cases j with
 |prog q=>exact⟨O.1,O.2.1,O.2.2.1,λh'=>absurd h' h,O.2.2.2.2⟩
 |aj bs k=>exact O
theorem bZ.same {live l5:Prop} {V:VM} {j:Yc} (O:bZ live V j) (h:l5→live):bZ l5 V j:=by
 cases j with
 |prog q=>exact⟨O.1,O.2.1,O.2.2.1,λh'=>O.2.2.2.1 (h h'),O.2.2.2.2⟩
 |aj bs k=>exact O
structure ze (x:q9):Prop where
  set:QG x.set
  aH:jL x.v
  sz:(x.v.sz:Int)=x.set.words
  fr:bK x.v.lv<9000
  r:x.r.length≤16
  au:bZ (x.state≤4) x.v x.au
  st:0≤x.state∧x.state≤8
  f:x.state=3→GT x.f.p∧0≤x.f.word∧x.f.word<18446744073709551616
  aC:3≤x.state→x.state≤4→1≤x.v.aC∧x.v.aC<x.v.sz∧zU x.v.aC x.v.K=none
  e:4≤x.state→x.state≤5→Kq x.e
  c:∀c,x.c=some c→zr c
  c0:x.state≤5→x.c=none
  c6:x.state=6→x.c≠none
structure Co (x:q9) (k:Int) (y:q9):Prop where
  aH:jL y.v
  kept:y.v.sz=x.v.sz∧y.v.K=x.v.K∧y.v.most=x.v.most
  fr:bK y.v.lv<9000
  au:bZ (k=1) y.v y.au
  aC:k=1→1≤y.v.aC∧y.v.aC<x.v.sz∧zU y.v.aC x.v.K=none
  same:y.me=x.me∧y.set=x.set∧y.r=x.r∧y.af=x.af∧y.c=x.c
theorem NC {x:q9} (hg:jL x.v) (hf:bK x.v.lv<9000) (hj:bZ True x.v x.au):Co x (yY x).1.1 (yY x).2:=by
 unfold yY;cases hx:x.au with
 |prog q=>
  rw[hx]at hj;obtain⟨F,Q,gb,h,hl⟩:=hj;obtain⟨G,h0,h1,h2⟩:=h trivial;obtain⟨RB,rfr,_,rn,_⟩:=qvL F Q q.left G h2;dsimp only;refine⟨RB.aH,⟨RB.sz,RB.K,RB.most⟩,by dsimp only;omega,⟨F,Q,RB.gb,λhk=>?_,?_⟩,λhk=>?_,⟨rfl,rfl,rfl,rfl,rfl⟩⟩
  ·have hr:=qvU F Q q.left G h2 hk;exact⟨(rn hk).1,iJ hk,qvc _ hk,by dsimp only;omega⟩
  ·have hr:=qvr (l:=q.l) (mt:=qp q.l) q.left (s:=q.s) (V:=x.v);dsimp only;omega
  ·exact(rn hk).2
 |aj bs k=>
  rw[hx]at hj;obtain⟨a1,a2,a3,a4,a5⟩:=qqa (bs.drop k) k hg;dsimp only;refine⟨a1,⟨a2.sz,a2.K,a2.most⟩,by dsimp only;omega,⟨by rw[List.length_drop]at a4;have:=hj.1;omega,hj.2⟩,λh=>?_,⟨rfl,rfl,rfl,rfl,rfl⟩⟩
  ·refine a5 ?_
   split at h
   ·assumption
   ·split at h<;>cases h
structure Qw (x:q9):Prop where
  set:QG x.set
  aH:jL x.v
  sz:(x.v.sz:Int)=x.set.words
  fr:bK x.v.lv<9000
  r:x.r.length≤16
  au:bZ False x.v x.au
  c:∀c,x.c=some c→zr c
theorem ze.b {x:q9} (O:ze x):Qw x:=⟨O.set,O.aH,O.sz,O.fr,O.r,O.au.dead not_false,O.c⟩
theorem Qw.out {x:q9} (B:Qw x) {f e y:Int}:ze (xH x f e y) :=
 ⟨B.set,B.aH,B.sz,B.fr,B.r,B.au.dead (by show¬(7:Int)≤4;decide),by show(0:Int)≤7∧(7:Int)≤8;decide,λh=>(by cases h),λ_ h=>(by cases h),λ_ h=>(by cases h),B.c,λh=>(by cases h),λh=>by cases h⟩
theorem Qw.gone {x:q9} (B:Qw x) {f e y:Int}:ze { xH x f e y with state:=8 } :=
 ⟨B.set,B.aH,B.sz,B.fr,B.r,B.au.dead (by show¬(8:Int)≤4;decide),by show(0:Int)≤8∧(8:Int)≤8;decide,λh=>(by cases h),λ_ h=>(by cases h),λ_ h=>(by cases h),B.c,λh=>(by cases h),λh=>by cases h⟩
theorem Qw.ask {x:q9} (B:Qw x) (hj:bZ True x.v x.au) (hn:1≤x.v.aC∧x.v.aC<x.v.sz∧zU x.v.aC x.v.K=none) (hc:x.c=none):ze (Qr x x.v.aC) :=
 ⟨B.set,B.aH,B.sz,B.fr,B.r,hj.same λ_=>trivial,by show(0:Int)≤3∧(3:Int)≤8;decide,λ_=>⟨Ph,by show(0:Int)≤0;decide,by show(0:Int)<_;decide⟩,λ_ _=>hn,λh=>absurd h (by show¬(4:Int)≤3;decide),B.c,λ_=>hc,λh=>by cases h⟩
theorem Qw.later {x:q9} (B:Qw x) (hc:x.c=none) {s:Int} (hs:s=4∨s=5) (hj:s=4→bZ True x.v x.au∧1≤x.v.aC∧x.v.aC<x.v.sz∧zU x.v.aC x.v.K=none):ze (ww x s):=by
 refine⟨B.set,B.aH,B.sz,B.fr,B.r,?_,by show 0≤s∧s≤8;omega,λh=>?_,λ_ h=>(hj ?_).2,λ_ _=>qjo B.r,B.c,λ_=>hc,λh=>?_⟩
 ·show bZ (s≤4) x.v x.au;rcases hs with rfl |rfl
  ·exact(hj rfl).1.same λ_=>trivial
  ·exact B.au.dead od
 ·have h:s=3:=h;omega
 ·have h:s≤4:=h;omega
 ·have h:s=6:=h;omega
theorem OY {V:VM} (O:dz V):(jh V.lv).length≤96∧∀c∈jh V.lv,1≤c.1∧c.1<256:=by have h1:=K9 V.lv [];have h2:=O.ic.held;have h3:=O.ic.le;refine⟨by simp at h1;unfold jh;omega,?_⟩;exact U5 V.lv [] (λc hc=>by cases hc) O.ic.ins
theorem Qw.Cp {x:q9} (B:Qw x) (hj:bZ True x.v x.au) (hc:x.c=none):ze (xl x):=by
 have D:=NC B.aH B.fr hj;unfold xl;generalize(yY x).1.1=k at*;generalize(yY x).1.2=e at*;generalize(yY x).2=y at*;obtain⟨e1,e2,e3,e4,e5⟩:=D.same;have ux:y.c=none:=by rw[e5,hc]
 have B':Qw y:=⟨by rw[e2];exact B.set,D.aH,by rw[D.kept.1,e2];exact B.sz,D.fr,by rw[e3];exact B.r,D.au.same λh=>h.elim,λc h=>by rw[ux]at h;cases h⟩;unfold wu
 split
 ·rename_i h1;exact B'.ask (D.au.same λ_=>h1) (by have:=D.aC h1;rw[D.kept.1,D.kept.2.1];exact this) ux
 ·split
  ·exact Qw.later (x:={ y with bt:=true }) ⟨B'.set,B'.aH,B'.sz,B'.fr,B'.r,B'.au,B'.c⟩ ux (.inr rfl) λh=>by cases h
  ·split
   ·exact B'.out
   ·split
    ·exact B'.out
    ·rename_i hm;have BC:=OY D.aH.ok;refine⟨B'.set,B'.aH,B'.sz,B'.fr,B'.r,B'.au.dead (by show¬(6:Int)≤4;decide),by show(0:Int)≤6∧(6:Int)≤8;decide,λh=>(by cases h),λ_ h=>(by cases h),λ_ h=>(by cases h),λc h=>?_,λh=>(by cases h),λ_ h=>by cases h⟩;cases h;exact qvm B'.r (List.length_pos_iff.2 hm) omQ λc hc=>by have:=BC.2 c hc;omega
theorem Uq {r:List xD} {x:xD} (h:r.length≤16):(gr r x).2.length≤16:=by
 unfold gr
 split
 ·exact h
 ·split
  ·split<;>exact h
  ·split
   ·exact h
   ·rw[List.length_append,List.length_singleton];omega
theorem Qi {V:VM} {p x:Int}:(yK V p x).2.lv=V.lv∧(yK V p x).2.sz=V.sz:=by
 unfold yK
 repeat' split
 all_goals exact⟨rfl,rfl⟩
theorem Y4 {V:VM} {p x:Int} (G:jL V) (hx:0≤x∧x<18446744073709551616):jL (yK V p x).2:=by
 refine⟨ZT G.ok,?_⟩;unfold yK
 split
 ·split
  ·exact G.wd
  ·refine⟨λc hc=>?_,G.wd.l⟩;rcases List.mem_append.1 hc with hc |hc
   ·exact G.wd.k c hc
   ·rw[List.mem_singleton]at hc;subst hc;exact hx
 ·exact G.wd
theorem bZ.pP {V:VM} {j:Yc} {p x:Int} (O:bZ True V j) (hx:0≤x∧x<18446744073709551616):bZ True (yK V p x).2 j:=by
 cases j with
 |prog q=>exact⟨O.1,O.2.1,O.2.2.1,λ_=>⟨qjs (O.2.2.2.1 trivial).1 hx,(O.2.2.2.1 trivial).2.1,(O.2.2.2.1 trivial).2.2.1,by rw[Qi.1];exact(O.2.2.2.1 trivial).2.2.2⟩,O.2.2.2.2⟩
 |aj bs k=>exact O
theorem Gj {f:kK} (h:0≤f.word∧f.word<18446744073709551616):0≤xq f∧xq f<18446744073709551616:=by
 unfold xq
 split
 ·omega
 ·exact h
theorem Gg {f:kK} {a:cO} (h:0≤f.word∧f.word<18446744073709551616) (ha:XH a):0≤(xY f a).word∧(xY f a).word<18446744073709551616:=by
 unfold xY vX
 repeat' split
 all_goals first |exact h |exact ha
theorem Qw.sa {x:q9} (B:Qw x) (hj:bZ True x.v x.au) (hn:1≤x.v.aC∧x.v.aC<x.v.sz∧zU x.v.aC x.v.K=none) (hc:x.c=none) (hw:0≤x.f.word∧x.f.word<18446744073709551616):ze (xW x):=by
 unfold xW
 split
 ·exact B.later hc (.inl rfl) λ_=>⟨hj,hn⟩
 ·have hx:=Gj hw
  split
  ·refine Qw.Cp ?_ (hj.pP hx) hc;exact⟨B.set,Y4 B.aH hx,by show((yK x.v x.v.aC (xq x.f)).2.sz:Int)=_;rw[Qi.2];exact B.sz,by show bK (yK x.v x.v.aC (xq x.f)).2.lv<9000;rw[Qi.1];exact B.fr,Uq B.r,(hj.pP hx).same λh=>h.elim,B.c⟩
  ·split<;>exact B.out
theorem Un {x:q9} (O:ze x):ze (xK x):=by
 unfold xK
 split
 ·split
  ·exact⟨O.set,O.aH,O.sz,O.fr,O.r,O.au,O.st,O.f,O.aC,O.e,O.c,O.c0,O.c6⟩
  ·exact O
 ·exact O
theorem Nu {x:q9} (O:ze x) (h3:3≤x.state) (h6:x.state≤6):ze (zQ x):=by
 unfold zQ
 split
 ·rename_i hs;exact O.b.sa (O.au.same λ_=>by omega) (O.aC omQ omQ) (O.c0 omQ) (O.f hs).2
 ·split
  ·rename_i hs;exact Qw.ask (x:={ x with af:=yr x.e }) ⟨O.set,O.aH,O.sz,O.fr,O.r,O.au.dead not_false,O.c⟩ (O.au.same λ_=>by omega) (O.aC omQ omQ) (O.c0 omQ)
  ·split
   ·exact Qw.out (x:={ x with af:=yr x.e }) ⟨O.set,O.aH,O.sz,O.fr,O.r,O.au.dead not_false,O.c⟩
   ·split
    ·exact O.b.out
    ·rename_i hc;exact absurd hc (O.c6 omQ)
def yd (x:q9):q9:=if(jn x).1=0 then x else if(jn x).1=5 then xH x 5 0 (jn x).2 else zQ x
theorem MV {x:q9} (O:ze x) (h3:3≤x.state) (h6:x.state≤6):ze (yd x):=by
 unfold yd
 split
 ·exact O
 ·split
  ·exact O.b.out
  ·exact Nu O h3 h6
theorem YG {x:q9} (O:ze x) (h3:3≤x.state) (h6:x.state≤6):ze (jN x):=Un (MV O h3 h6)
theorem MJ {x:q9} {a:cO} (O:ze x) (ha:XH a):ze (jY x a):=by
 have cP:=O.st;unfold jY
 split
 ·exact O
 ·split
  ·exact O.b.gone
  ·split
   ·exact⟨O.set,O.aH,O.sz,O.fr,O.r,O.au.same λ_=>by omega,by show(0:Int)≤1∧(1:Int)≤8;decide,λh=>(by cases h),λh=>absurd h (by show¬(3:Int)≤1;decide),λh=>absurd h (by show¬(4:Int)≤1;decide),O.c,λ_=>O.c0 omQ,λh=>by cases h⟩
   ·split
    ·exact⟨O.set,O.aH,O.sz,O.fr,O.r,O.au.same λ_=>by omega,by show(0:Int)≤2∧(2:Int)≤8;decide,λh=>(by cases h),λh=>absurd h (by show¬(3:Int)≤2;decide),λh=>absurd h (by show¬(4:Int)≤2;decide),O.c,λ_=>O.c0 omQ,λh=>by cases h⟩
    ·split
     ·exact O.b.Cp (O.au.same λ_=>by omega) (O.c0 omQ)
     ·split
      ·exact⟨O.set,O.aH,O.sz,O.fr,O.r,O.au.dead (by show¬(8:Int)≤4;decide),by show(0:Int)≤8∧(8:Int)≤8;decide,λh=>(by cases h),λ_ h=>(by cases h),λ_ h=>(by cases h),O.c,λh=>(by cases h),λh=>by cases h⟩
      ·split
       ·rename_i hs;have hf:=O.f hs;refine YG (x:={ x with f:=xY x.f a }) ?_ (by show 3≤x.state;omega) (by show x.state≤6;omega);exact⟨O.set,O.aH,O.sz,O.fr,O.r,O.au,O.st,λ_=>⟨Xm hf.1,Gg hf.2 ha⟩,O.aC,O.e,O.c,O.c0,O.c6⟩
       ·split
        ·rename_i hs;refine YG (x:={ x with c:=x.c.map λc=>xL c a }) ?_ (by show 3≤x.state;omega) (by show x.state≤6;omega);refine⟨O.set,O.aH,O.sz,O.fr,O.r,O.au,O.st,O.f,O.aC,O.e,λc h=>?_,λh=>absurd h (by show¬x.state≤5;omega),λh hn=>O.c6 h ?_⟩
         ·obtain⟨c',h1,rfl⟩:=Option.map_eq_some_iff.1 h;exact Gy (O.c c' h1) ha
         ·exact Option.map_eq_none_iff.1 hn
        ·refine YG (x:={ x with e:=xO x.e a }) ?_ (by show 3≤x.state;omega) (by show x.state≤6;omega);exact⟨O.set,O.aH,O.sz,O.fr,O.r,O.au,O.st,O.f,O.aC,λh1 h2=>X7 (O.e h1 h2),O.c,O.c0,O.c6⟩
theorem V2 (w m:Int):jL (U1 w m):=⟨qju w m,λc hc=>(by cases hc),λx hx c hc=>by
 rcases List.mem_cons.1 hx with rfl |hx
 ·cases hc
 ·cases hx⟩
theorem Pj {me:Int} {S:zK} {j:Yc} (O:QG S) (hj:bZ True (U1 S.words S.writes) j):ze (Ou me S j):=by have:=O.words;refine⟨O,V2 _ _,?_,by show(0:Nat)<9000;decide,Nat.zero_le _,hj.same λ_=>trivial,by show(0:Int)≤0∧(0:Int)≤8;decide,λh=>(by cases h),λh=>absurd h (by show¬(3:Int)≤0;decide),λh=>absurd h (by show¬(4:Int)≤0;decide),λc h=>(by cases h),λ_=>rfl,λh=>by cases h⟩;show((iF S.words:Nat):Int)=S.words;unfold iF;omega
theorem qQR {me:Int} {S:zK} {l:List qa} (hs:0≤S.start) (hc:(xZ l).2=0) (Q:Quiet l):ze (yg me S l):=by
 have O:=vC hs;refine Pj O ?_;have G:=V2 (jG S).words (jG S).writes;have hf:XB (jG S).fuel≤400:=by unfold XB;omega
 exact⟨M2 hc,Q,(L0 (l:=l) rfl G).gb,λ_=>⟨L0 rfl G,rfl,rfl,by show(0:Nat)+XB (jG S).fuel<9000;omega⟩,hf⟩
theorem Om {me:Int} {S:zK} {bs:List Int} (hs:0≤S.start) (hl:bs.length≤100000):ze (QF me S bs):=Pj (vC hs) ⟨Nat.zero_le _,hl⟩
end
section
structure Gi where
  uy:Int
  au:Int
  Hc:Int
  aj:Bool
  kind:Int
  err:Int
  cw:Int
  af:Int
  born:Int
  ended:Int
  reads:List Cl
  cells:List Cl
  np:List Int
  pQ:List UInt8
structure Ur where
  kind:Int
  err:Int
  pQ:List UInt8
  af:Int
abbrev KG:Type:=Int×Int
structure qt where
  me:Int
  set:zK
  jobs:List (List qa)
  au:Int
  state:Int
  aj:Bool
  ae:List KG
  ag:Int
  aD:Int
  now:Option q9
  born:Int
  bR:Bool
  az:List Gi
  results:List Ur
  ad:List KG
  ah:List Int
  cU:Int
  since:Int
  bj:Bool
  aV:Int
def xB (x:q9):Int:=if x.state≠8 then 0 else x.err
def wE (x:q9):Int:=if x.state≠8 then-1 else x.cU
def zx (x:q9):Bool:=decide (x.state≠8)&&x.bt
def jg (t:qt):qt :=
 if t.au=(t.jobs.length:Int)then{ t with born:=0,bR:=false,state:=6,now:=none }
 else{ t with born:=0,bR:=false,state:=1,now:=some (if t.aj=true then QF t.me t.set (t.ae.map (·.1))else yg t.me t.set ((t.jobs[t.au.toNat]?).getD [])) }
def jD (t:qt):qt:=jg { t with au:=t.au+1,aj:=false,ae:=[],ag:=0,aD:=0 }
def Qj (me:Int) (s:zK) (jobs:List (List qa)):qt :=
 jD ⟨max 0 (min me ((jG s).aa-1)),jG s,jobs.take 6,-1,0,false,[],0,0,none,0,false,[],[],[],[],0,0,false,0⟩
def z7 (t:qt):Option dF:=if t.state=1 then t.now.bind jC else if t.state=2 then some (bi 8 t.cU 0)else if t.state=5 then some (bi 8 t.ah.length 0)else none
def jM (t:qt) (x:q9) (pick:Int):Gi :=
 ⟨t.me,t.au,t.ag,t.aj,if zm x=true then 2 else jq x,xB x,x.cw,x.af,t.born,pick,x.v.K,YM x,zJ x,zG x⟩
def yX (aD:Int):Int:=if aD≤0 then 1 else if aD=1 then 2 else if aD=2 then 4 else 8
def xQ (t:qt) (draw:Int):qt :=
 if draw%(yX t.aD+1)=0 then jg { t with aV:=0,state:=3 }else{ t with aV:=draw%(yX t.aD+1),state:=3 }
def jX (ah:List Int) (af:Int):Bool:=ah.all λx=>decide (x=0∨af<x)
def wy (t:qt):qt :=
 if(t.ah.length:Int)<t.set.aa then t
 else if(t.ad.filter λr=>jX t.ah r.2)=[]then jD { t with ad:=t.ad.filter λr=>!jX t.ah r.2 }
 else jg { t with ad:=t.ad.filter (λr=>!jX t.ah r.2),aj:=true,ae:=t.ad.filter (λr=>jX t.ah r.2),ag:=0,aD:=0 }
def vo (t:qt):qt:=wy (if(t.ah.length:Int)=t.me then{ t with ah:=t.ah++[0] }else t)
def gE (t:qt):qt:=if t.ad=[]then jD t else vo { t with state:=5,ah:=[] }
def kB (t:qt) (fin:Int):qt:=jD (if fin=4 then{ t with ad:=t.ad++t.ae }else t)
def xU (t:qt) (x:q9) (draw pick:Int):qt :=
 let u:={ t with az:=t.az++[jM t x pick],ag:=t.ag+1 }
 if jq x=5 then
  (if 0≤wE x∧wE x<t.set.aa then{ u with aD:=u.aD+1,state:=2,cU:=wE x,bj:=false }else xQ { u with aD:=u.aD+1 } draw)
 else if jq x=3 then(if u.bR=true then jg u else{ u with state:=4 })
 else if u.aj=true then kB u (jq x)
 else gE { u with results:=u.results++[⟨jq x,xB x,zG x,x.af⟩],ad:=u.ad++(zJ x).map λb=>(b,x.af) }
def vv (t:qt) (x y:q9) (draw pick:Int):qt :=
 let u:={ t with now:=some y,born:=if y.begun=true∧x.begun=false then pick else t.born }
 if jq y=0 then u else xU u y draw pick
def zj (t:qt) (a:cO) (draw pick:Int):qt :=
 if t.state=1 then(match t.now with
  |none=>t
  |some x=>vv t x (jY x a) draw pick)
 else if t.state=2 then(if a.err=0∧a.word≠0∧(t.bj=false∨a.word=t.since)then{ t with bj:=true,since:=a.word }else xQ t draw)
 else if t.state=5 then vo { t with ah:=t.ah++[if a.err≠0 then 0 else a.word] }
 else t
def jc (t:qt):qt:=if t.state=3 then(if t.aV-1=0 then jg { t with aV:=0 }else{ t with aV:=t.aV-1 })else t
def zE (r:List xD) (bV im:Int):Bool:=r.any λx=>decide (x.1=bV∧x.2≠im)
def zl (t:qt) (bV im:Int):qt:=match t.now with
 |none=>t
 |some x=>
  if zE x.r bV im=true then(if t.state=4 then jg t else if t.state=1∧zx x=true then{ t with bR:=true }else t)
  else t
structure gK where
  s:zK
  m:zZ
  t:List qt
  aK:Int
  last:dF
  did:Bool
def yW (S:zK):zZ:=⟨List.replicate S.words.toNat 0,List.replicate S.ax.toNat cB,S.start,List.replicate S.aa.toNat 0,0⟩
def ML (s:zK) (jobs:List (List (List qa))):gK :=
 let S:=jG { s with aa:=(jobs.take 4).length }
 ⟨S,(qu (yW S) (bi 2 5 14)).2,(List.range S.aa.toNat).map λi:Nat=>Qj i S (((jobs.take 4)[i]?).getD []),0,bi 0 0 0,false⟩
def yS (ts:List qt) (i:Nat) (bV im:Int):List qt:=ts.mapIdx λk t=>if k=i then t else zl t bV im
def xj (m:gK) (i:Nat) (draw:Int):gK:=match m.t[i]? with
 |none=>m
 |some t=>match z7 t with
  |none=>{ m with aK:=m.aK+1,last:=bi 0 0 0,did:=false,t:=m.t.set i (jc t) }
  |some o=>
   let r:=qu m.m o
   let ts:=m.t.set i (zj t r.1 draw (m.aK+1))
   { m with aK:=m.aK+1,last:=o,did:=true,m:=r.2,t:=if o.kind=5 then yS ts i o.at_ o.lk.1 else ts }
def vq (m:gK):Bool:=m.t.all λt=>decide (t.state=6∨t.state=4)
end
end Go.Proofs.YthmopakmcboghaaGreatDoor
