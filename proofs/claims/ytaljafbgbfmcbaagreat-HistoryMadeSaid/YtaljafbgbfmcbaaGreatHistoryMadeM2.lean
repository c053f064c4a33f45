/- Lemmas for 'quietus/quietuslaw29.HistoryMade', walks of its functions among them. No condition. -/
import Derived.Test.YtaljafbgbfmcbaaGreatHistoryMadeM1
import Derived.Test.YtaljafbgbfmcbaaGreatHistoryMadeT
import Derived.KernelRfl
import Derived.Lib.ItoaLen
import Derived.Lib.Join
import Derived.Lib.SlicesCompact
namespace Go.Proofs.YtaljafbgbfmcbaaGreat
open Go Go.Ae
set_option maxRecDepth 100000
section
variable {g h:AH} {L R:List SP}
def Az (M M':VM):Prop:=M'.sz=M.sz∧M'.K=M.K∧M'.most=M.most∧(M'.aB=M.aB∨M'.lv=M.lv∧1≤M'.aB∧M'.aB<M.sz∧zt M'.aB M.K=none)
theorem Az.refl (M:VM):Az M M:=⟨rfl,rfl,rfl,.inl rfl⟩
theorem Ul {M:VM} {p:Int} (h:(qm M p).1.2=0):(qm M p).2=M:=by
 unfold qm at h ⊢
 grind
theorem Vd (M:VM) (p:Int):Az M (qm M p).2:=by
 unfold qm
 split
 ·rename_i h1
  split
  ·exact .refl M
  ·split
   ·exact .refl M
   ·rename_i h3;exact⟨rfl,rfl,rfl,.inr ⟨rfl,h1.1,h1.2,h3⟩⟩
 ·exact .refl M
theorem qyu (M:VM) (b:Int):Az M (zE M b).2∧((zE M b).1.2.2=0→(zE M b).2=M):=by
 unfold zE
 split
 ·exact⟨.refl M,λ_=>rfl⟩
 grind[Vd,Ul,absurd]
theorem AB {most:Nat} {lv:List bC} {p v:Int}:bE (gc most lv p v).2=bE lv:=by
 cases lv with
 |nil=>rfl
 |cons x r=>obtain⟨c,hc⟩:=OF (most:=most) (x:=x) (r:=r) (p:=p) (v:=v);grind[gt]
theorem qjs {most:Nat} {aw:List bC}:∀{cs:List Cl} {lv:List bC},bE lv=bE aw→bE (gr most aw lv cs).2=bE aw:=by
 intro cs
 induction cs with
 |nil=>intro lv h;exact h
 |cons c cs ih=>
  intro lv h;rw[wC]
  split
  ·exact ih (AB.trans h)
  rfl
theorem kj {M:VM} {cs:List Cl}:bE (z7 M cs).2.lv=bE M.lv:=by
 unfold z7
 split
 ·exact qjs rfl
 rfl
theorem yU {M:VM} {p:Int}:bE (qm M p).2.lv=bE M.lv:=by
 grind[qm]
theorem Qo {M:VM} {b:Int}:bE (zE M b).2.lv=bE M.lv:=by
 grind[zE,yU]
theorem qqL {lv:List bC} {b:Int}:bE (YU lv b)≤bE lv+1:=by
 cases lv with
 |nil=>simp[YU]
 |cons x r=>show bE ((x.1,x.2++[b])::r)≤_;grind[gt,List.length_append]
theorem jQ1:∀{lv:List bC} {x:bC},x∈lv→x.2.length≤bE lv:=by
 intro l
 induction l with
 |nil=>simp
 |cons y r ih=>
  intro x hx;rw[gt];grind
structure zj (M:VM):Prop where
  ok:fm M
  wd:oR M
theorem zj.read {M:VM} {p:Int} (G:zj M):zj (qm M p).2:=⟨vQ G.ok,G.wd.oz⟩
theorem zj.take {M:VM} {cs:List Cl} (G:zj M) (h:lS cs):zj (z7 M cs).2:=⟨Vp G.ok,G.wd.take h⟩
theorem zj.ask {M:VM} {b:Int} (G:zj M):zj (zE M b).2:=⟨GW G.ok,qy2 G.wd⟩
theorem lS.two {a b:Cl} (ha:0≤a.2∧a.2<18446744073709551616) (hb:0≤b.2∧b.2<18446744073709551616):lS [a,b]:=by
 intro c hc;grind
theorem lS.IU {a:Cl} (ha:0≤a.2∧a.2<18446744073709551616):lS [a]:=by intro c hc;grind
theorem zj.lh {M:VM} {b:Int} (G:zj M) (hf:bE M.lv<90000):zj (lh M b):=by
 refine⟨qkt G.ok λx hx=>by have:=jQ1 hx;omega,G.wd.k,?_⟩;show∀x∈YU M.lv b,∀c∈x.1,0≤c.2∧c.2<18446744073709551616;have:=G.wd.l;cases hl:M.lv with
 |nil=>nofun
 |cons y r=>
  rw[hl]at this;intro x hx;rcases List.mem_cons.1 hx with rfl |hx
  all_goals grind
theorem zj.free {M:VM} {b:Int} (G:zj M) (hf:bE M.lv<90000):zj (ga M b).2∧bE (ga M b).2.lv≤bE M.lv+1:=by
 have hb:=Zh M b;have hc:lS [(b-1,(zE M b).1.1)]:=.IU ⟨hb.1,by grind⟩;unfold ga
 repeat' split
 ·refine⟨(G.ask.take hc).lh (by grind[kj,Qo]),?_⟩;have:=qqL (lv:=(z7 (zE M b).2 [(b-1,(zE M b).1.1)]).2.lv) (b:=b);rw[kj,Qo]at this;trivial
 ·exact⟨G.ask.take hc,by simp[kj,Qo]⟩
 ·exact⟨G.ask,by simp[Qo]⟩
 ·exact⟨G.ask,by simp[Qo]⟩
theorem zj.nf {M:VM} {b:Int} (G:zj M):zj (yM M b).2∧bE (yM M b).2.lv=bE M.lv:=by
 have hb:=Zh M b;have hO:=G.ok.hi;unfold yM
 split
 ·rename_i h1;have si:=hb.2.2 h1
  split
  ·exact⟨G.ask,Qo⟩
  ·split
   ·refine⟨(G.ask.read).take (.two G.ask.wd.read ⟨by grind,by grind⟩),by rw[kj,yU,Qo]⟩
   ·exact⟨G.ask.read,by rw[yU,Qo]⟩
 ·exact⟨G.ask,Qo⟩
theorem zj.again {M:VM} {c b:Int} (G:zj M) (hc:0≤c∧c≤4):zj (vS M c b).2∧bE (vS M c b).2.lv=bE M.lv:=by
 have ht:lS [(c,(qm M b).1.1),(b-1,c+8)]:=.two G.wd.read ⟨by grind,by grind⟩;unfold vS
 repeat' split
 ·grind
 ·exact⟨G.read.take ht,by rw[kj,yU]⟩
 ·exact⟨G.read.take ht,by rw[kj,yU]⟩
 ·exact⟨G.read,yU⟩
theorem zj.grown {M:VM} {c:Int} (G:zj M) (hc:0≤c∧c≤4):zj (vO M c).2∧bE (vO M c).2.lv=bE M.lv:=by
 have hs:=ZC c;have hw:=G.wd.read (p:=5);unfold vO
 split
 ·split
  ·exact⟨G.read,yU⟩
  ·rename_i h1;have ht:lS [(5,(qm M 5).1.1+1+wZ c),((qm M 5).1.1,c+8)]:=.two ⟨by grind,by grind⟩ ⟨by grind,by grind⟩
   split
   ·exact⟨G.read.take ht,by rw[kj,yU]⟩
   ·exact⟨G.read.take ht,by rw[kj,yU]⟩
 ·exact⟨G.read,yU⟩
theorem zj.alloc {M:VM} {x:Int} (G:zj M):zj (xO M x).2∧bE (xO M x).2.lv=bE M.lv:=by
 have hc:=qZs x;unfold xO
 repeat' split
 ·grind
 ·exact⟨(G.read.grown hc).1,by rw[(G.read.grown hc).2,yU]⟩
 ·exact⟨(G.read.again hc).1,by rw[(G.read.again hc).2,yU]⟩
 ·exact⟨G.read,yU⟩
theorem zj.tT {M:VM} (G:zj M):zj (yN M).2∧bE (yN M).2.lv=bE M.lv:=by
 have e:(kV M.lv).2=M.lv∨(kV M.lv).2=([],[])::M.lv:=by grind[kV]
 refine⟨⟨⟨G.ok.lo,G.ok.hi,qvp G.ok.lR,G.ok.ins,G.ok.un,?_⟩,G.wd.k,?_⟩,?_⟩
 ·show∀x∈(kV M.lv).2,_;rcases e with e |e
  ·rw[e];exact G.ok.fr
  ·rw[e];intro x hx;rcases List.mem_cons.1 hx with rfl |hx
   ·simp
   ·exact G.ok.fr x hx
 ·show∀x∈(kV M.lv).2,_;rcases e with e |e
  ·rw[e];exact G.wd.l
  ·rw[e];intro x hx;rcases List.mem_cons.1 hx with rfl |hx
   ·simp
   ·exact G.wd.l x hx
 ·show bE (kV M.lv).2=_;grind[gt]
theorem zj.cV {M:VM} (G:zj M):zj (xa M).2∧bE (xa M).2.lv≤bE M.lv:=by
 have e:(Jp M.lv).2=M.lv∨(Jp M.lv).2=M.lv.tail:=by grind[Jp]
 have hs:∀x∈(Jp M.lv).2,x∈M.lv:=by
  grind[List.mem_of_mem_tail]
 refine⟨⟨⟨G.ok.lo,G.ok.hi,qks G.ok.lR,G.ok.ins,G.ok.un,λx hx=>G.ok.fr x (hs x hx)⟩,G.wd.k,λx hx=>G.wd.l x (hs x hx)⟩,?_⟩;show bE (Jp M.lv).2≤_;rcases e with e |e
 ·grind
 ·rw[e];cases M.lv with
  |nil=>simp
  |cons x r=>simp[bE]
theorem zj.BW {M:VM} (G:zj M) (hf:bE M.lv<90000):zj (gM M).2∧bE (gM M).2.lv=bE M.lv:=by
 have hd:=qXE G.ok.lR;have BX:=λx (hx:x∈(Qa M.lv).2)=>jQ1 hx;obtain⟨sz,K,most,lv,aB⟩:=M;rcases lv with _ |⟨x,_ |⟨y,r⟩⟩
 ·trivial
 ·trivial
 ·have e:=oy (x:=x) (y:=y) (r:=r);refine⟨⟨⟨G.ok.lo,G.ok.hi,hd,G.ok.ins,G.ok.un,λz hz=>?_⟩,G.wd.k,λz hz=>?_⟩,e⟩
  ·have:=BX z hz;grind
  ·have hl:=G.wd.l;have hx:lS x.1:=hl x aM;have hy:lS y.1:=hl y aM;have hz:z∈(wU y.1 x.1,y.2++x.2)::r:=hz;rcases List.mem_cons.1 hz with rfl |hz
   ·exact hy.pH hx
   grind
end
section
variable {g h:AH} {L R:List SP}
abbrev Dz:Type:=Int×Int
def pI (x:Dz):List UInt8:=if x.1=1 then Lib.decDigits x.2.toNat else if x.1=2 then(if x.2=1 then[121,101,115]else[110,111])else[110,111,110,101]
def DA (x:Dz):Prop:=0≤x.2∧x.2<18446744073709551616
def IV (l:List Dz):List UInt8:=Lib.join (l.map pI) [32]
theorem qGN (x:Dz) (hx:DA x):(pI x).length≤20:=by
 unfold pI;have h1:=hx.1;have h2:=hx.2
 split
 ·simp_all[Lib.decDigits_length,Lib.nDigits_le20,omQ]
 grind
theorem qkD {m:Nat}:∀(xs:List (List UInt8)),(∀x∈xs,x.length≤m)→(Lib.join xs [32]).length≤xs.length*(m+1):=by
 intro xs hx;cases xs with
 |nil=>simp[Lib.join_nil]
 |cons x r=>
  rw[Lib.join_cons,List.length_append];have h1:=hx x (iK ..);have h2:∀r:List (List UInt8),(∀x∈r,x.length≤m)→(Lib.joinTail [32] r).length≤r.length*(m+1):=by
   intro r
   induction r with
   |nil=>simp[Lib.joinTail]
   |cons y r ih=>intro h;have a:=h y (iK ..);have b:=ih λz hz=>h z (iX _ hz);unfold Lib.joinTail at*;simp only[List.map_cons,List.flatten_cons,List.length_append,List.length_cons,List.length_nil,Nat.add_mul];omega
  have h3:=h2 r λz hz=>hx z (iX _ hz);grind[List.length_cons,Nat.add_mul]
end
section
structure cZ where
  op:Int
  pc:Int
  ao:List Int
  told:Nat
structure IM where
  ao:List Int
  out:List Dz
  pc:Int
  aO:List cZ
structure SM where
  e:Int
  nx:Int
  bR:Bool
  s:IM
  v:VM
def cN (s:IM) (i v:Int):IM:={ s with ao:=s.ao.set i.toNat v }
def xU (b off:Int):Int×Int:=if 2147483648≤b∨2147483648≤b+off∨b+off<6 then(0,2)else(b+off,0)
def Q8 (p:Prop) [Decidable p]:Int:=if p then 1 else 0
def zB (s:IM) (V:VM) (x:qO):Int×IM×VM :=
 if x.1=8 then
  (if(xU (qB s.ao x.2.2.1) x.2.2.2.1).2=0 then
   (if(qm V (xU (qB s.ao x.2.2.1) x.2.2.2.1).1).1.2=0 then(0,cN s x.2.1 (qm V (xU (qB s.ao x.2.2.1) x.2.2.2.1).1).1.1,(qm V (xU (qB s.ao x.2.2.1) x.2.2.2.1).1).2)
    else((qm V (xU (qB s.ao x.2.2.1) x.2.2.2.1).1).1.2,s,(qm V (xU (qB s.ao x.2.2.1) x.2.2.2.1).1).2))
  else(2,s,V))
 else if x.1=9 then
  (if(xU (qB s.ao x.2.1) x.2.2.2.1).2=0 then((z7 V [((xU (qB s.ao x.2.1) x.2.2.2.1).1,qB s.ao x.2.2.1)]).1,s,(z7 V [((xU (qB s.ao x.2.1) x.2.2.2.1).1,qB s.ao x.2.2.1)]).2)
  else(2,s,V))
 else if x.1=10 then
  (if 2147483648≤qB s.ao x.2.2.1 then(3,s,V)
  else if(xO V (qB s.ao x.2.2.1)).1.2=0 then(0,cN s x.2.1 (xO V (qB s.ao x.2.2.1)).1.1,(xO V (qB s.ao x.2.2.1)).2)
  else((xO V (qB s.ao x.2.2.1)).1.2,s,(xO V (qB s.ao x.2.2.1)).2))
 else
  (if 2147483648≤qB s.ao x.2.1 then(2,s,V)else((ga V (qB s.ao x.2.1)).1,s,(ga V (qB s.ao x.2.1)).2))
def xE (op at_ nx:Int) (s:IM) (V:VM):SM :=
 if(yN V).1=0 then⟨0,nx,false,{ s with aO:=⟨op,at_,s.ao,s.out.length⟩::s.aO },(yN V).2⟩else⟨(yN V).1,nx,false,s,(yN V).2⟩
def Yb (s:IM) (p:cZ):IM:={ s with ao:=p.ao,out:=s.out.take p.told }
def yl (mt:List Int):List cZ→IM→VM→SM
 |[],s,V=>⟨0,s.pc,true,{ s with aO:=[] },V⟩
 |p::o,s,V=>
  if(xa V).1=0 then
   (if p.op=17 then xE 18 (qB mt p.pc) (qB mt p.pc+1) { Yb s p with aO:=o } (xa V).2
   else yl mt o s (xa V).2)
  else⟨(xa V).1,s.pc+1,false,{ s with aO:=o },(xa V).2⟩
def MP (o:List cZ):cZ:=(o.head?).getD ⟨0,0,[0,0,0,0,0,0,0,0],0⟩
def gY (mt:List Int) (s:IM) (V:VM) (op:Int):SM :=
 if op=14∨op=17 then xE op s.pc (s.pc+1) s V
 else if op=15∨op=19 then⟨(gM V).1,s.pc+1,false,{ s with aO:=s.aO.tail },(gM V).2⟩
 else if op=18 then⟨(gM V).1,qB mt s.pc+1,false,{ s with aO:=s.aO.tail },(gM V).2⟩
 else if op=16 then⟨(xa V).1,qB mt s.pc+1,false,{ Yb s (MP s.aO)with aO:=s.aO.tail },(xa V).2⟩
 else yl mt s.aO s V
def bG (mt:List Int) (s:IM) (V:VM) (x:qO):SM :=
 if x.1=1 then⟨0,s.pc+1,false,cN s x.2.1 x.2.2.2.2,V⟩
 else if x.1=2 then⟨0,s.pc+1,false,cN s x.2.1 (qB s.ao x.2.2.1),V⟩
 else if x.1=3 then⟨0,s.pc+1,false,cN s x.2.1 (zu .u64 (qB s.ao x.2.2.1+qB s.ao x.2.2.2.1)),V⟩
 else if x.1=4 then⟨0,s.pc+1,false,cN s x.2.1 (zu .u64 (qB s.ao x.2.2.1-qB s.ao x.2.2.2.1)),V⟩
 else if x.1=5 then⟨0,s.pc+1,false,cN s x.2.1 (zu .u64 (qB s.ao x.2.2.1*qB s.ao x.2.2.2.1)),V⟩
 else if x.1=6 then⟨0,s.pc+1,false,cN s x.2.1 (Q8 (qB s.ao x.2.2.1<qB s.ao x.2.2.2.1)),V⟩
 else if x.1=7 then⟨0,s.pc+1,false,cN s x.2.1 (Q8 (qB s.ao x.2.2.1=qB s.ao x.2.2.2.1)),V⟩
 else if x.1=12 then⟨0,x.2.2.2.1,false,s,V⟩
 else if x.1=13 then⟨0,if qB s.ao x.2.1=0 then x.2.2.2.1 else s.pc+1,false,s,V⟩
 else if x.1=21 then(if 16≤s.out.length then⟨5,s.pc+1,false,s,V⟩else⟨0,s.pc+1,false,{ s with out:=s.out++[(1,qB s.ao x.2.1)] },V⟩)
 else if x.1=22 then⟨13,s.pc+1,false,s,V⟩
 else if x.1=8∨x.1=9∨x.1=10∨x.1=11 then⟨(zB s V x).1,s.pc+1,false,(zB s V x).2.1,(zB s V x).2.2⟩
 else gY mt s V x.1
structure RM where
  kind:Int
  err:Int
  left:Nat
  s:IM
  v:VM
def zh (l:List qO) (mt:List Int):Nat→IM→VM→RM
 | 0,s,V=>if s.pc=l.length then⟨2,0,0,s,V⟩else⟨4,6,0,s,V⟩
 |n+1,s,V=>
  if s.pc=l.length then⟨2,0,n+1,s,V⟩
  else if(bG mt s V (qM l s.pc)).e=0 then
   (if(bG mt s V (qM l s.pc)).bR=true then⟨3,0,n,{ (bG mt s V (qM l s.pc)).s with pc:=(bG mt s V (qM l s.pc)).nx },(bG mt s V (qM l s.pc)).v⟩
   else zh l mt n { (bG mt s V (qM l s.pc)).s with pc:=(bG mt s V (qM l s.pc)).nx } (bG mt s V (qM l s.pc)).v)
  else if(bG mt s V (qM l s.pc)).e=11 then⟨1,0,n+1,(bG mt s V (qM l s.pc)).s,(bG mt s V (qM l s.pc)).v⟩
  else⟨4,(bG mt s V (qM l s.pc)).e,n+1,(bG mt s V (qM l s.pc)).s,(bG mt s V (qM l s.pc)).v⟩
theorem QD {l:List qO} {mt:List Int} {s:IM} {V:VM}:zh l mt 0 s V=if s.pc=l.length then⟨2,0,0,s,V⟩else⟨4,6,0,s,V⟩:=rfl
theorem QR {l:List qO} {mt:List Int} {n:Nat} {s:IM} {V:VM}:zh l mt (n+1) s V=if s.pc=l.length then⟨2,0,n+1,s,V⟩
  else if(bG mt s V (qM l s.pc)).e=0 then
   (if(bG mt s V (qM l s.pc)).bR=true then⟨3,0,n,{ (bG mt s V (qM l s.pc)).s with pc:=(bG mt s V (qM l s.pc)).nx },(bG mt s V (qM l s.pc)).v⟩
   else zh l mt n { (bG mt s V (qM l s.pc)).s with pc:=(bG mt s V (qM l s.pc)).nx } (bG mt s V (qM l s.pc)).v)
  else if(bG mt s V (qM l s.pc)).e=11 then⟨1,0,n+1,(bG mt s V (qM l s.pc)).s,(bG mt s V (qM l s.pc)).v⟩
  else⟨4,(bG mt s V (qM l s.pc)).e,n+1,(bG mt s V (qM l s.pc)).s,(bG mt s V (qM l s.pc)).v⟩:=rfl
theorem qvf {l:List qO} {mt:List Int} {s:IM} {V:VM} (h0:s.pc=l.length):∀n,zh l mt n s V=⟨2,0,n,s,V⟩:=by
 intro n;cases n with
 |zero=>rw[QD,iJ h0]
 |succ n=>rw[QR,iJ h0]
def qw (l:List qO):Nat→List Int
 | 0=>[]
 |i+1=>jN (qw l i) i (qM l i).1
theorem yw {l:List qO} {i:Nat} (h:i<l.length):qM l (i:Int)=l[i]:=by simp_all[qM,Int.toNat_natCast]
theorem ji {l:List qO} {i:Nat}:qw l (i+1)=jN (qw l i) i (qM l i).1:=rfl
theorem qkN {l:List qO}:∀(d i:Nat) {st':List Int},i+d=l.length→sB l (l.drop i) i (qw l i)=.inr st'→(∀j,i≤j→j<l.length→xr l (qw l j) (qM l j)=0)∧qw l l.length=st':=by
 intro d
 induction d with
 |zero=>
  intro i st' hi h;obtain rfl:i=l.length:=by omega
  rw[List.drop_length]at h;cases h;grind
 |succ d ih=>
  intro i st' hi h;have ap:i<l.length:=by omega
  rw[qZA ap]at h
  split at h
  ·rename_i hw;obtain⟨a,b⟩:=ih (i+1) (st':=st') omQ (by grind[ji,yw]);refine⟨λj h1 h2=>?_,b⟩;by_cases hj:j=i
   ·grind[yw]
   grind
  grind
theorem OG {l:List qO}:∀(d i:Nat),i+d=l.length→∀k,i+k<l.length→(ym (l.drop i) i (qw l i))[k]? =some (jD (qw l (i+k))):=by
 intro d
 induction d with
 |zero=>grind
 |succ d ih=>
  intro i hi k hk;have ap:i<l.length:=by omega
  rw[qYo ap];cases k with
  |zero=>rfl
  |succ k=>rw[List.getElem?_cons_succ];have:=ih (i+1) omQ k omQ;grind[ji,yw]
structure Fit (l:List qO):Prop where
  pos:0<l.length
  le:l.length≤40
  ok:∀j,j<l.length→xr l (qw l j) (qM l j)=0
  nil:qw l l.length=[]
  tU:∀j,j<l.length→(ym l 0 [])[j]? =some (jD (qw l j))
  jump:∀j,j<l.length→¬YP l (ym l 0 []) j (qM l j)
theorem qYD {l:List qO} {a:List Int}:∀(d i:Nat),i+d=l.length→(OM l a (l.drop i) i).2=0→∀j,i≤j→j<l.length→¬YP l a j (qM l j):=by
 intro d
 induction d with
 |zero=>grind
 |succ d ih=>
  intro i hi h j h1 h2;have ap:i<l.length:=by omega
  rw[Mx ap]at h
  split at h
  ·grind
  ·rename_i hn;by_cases hj:j=i
   ·grind[yw]
   ·exact ih (i+1) omQ h j omQ h2
theorem Z6 {l:List qO} (h:(yn l).2=0):Fit l:=by
 have hg:=qVB h;obtain⟨a,b⟩:=qkN (l:=l) l.length 0 (st':=[]) omQ hg;unfold yn at h
 split at h
 ·grind
 ·rename_i h0;rw[hg]at h;dsimp only at h;rw[iJ rfl]at h
  exact⟨by omega,by omega,λj hj=>a j (Nat.zero_le _) hj,b,λj hj=>by
   have:=OG (l:=l) l.length 0 omQ j omQ;rw[Nat.zero_add]at this
   trivial,λj hj=>qYD l.length 0 omQ h j (Nat.zero_le _) hj⟩
def IW (i:Nat) (st:List Int):Prop:=dv i st∧st.Pairwise (· < ·)
theorem Gb {l:List qO}:∀i,IW i (qw l i):=by
 intro i
 induction i with
 |zero=>exact⟨dv.nil,List.Pairwise.nil⟩
 |succ i ih=>
  refine⟨ih.1.behind,?_⟩;rw[ji];have hd:(qw l i).dropLast.Pairwise (· < ·):=ih.2.sublist (List.dropLast_sublist _);have hp:∀st:List Int,dv i st→st.Pairwise (· < ·)→(st++[(i:Int)]).Pairwise (· < ·):=by intro st h1 h2;rw[List.pairwise_append];refine⟨h2,List.pairwise_singleton ..,λa ha b hb=>?_⟩;rw[List.mem_singleton]at hb;subst hb;exact(h1 a ha).2
  unfold jN
  repeat' split
  ·exact hp _ ih.1.dropLast hd
  ·exact hp _ ih.1 ih.2
  ·grind
  ·exact ih.2
theorem Od {l:List qO}:∀(i k p:Nat),(qw l i)[k]? =some (p:Int)→qw l (p+1)=(qw l i).take (k+1):=by
 intro i
 induction i with
 |zero=>nofun
 |succ i ih=>
  intro k p h;have key:∀st:List Int,(∀k p:Nat,st[k]? =some (p:Int)→qw l (p+1)=st.take (k+1))→qw l (i+1)=st++[(i:Int)]→qw l (p+1)=(qw l (i+1)).take (k+1):=by
   grind
  have ow:∀k p:Nat,(qw l i).dropLast[k]? =some (p:Int)→qw l (p+1)=(qw l i).dropLast.take (k+1):=by
   grind[List.getElem?_eq_some_iff,qw,List.dropLast_eq_take]
  by_cases hb:xc (qM l i).1=true∨(qM l i).1=18
  ·by_cases he:0<zr (qM l i).1
   ·exact key _ ow (by simp_all[ji,jN])
   ·exact key _ ih (by simp_all[ji,jN,iQ])
  grind[zr,qM,qw,ji,jN]
theorem vM {l:List qO} {i:Nat} (h:qw l i≠[]):∃p:Nat,jD (qw l i)=p∧p<i∧(qw l i)[(qw l i).length-1]? =some (p:Int)∧qw l (p+1)=qw l i:=by
 have hb:=(Gb (l:=l) i).1.fo h;obtain⟨p,hp⟩:∃p:Nat,jD (qw l i)=p:=⟨(jD (qw l i)).toNat,by omega⟩;have hl:0<(qw l i).length:=List.length_pos_iff.2 h;have hk:(qw l i)[(qw l i).length-1]? =some (p:Int):=by grind[jD,List.getLast?_eq_some_getLast]
 refine⟨p,hp,by omega,hk,?_⟩;rw[Od i _ p hk,List.take_of_length_le omQ]
theorem qxB {l:List qO} {i j:Nat} (h:jD (qw l i)=jD (qw l j)):qw l i=qw l j:=by
 by_cases hi:qw l i=[]
 ·grind[qw,vM,G5]
 ·obtain⟨p,h1,_,_,h2⟩:=vM hi;by_cases hj:qw l j=[]
  all_goals grind[G5,vM]
def rD (l:List qO) (A:List Int):Nat→List Int
 | 0=>List.replicate l.length (-1)
 |i+1=>if 0<zr (qM l i).1 then(rD l A i).set (qB A i).toNat i else rD l A i
def li (l:List qO) (A:List Int):Nat→List Int
 | 0=>rD l A l.length
 |i+1=>if(qM l i).1=16 then(li l A i).set i (qB (li l A i) (qB A i))else li l A i
def qT (l:List qO):List Int:=li l (ym l 0 []) l.length
theorem IX {l:List qO} {A:List Int} {i:Nat}:rD l A (i+1)=if 0<zr (qM l i).1 then(rD l A i).set (qB A i).toNat i else rD l A i:=rfl
theorem Wn {l:List qO} {A:List Int} {i:Nat}:li l A (i+1)=if(qM l i).1=16 then(li l A i).set i (qB (li l A i) (qB A i))else li l A i:=rfl
theorem GY {l:List qO} {A:List Int}:∀i,(rD l A i).length=l.length:=by
 intro i
 induction i with
 |zero=>simp[rD]
 |succ i ih=>grind[IX]
theorem Zm {l:List qO} {A:List Int}:∀i,(li l A i).length=l.length:=by
 intro i
 induction i with
 |zero=>exact GY _
 |succ i ih=>grind[Wn]
theorem Oa (l:List qO):(qT l).length=l.length:=Zm _
theorem gA {l:List qO} (F:Fit l) {j:Nat} (h:j<l.length):qB (ym l 0 []) (j:Int)=jD (qw l j):=by unfold qB;rw[Int.toNat_natCast,F.tU j h];rfl
theorem qv4 {l:List qO} {p:Nat}:∀(d i:Nat),p<i→(p:Int)∉qw l i→(p:Int)∉qw l (i+d):=by
 intro d
 induction d with
 |zero=>simp
 |succ d ih=>
  grind[ji,qw,List.dropLast_sublist,jN]
theorem VX {st:List Int} {p:Int} (h:st.Pairwise (· < ·)) (hn:st≠[]) (hp:jD st=p):p∉st.dropLast:=by
 grind[List.dropLast_concat_getLast,jD,List.getLast?_eq_some_getLast,List.mem_singleton_self]
theorem qkn {l:List qO} {p j:Nat} (he:0<zr (qM l j).1) (hn:qw l j≠[]) (hp:jD (qw l j)=p):(p:Int)∉qw l (j+1):=by
 have h1:=VX (Gb (l:=l) j).2 hn hp;have h2:=(Gb (l:=l) j).1.fo hn;rw[ji];unfold jN;grind
theorem yy {l:List qO} {st:List Int} {x:qO} (h:xr l st x=0):kC x=true∧(0<zr x.1→cQ l st=zr x.1)∧(x.1=16→cQ l st=14)∧(xc x.1=true→st.length<5):=by
 have h0:=x8 h;unfold xr at h;grind
theorem NH {l:List qO} {i:Nat} {p:Nat} (hn:qw l i≠[]) (hp:jD (qw l i)=p):cQ l (qw l i)=(qM l p).1:=by simp_all[cQ]
theorem VB {l:List qO} (F:Fit l) {p:Nat} (hp:p<l.length) (ho:(qM l p).1=14∨(qM l p).1=17∨(qM l p).1=18) :
  ∃e:Nat,p<e∧e<l.length∧zr (qM l e).1=(qM l p).1∧qw l e≠[]∧jD (qw l e)=p∧
   ∀j,j<l.length→0<zr (qM l j).1→jD (qw l j)=p→j=e:=by
 have dY:(p:Int)∈qw l (p+1):=by rw[ji];unfold jN;rw[iJ (by grind[xc])];simp
 have key:∀d i,p<i→i+d=l.length→(p:Int)∈qw l i→∃e,i≤e∧e<l.length∧(p:Int)∈qw l e∧(p:Int)∉qw l (e+1):=by
  intro d
  induction d with
  |zero=>
   intro i _ hi hm;obtain rfl:i=l.length:=by omega
   rw[F.nil]at hm;grind
  |succ d ih=>
   grind
 obtain⟨e,h1,h2,h3,h4⟩:=key (l.length-(p+1)) (p+1) omQ omQ dY;have bW:qw l e≠[]:=λh=>by grind
 have ix:0<zr (qM l e).1:=by
  apply Classical.not_not.1;intro hn;apply h4;rw[ji];unfold jN;grind
 have IY:jD (qw l e)=p:=by
  apply Classical.not_not.1;intro hn;apply h4;have hd:(p:Int)∈(qw l e).dropLast:=by
   grind[List.dropLast_concat_getLast,List.mem_singleton,jD,List.getLast?_eq_some_getLast]
  rw[ji];unfold jN;grind
 have hw:=(yy (F.ok e h2)).2.1 ix;rw[NH bW IY]at hw;refine⟨e,by omega,h2,hw.symm,bW,IY,λj hj IZ EU=>?_⟩;have EV:qw l j≠[]:=(x8 (F.ok j hj)).2.1 (.inl IZ);have hpj:p<j:=by have:=(Gb (l:=l) j).1.fo EV;omega
 rcases Nat.lt_trichotomy j e with h |h |h
 ·exfalso;have:=qv4 (l:=l) (e-(j+1)) (j+1) omQ (qkn IZ EV EU);grind
 ·grind
 ·exfalso;have h5:=qv4 (l:=l) (j-(e+1)) (e+1) omQ h4;grind[jD,List.getLast?_eq_some_getLast,List.getLast_mem]
theorem qkp {l:List qO} (F:Fit l) {p e:Nat} (hp:p<l.length) (he:e<l.length) (hee:0<zr (qM l e).1) (hi:jD (qw l e)=p)
  (hu:∀j,j<l.length→0<zr (qM l j).1→jD (qw l j)=p→j=e):∀i,e<i→i≤l.length→(rD l (ym l 0 []) i)[p]? =some (e:Int):=by
 intro i
 induction i with
 |zero=>simp
 |succ i ih=>
  intro h1 h2;rw[IX];by_cases hie:i=e
  ·simp_all[gA,Int.toNat_natCast,GY]
  ·split
   ·rename_i hx;rw[gA F omQ,List.getElem?_set_ne]
    ·grind
    ·intro hh;have EV:qw l i≠[]:=(x8 (F.ok i omQ)).2.1 (.inl hx);have:=(Gb (l:=l) i).1.fo EV;grind
   grind
theorem qgA {l:List qO} (_:Fit l) {p:Nat} (hp:(qM l p).1≠16):∀i,(li l (ym l 0 []) i)[p]? =(rD l (ym l 0 []) l.length)[p]?:=by
 intro i
 induction i with
 |zero=>rfl
 |succ i ih=>
  rw[Wn]
  grind
theorem qz8 {l:List qO} (F:Fit l) {u:Nat} (hu:u<l.length) (ho:(qM l u).1=16):∀i,u<i→(li l (ym l 0 []) i)[u]? =some (qB (li l (ym l 0 []) u) (jD (qw l u))):=by
 intro i
 induction i with
 |zero=>simp
 |succ i ih=>
  intro h;rw[Wn];by_cases hi:i=u
  ·simp_all[Zm,gA]
  grind
theorem wN {l:List qO} (F:Fit l) {p:Nat} (hp:p<l.length) (ho:(qM l p).1=14∨(qM l p).1=17∨(qM l p).1=18) :
  ∃e:Nat,qB (qT l) (p:Int)=e∧p<e∧e<l.length∧zr (qM l e).1=(qM l p).1∧qw l e=qw l (p+1):=by
 obtain⟨e,h1,h2,h3,h4,h5,h6⟩:=VB F hp ho;refine⟨e,?_,h1,h2,h3,?_⟩
 ·unfold qB qT;rw[Int.toNat_natCast,qgA F (by grind),qkp F hp h2 (by grind) h5 h6 l.length h2 (Nat.le_refl _)];rfl
 grind[vM]
theorem Jz {l:List qO} (F:Fit l) {u:Nat} (hu:u<l.length) (ho:(qM l u).1=16) :
  ∃e:Nat,qB (qT l) (u:Int)=e∧e<l.length∧(qM l e).1=15∧qw l e=qw l u∧qw l u≠[]:=by
 have hn:qw l u≠[]:=(x8 (F.ok u hu)).2.1 (.inr ho);obtain⟨q,g1,g2,_,g3⟩:=vM hn;have hw:=(yy (F.ok u hu)).2.2.1 ho;rw[NH hn g1]at hw;obtain⟨e,h1,h2,h3,h4,h5,h6⟩:=VB F (p:=q) omQ (.inl hw);have e0:qB (li l (ym l 0 []) u) (q:Int)=e:=by unfold qB;rw[Int.toNat_natCast,qgA F (by grind),qkp F omQ h2 (by grind) h5 h6 l.length h2 (Nat.le_refl _)];rfl
 refine⟨e,?_,h2,?_,?_,hn⟩
 ·grind[qT,qB,Int.toNat_natCast,qz8]
 ·rw[hw]at h3;unfold zr at h3
  grind
 grind[vM]
end
section
structure X9 (M M':VM):Prop where
  sz:M'.sz=M.sz
  K:M'.K=M.K
  most:M'.most=M.most
  len:M'.lv.length=M.lv.length
def Yq (M M':VM):Prop:=M'.lv=M.lv∧1≤M'.aB∧M'.aB<M.sz∧zt M'.aB M.K=none
theorem X9.refl (M:VM):X9 M M:=⟨rfl,rfl,rfl,rfl⟩
theorem X9.trans {M N Q:VM} (a:X9 M N) (b:X9 N Q):X9 M Q:=⟨b.sz.trans a.sz,b.K.trans a.K,b.most.trans a.most,b.len.trans a.len⟩
theorem xu (M:VM) (p:Int):X9 M (qm M p).2:=by
 unfold qm
 repeat' split
 all_goals exact⟨rfl,rfl,rfl,rfl⟩
theorem Qs {M:VM} {p:Int} (h:(qm M p).1.2=11):Yq M (qm M p).2:=by
 unfold qm at h ⊢
 split
 ·rename_i h1;rw[iJ h1]at h
  split
  ·grind
  ·rename_i h2;rw[h2]at h;dsimp only at h ⊢
   split
   ·grind
   ·rename_i h3;exact⟨rfl,h1.1,h1.2,h3⟩
 grind
theorem jQA {most:Nat} {lv:List bC} {p v:Int}:(gc most lv p v).1=0∨(gc most lv p v).1=2∨(gc most lv p v).1=5:=by
 unfold gc
 grind
theorem qq3 {most:Nat} {aw:List bC}:∀{cs:List Cl} {lv:List bC},(gr most aw lv cs).1=0∨(gr most aw lv cs).1=2∨(gr most aw lv cs).1=5:=by
 intro cs
 induction cs with
 |nil=>intro lv;exact .inl rfl
 |cons c cs ih=>
  grind[wC,jQA]
theorem qzh {M:VM} {cs:List Cl}:(z7 M cs).1=0∨(z7 M cs).1=2∨(z7 M cs).1=5:=by
 unfold z7
 split
 ·exact qq3
 simp
theorem Kr {M:VM} {cs:List Cl} (h:(z7 M cs).1=11):False:=by grind[qzh]
theorem wI {M:VM} {cs:List Cl} (O:fm M):X9 M (z7 M cs).2:=by
 unfold z7
 split
 ·exact⟨rfl,rfl,rfl,(qJu O.lR O.lR rfl).2⟩
 ·exact .refl M
theorem qJc (M:VM) (b:Int):X9 M (zE M b).2:=by
 unfold zE
 repeat' split
 all_goals first |exact .refl M |simp[xu]
theorem qXA {M:VM} {b:Int} (h:(zE M b).1.2.2=11):Yq M (zE M b).2:=by
 unfold zE at h ⊢
 split
 ·grind
 ·rename_i h1;rw[iQ h1]at h
  split
  ·grind
  simp_all[Qs]
theorem rZ {lv:List bC} {b:Int}:(YU lv b).length=lv.length:=by cases lv<;>rfl
theorem qYn {M:VM} {b:Int} (O:fm M):X9 M (ga M b).2:=by
 have ha:=qJc M b;unfold ga
 repeat' split
 ·have ht:=ha.trans (wI (cs:=[(b-1,(zE M b).1.1)]) (GW (b:=b) O));exact⟨ht.sz,ht.K,ht.most,rZ.trans ht.len⟩
 ·exact ha.trans (wI (GW O))
 all_goals grind
theorem qYH {M:VM} {b:Int} (h:(ga M b).1=11):Yq M (ga M b).2:=by
 unfold ga at h ⊢
 split
 ·rename_i h1;rw[iJ h1]at h
  split
  ·rename_i h2;rw[iJ h2]at h
   split
   ·grind
   ·rename_i h3;rw[iQ h3]at h;grind[Kr]
  grind
 simp_all[qXA]
theorem qKh {M:VM} {c b:Int} (O:fm M):X9 M (vS M c b).2:=by
 unfold vS
 repeat' split
 ·exact .refl M
 ·exact(xu M _).trans (wI (vQ O))
 ·exact(xu M _).trans (wI (vQ O))
 simp[xu]
theorem qVU {M:VM} {c b:Int} (h:(vS M c b).1.2=11):Yq M (vS M c b).2:=by
 unfold vS at h ⊢
 split
 ·grind
 ·rename_i h1;rw[iQ h1]at h
  split
  ·rename_i h2;rw[iJ h2]at h
   split
   ·grind
   ·rename_i h3;rw[iQ h3]at h;grind[Kr]
  simp_all[Qs]
theorem qKE {M:VM} {c:Int} (O:fm M):X9 M (vO M c).2:=by
 unfold vO
 repeat' split
 ·simp[xu]
 ·exact(xu M _).trans (wI (vQ O))
 ·exact(xu M _).trans (wI (vQ O))
 simp[xu]
theorem qVH {M:VM} {c:Int} (h:(vO M c).1.2=11):Yq M (vO M c).2:=by
 unfold vO at h ⊢
 split
 ·rename_i h1;rw[iJ h1]at h
  split
  ·grind
  ·rename_i h2;rw[iQ h2]at h
   split
   ·grind
   ·rename_i h3;rw[iQ h3]at h;grind[Kr]
 simp_all[Qs]
theorem Ms {M:VM} {x:Int} (O:fm M):X9 M (xO M x).2:=by
 unfold xO
 repeat' split
 ·exact .refl M
 ·exact(xu M _).trans (qKE (vQ O))
 ·exact(xu M _).trans (qKh (vQ O))
 simp[xu]
theorem qKb {M:VM} {x:Int} (h:(xO M x).1.2=11):Yq M (xO M x).2:=by
 unfold xO at h ⊢
 split
 ·grind
 ·rename_i h1;rw[iQ h1]at h
  split
  ·rename_i h2;rw[iJ h2]at h;have e:=Ul h2
   split
   all_goals simp_all[qVH,qVU]
  simp_all[Qs]
theorem qG7 {M:VM} {x:Int} (W:oR M) (h:(xO M x).1.2=0):0≤(xO M x).1.1∧(xO M x).1.1≤2147483648:=by
 have hs:=ZC (zD x);unfold xO at h ⊢
 split
 ·simp
 ·rename_i h1;rw[iQ h1]at h
  split
  ·rename_i h2;rw[iJ h2]at h;have hr:=W.read (p:=zD x)
   split
   ·rename_i h3;rw[iJ h3]at h;have Wo:=(W.oz (p:=zD x)).read (p:=5);unfold vO at h ⊢
    grind
   ·rename_i h3;rw[iQ h3]at h;unfold vS at h ⊢
    grind
  simp
structure X7 (r:List Int):Prop where
  len:r.length=8
  bd:∀z∈r,0≤z∧z<18446744073709551616
theorem X7.at {r:List Int} (h:X7 r) (i:Int):0≤qB r i∧qB r i<18446744073709551616:=by
 unfold qB;cases hi:r[i.toNat]? with
 |none=>simp
 |some z=>exact h.bd z (List.mem_of_getElem? hi)
theorem X7.set {r:List Int} {i v:Int} (h:X7 r) (hv:0≤v∧v<18446744073709551616):X7 (r.set i.toNat v) :=
 ⟨by rw[List.length_set];exact h.len,λz hz=>by
  rcases List.mem_or_eq_of_mem_set hz with hz |rfl
  ·exact h.bd z hz
  grind⟩
structure AD (l:List qO) (p:cZ):Prop where
  ao:X7 p.ao
  pc:∃k:Nat,p.pc=k∧k<l.length
  op:(p.op=14∨p.op=17∨p.op=18)∧(qM l p.pc).1=p.op
def dy:Nat→List cZ→Prop
 |_,[]=>True
 |n,p::r=>p.told≤n∧dy p.told r
theorem dy.mono:∀{o:List cZ} {n n':Nat},n≤n'→dy n o→dy n' o:=by
 intro o;cases o with
 |nil=>intro _ _ _ _;trivial
 |cons p r=>intro n n' h h2;exact⟨Nat.le_trans h2.1 h,h2.2⟩
structure GB (s:IM):Prop where
  ao:X7 s.ao
  out:s.out.length≤16
  its:∀x∈s.out,DA x
structure GI (l:List qO) (s:IM) (V:VM):Prop where
  gb:GB s
  pc:∃k:Nat,s.pc=k∧k≤l.length
  nG:∀p∈s.aO,AD l p
  told:dy s.out.length s.aO
  DB:s.aO.map (·.pc)=(qw l s.pc.toNat).reverse
  lv:V.lv.length=s.aO.length+1
  aE:zj V
theorem Rs (z:Int):0≤zu .u64 z∧zu .u64 z<18446744073709551616:=by
  cases z with
  | ofNat a => show (0 : Int) ≤ Int.ofNat (a % 18446744073709551616) ∧ Int.ofNat (a % 18446744073709551616) < 18446744073709551616
               grind
  | negSucc a => show (0 : Int) ≤ Int.ofNat (18446744073709551615 - a % 18446744073709551616) ∧ Int.ofNat (18446744073709551615 - a % 18446744073709551616) < 18446744073709551616
                 grind
theorem qGh (p:Prop) [Decidable p]:0≤Q8 p∧Q8 p<18446744073709551616:=by grind[Q8]
theorem GB.cN {s:IM} {i v:Int} (h:GB s) (hv:0≤v∧v<18446744073709551616):GB (cN s i v):=⟨h.ao.set hv,h.out,h.its⟩
structure KH (l:List qO) (s:IM) (V:VM) (r:SM):Prop where
  gb:GB r.s
  aE:zj r.v
  fr:bE r.v.lv≤bE V.lv+1
  sz:r.v.sz=V.sz
  K:r.v.K=V.K
  most:r.v.most=V.most
  next:r.e=0→r.bR=false→GI l { r.s with pc:=r.nx } r.v
  aB:r.e=11→r.s=s∧Yq V r.v
  bl:r.bR=true→r.e=0
theorem qVF {l:List qO} {i:Nat} (h1:xc (qM l i).1=false) (h2:(qM l i).1≠18) (h3:zr (qM l i).1=0):qw l (i+1)=qw l i:=by simp_all[ji,jN,omQ]
theorem GI.plain {l:List qO} {s s':IM} {V V':VM} {i:Nat} (G:GI l s V) (hi:s.pc=i) (ap:i<l.length) (h1:xc (qM l i).1=false) (h2:(qM l i).1≠18) (h3:zr (qM l i).1=0)
  (gb:GB s') (ho:s'.aO=s.aO) (hl:s.out.length≤s'.out.length) (hv:V'.lv.length=V.lv.length) (hg:zj V'):GI l { s' with pc:=s.pc+1 } V':=by
 refine⟨⟨gb.ao,gb.out,gb.its⟩,⟨i+1,by grind,by omega⟩,by show∀p∈s'.aO,_;rw[ho];exact G.nG,by show dy s'.out.length s'.aO;rw[ho];exact G.told.mono hl,?_,by show V'.lv.length=s'.aO.length+1;rw[ho,hv];exact G.lv,hg⟩;show s'.aO.map _=(qw l (s.pc+1).toNat).reverse;rw[ho,hi,show((i:Int)+1).toNat=i+1 by rfl,qVF h1 h2 h3,G.DB,hi,Int.toNat_natCast]
theorem NS {l:List qO} {s:IM} {V:VM} {op:Int} {p:Nat} {st:List Int} (gb:GB s) (hp:p<l.length) (ho:(op=14∨op=17∨op=18)∧(qM l (p:Int)).1=op) (nG:∀p∈s.aO,AD l p) (told:dy s.out.length s.aO)
  (bK:s.aO.map (·.pc)=st.reverse) (EC:qw l (p+1)=st++[(p:Int)]) (lv:V.lv.length=s.aO.length+1) (hd:s.aO.length<5) (G:zj V) :
  (xE op p ((p:Int)+1) s V).e=0∧(xE op p ((p:Int)+1) s V).bR=false∧(xE op p ((p:Int)+1) s V).nx=(p:Int)+1∧GI l { (xE op p ((p:Int)+1) s V).s with pc:=(p:Int)+1 } (xE op p ((p:Int)+1) s V).v∧
   (xE op p ((p:Int)+1) s V).v=(yN V).2:=by
 have h0:(yN V).1=0∧(yN V).2.lv=([],[])::V.lv:=by unfold yN kV;grind
 unfold xE;rw[iJ h0.1];refine⟨rfl,rfl,rfl,⟨⟨gb.ao,gb.out,gb.its⟩,⟨p+1,rfl,by omega⟩,?_,⟨Nat.le_refl _,told⟩,?_,?_,G.tT.1⟩,rfl⟩
 ·intro q hq;rcases List.mem_cons.1 hq with rfl |hq
  ·exact⟨gb.ao,⟨p,rfl,hp⟩,ho⟩
  grind
 all_goals grind
theorem Qr {V:VM} (h:2≤V.lv.length):(xa V).1=0∧(xa V).2.lv=V.lv.tail:=by unfold xa Jp;grind
theorem kP {V:VM} (h:2≤V.lv.length):(gM V).1=0∧(gM V).2.lv.length+1=V.lv.length:=by
 unfold gM
 match hl:V.lv,h with
 |[],h=>grind
 |[x],h=>grind
 |x::y::r,_=>trivial
theorem dy.tail {n:Nat} {p:cZ} {o:List cZ} (h:dy n (p::o)):dy n o:=h.2.mono h.1
theorem KH.plain {l:List qO} {s s':IM} {V V':VM} {i:Nat} {e:Int} (G:GI l s V) (hi:s.pc=i) (ap:i<l.length) (h1:xc (qM l i).1=false) (h2:(qM l i).1≠18) (h3:zr (qM l i).1=0)
  (gb:GB s') (ho:s'.aO=s.aO) (hl:s.out.length≤s'.out.length) (hk:X9 V V') (hg:zj V') (hf:bE V'.lv≤bE V.lv+1) (hn:e=11→s'=s∧Yq V V'):KH l s V ⟨e,s.pc+1,false,s',V'⟩ :=
 ⟨gb,hg,hf,hk.sz,hk.K,hk.most,λ_ _=>G.plain hi ap h1 h2 h3 gb ho hl hk.len hg,hn,λh=>(by grind)⟩
theorem qKM {l:List qO} (F:Fit l) {i:Nat} (ap:i<l.length) (ho:(qM l i).1=12∨(qM l i).1=13):∃c:Nat,(qM l i).2.2.2.1=c∧c≤l.length∧qw l c=qw l i:=by
 have hm:=(yy (F.ok i ap)).1;have hj:=F.jump i ap;generalize qM l i=x at*;have hc:0≤x.2.2.2.1∧x.2.2.2.1≤40:=by
  unfold kC xY Qb at hm;grind
 obtain⟨c,fZ⟩:∃c:Nat,x.2.2.2.1=c:=⟨x.2.2.2.1.toNat,by omega⟩;refine⟨c,fZ,?_⟩;unfold YP at hj;rw[fZ]at hj;have hle:c≤l.length:=by
  grind
 refine⟨hle,?_⟩;by_cases he:c=l.length
 ·subst he;rw[F.nil];have:qB (ym l 0 []) (i:Int)= -1:=Classical.not_not.1 λh=>hj ⟨ho,.inr (.inl ⟨rfl,h⟩)⟩;rw[gA F ap]at this
  exact(Classical.not_not.1 λh=>by
   have:=(Gb (l:=l) i).1.fo (λh'=>h h'.symm)
   omega:[]=qw l i)
 ·have:qB (ym l 0 []) (c:Int)=qB (ym l 0 []) (i:Int):=Classical.not_not.1 λh=>hj ⟨ho,.inr (.inr ⟨by omega,h⟩)⟩;rw[gA F ap,gA F omQ]at this;grind[qxB]
theorem Xe {l:List qO} (F:Fit l):∀i,i≤l.length→(qw l i).length≤5:=by
 intro i
 induction i with
 |zero=>simp[qw]
 |succ i ih=>
  intro h;have h1:=ih omQ;have hw:=yy (F.ok i omQ);rw[ji];unfold jN
  repeat' split
  ·grind
  ·rename_i hb he;rcases hb with hb |hb
   ·grind
   ·exact absurd (by rw[hb];decide) he
  all_goals grind
theorem YB {o:List cZ} {p:cZ} {st:List Int} (h:(p::o).map (·.pc)=st.reverse):st=st.dropLast++[p.pc]∧o.map (·.pc)=st.dropLast.reverse:=by
 have e:st=o.reverse.map (·.pc)++[p.pc]:=by have:=congrArg List.reverse h;grind[List.reverse_reverse,List.reverse_cons,List.map_reverse]
 grind
def tV (l:List qO) (st:List Int):Prop:=∀k p:Nat,st[k]? =some (p:Int)→qw l (p+1)=st.take (k+1)
theorem tV.dropLast {l:List qO} {st:List Int} (h:tV l st):tV l st.dropLast:=by
 intro k p hk;have h1:=(List.getElem?_eq_some_iff.1 hk).1;have h2:k+1≤st.length-1:=by grind
 rw[List.getElem?_dropLast]at hk
 split at hk
 ·rw[h k p hk,List.dropLast_eq_take,List.take_take,Nat.min_eq_left h2]
 grind
theorem GB.back {l:List qO} {s:IM} {p:cZ} (g:GB s) (h:AD l p):GB (Yb s p):=⟨h.ao,by
 show(s.out.take p.told).length≤16;have:=g.out
 grind,λx hx=>g.its x (List.mem_of_mem_take hx)⟩
theorem qgF {l:List qO} {st:List Int} (hp:tV l st) {o:List cZ} {p:cZ} {q:Nat} (h:(p::o).map (·.pc)=st.reverse) (hq:p.pc=q):qw l (q+1)=st:=by
 have e:=(YB h).1;have hl:st.length=st.dropLast.length+1:=by grind
 have:=hp st.dropLast.length q (by grind);grind
theorem qKn {l:List qO} (F:Fit l) {s0:IM} {V0:VM}:∀(o:List cZ) (s:IM) (V:VM) (st:List Int),tV l st→o.map (·.pc)=st.reverse→GB s→(∀p∈o,AD l p)→dy s.out.length o→V.lv.length=o.length+1→zj V→
  bE V.lv≤bE V0.lv→V.sz=V0.sz→V.K=V0.K→V.most=V0.most→KH l s0 V0 (yl (qT l) o s V):=by
 intro o
 induction o with
 |nil=>intro s V st hp hm gb _ _ iD G hf h1 h2 h3;exact⟨⟨gb.ao,gb.out,gb.its⟩,G,by show bE V.lv≤_;omega,h1,h2,h3,λ_ h=>(by cases h),λh=>(by cases h),λ_=>rfl⟩
 |cons p o ih=>
  intro s V st hp hm gb nG told iD G hf h1 h2 h3;have hd:=Qr (V:=V) (by grind);have I0:=G.cV;have tW:(xa V).2.lv.length=o.length+1:=by grind
  have pJ:=YB hm;unfold yl;rw[iJ hd.1]
  split
  ·rename_i mz;have P:=nG p (iK ..);obtain⟨q,hq,Wp⟩:=P.pc;have hqo:(qM l (q:Int)).1=17:=by rw[← hq,P.op.2,mz]
   obtain⟨e,e1,e2,e3,e4,e5⟩:=wN F Wp (.inr (.inl hqo));have bK:=qgF hp hm hq;have EW:(qM l (e:Int)).1=18:=by
    grind[zr]
   have I2:qw l (e+1)=st.dropLast++[(e:Int)]:=by rw[ji,e5,bK];unfold jN;grind
   have h5:=Xe F e omQ;rw[e5,bK]at h5;have hl5:st.length=st.dropLast.length+1:=by grind
   have ei:o.length=st.dropLast.length:=by have:=congrArg List.length pJ.2;grind
   have BY:GB { Yb s p with aO:=o }:=⟨(gb.back P).ao,(gb.back P).out,(gb.back P).its⟩;have I3:dy (s.out.take p.told).length o:=by rw[List.length_take,Nat.min_eq_left told.1];exact told.2
   have key:=NS (l:=l) (s:={ Yb s p with aO:=o }) (V:=(xa V).2) (op:=18) (p:=e) (st:=st.dropLast) BY e3 ⟨.inr (.inr rfl),EW⟩ (λr hr=>nG r (iX _ hr)) I3 pJ.2 I2 tW (by grind) I0.1;rw[hq,e1];obtain⟨k1,k2,k3,k4,k5⟩:=key;have Wq:=I0.1.tT;refine⟨k4.gb |> λg=>⟨g.ao,g.out,g.its⟩,k4.aE,?_,?_,?_,?_,λ_ _=>?_,λh=>(by grind),λh=>(by grind)⟩
   ·grind
   ·rw[k5];exact h1
   ·rw[k5];exact h2
   ·rw[k5];exact h3
   grind
  ·exact ih s (xa V).2 st.dropLast hp.dropLast pJ.2 gb (λr hr=>nG r (iX _ hr)) told.tail tW I0.1 (by grind) h1 h2 h3
theorem qVc {l:List qO} {s:IM} {V:VM} {x:qO} (G:GI l s V) (hf:bE V.lv<10000) :
  GB (zB s V x).2.1∧(zB s V x).2.1.aO=s.aO∧(zB s V x).2.1.out=s.out∧(zB s V x).2.1.pc=s.pc∧X9 V (zB s V x).2.2∧zj (zB s V x).2.2∧bE (zB s V x).2.2.lv≤bE V.lv+1∧
   ((zB s V x).1=11→(zB s V x).2.1=s∧Yq V (zB s V x).2.2):=by
 have gb:=G.gb;have aE:=G.aE;have hr:=λi=>gb.ao.at i;have same:∀e:Int,e≠11→GB s∧s.aO=s.aO∧s.out=s.out∧s.pc=s.pc∧X9 V V∧zj V∧bE V.lv≤bE V.lv+1∧(e=11→s=s∧Yq V V) :=
  λe he=>⟨gb,rfl,rfl,rfl,.refl V,aE,by omega,λh=>absurd h he⟩
 unfold zB
 split
 ·split
  ·split
   ·refine⟨gb.cN ?_,rfl,rfl,rfl,xu V _,aE.read,by simp[yU],λh=>by grind⟩;exact aE.wd.read
   ·exact⟨gb,rfl,rfl,rfl,xu V _,aE.read,by simp[yU],λh=>⟨rfl,Qs h⟩⟩
  ·exact same 2 omQ
 ·split
  ·split
   ·exact⟨gb,rfl,rfl,rfl,wI aE.ok,aE.take (lS.IU (hr _)),by simp[kj],λh=>(Kr h).elim⟩
   ·exact same 2 omQ
  ·split
   ·split
    ·exact same 3 omQ
    ·split
     ·rename_i h0;have hb:=qG7 (x:=qB s.ao x.2.2.1) aE.wd h0;exact⟨gb.cN omQ,rfl,rfl,rfl,Ms aE.ok,(aE.alloc).1,by rw[(aE.alloc).2];omega,λh=>by grind⟩
     ·exact⟨gb,rfl,rfl,rfl,Ms aE.ok,(aE.alloc).1,by rw[(aE.alloc).2];omega,λh=>⟨rfl,qKb h⟩⟩
   ·split
    ·exact same 2 omQ
    ·exact⟨gb,rfl,rfl,rfl,qYn aE.ok,(aE.free omQ).1,(aE.free omQ).2,λh=>⟨rfl,qYH h⟩⟩
theorem UG {l:List qO} {s:IM} {V:VM} (G:GI l s V):s.aO.length=(qw l s.pc.toNat).length:=by have:=congrArg List.length G.DB;grind
theorem Uz {l:List qO} (F:Fit l) {s:IM} {V:VM} (G:GI l s V) {i:Nat} (hi:s.pc=i) (ap:i<l.length) (hf:bE V.lv<10000) (hN:0≤(qM l i).2.2.2.2∧(qM l i).2.2.2.2<18446744073709551616) (_:(qM l i).1≠23) :
  KH l s V (bG (qT l) s V (qM l i)):=by
 have hw:=yy (F.ok i ap);have uK:=x8 (F.ok i ap);have mz:1≤(qM l i).1∧(qM l i).1≤23:=by simp_all[kC,Bool.and_eq_true,decide_eq_true_eq]
 have Ey:xc (qM l i).1=decide ((qM l i).1=14∨(qM l i).1=17):=rfl;have ix:zr (qM l i).1=if(qM l i).1=15 then 14 else if(qM l i).1=18 then 17 else if(qM l i).1=19 then 18 else 0:=rfl
 have Wr:=λh=>qKM F ap h;have iy:=G.DB;rw[hi,Int.toNat_natCast]at iy;have ei:=UG G;rw[hi,Int.toNat_natCast]at ei;have hr:=λi=>G.gb.ao.at i;have hmb:=λh=>wN F ap h;have hmu:=λh=>Jz F ap h;have Ws:qw l (i+1)=jN (qw l i) i (qM l i).1:=ji;have plain:(qM l i).1≠14→(qM l i).1≠17→(qM l i).1≠15→(qM l i).1≠18→(qM l i).1≠19→xc (qM l i).1=false∧(qM l i).1≠18∧zr (qM l i).1=0:=by grind
 have keep:∀{s':IM} {V':VM} {e:Int},(qM l i).1≠14→(qM l i).1≠17→(qM l i).1≠15→(qM l i).1≠18→(qM l i).1≠19→GB s'→s'.aO=s.aO→s.out.length≤s'.out.length→X9 V V'→zj V'→bE V'.lv≤bE V.lv+1→
   (e=11→s'=s∧Yq V V')→KH l s V ⟨e,s.pc+1,false,s',V'⟩:=λa b c d e gb ho hl hk hg hf hn=>
  KH.plain G hi ap (plain a b c d e).1 (plain a b c d e).2.1 (plain a b c d e).2.2 gb ho hl hk hg hf hn
 generalize hxe:qM l i=x at*;obtain⟨ll,lE,pK,iS⟩:=s;dsimp only at hi iy ei hr keep ⊢;unfold bG;have tU:∀v:Int,x.1≠14→x.1≠17→x.1≠15→x.1≠18→x.1≠19→0≤v∧v<18446744073709551616→KH l ⟨ll,lE,pK,iS⟩ V ⟨0,pK+1,false,cN ⟨ll,lE,pK,iS⟩ x.2.1 v,V⟩ :=
  λv a b c d e hv=>keep a b c d e (G.gb.cN hv) rfl (Nat.le_refl _) (.refl V) G.aE omQ λh=>by grind
 have jump:∀n:Int,(x.1=12∨x.1=13)→(n=x.2.2.2.1∨n=pK+1)→KH l ⟨ll,lE,pK,iS⟩ V ⟨0,n,false,⟨ll,lE,pK,iS⟩,V⟩:=by
  intro n ho hn;rcases hn with rfl |rfl
  ·obtain⟨c,c1,c2,c3⟩:=Wr ho;refine⟨G.gb,G.aE,Nat.le_succ _,rfl,rfl,rfl,λ_ _=>⟨⟨G.gb.ao,G.gb.out,G.gb.its⟩,⟨c,c1,c2⟩,G.nG,G.told,?_,G.lv,G.aE⟩,λh=>(by grind),λh=>(by rfl)⟩;grind
  ·exact keep omQ omQ omQ omQ omQ G.gb rfl (Nat.le_refl _) (.refl V) G.aE omQ λh=>by grind
 by_cases c1:x.1=1
 ·grind
 rw[iQ c1];by_cases c2:x.1=2
 ·grind
 rw[iQ c2];by_cases c3:x.1=3
 ·rw[iJ c3];exact tU _ omQ omQ omQ omQ omQ (Rs _)
 rw[iQ c3];by_cases c4:x.1=4
 ·rw[iJ c4];exact tU _ omQ omQ omQ omQ omQ (Rs _)
 rw[iQ c4];by_cases c5:x.1=5
 ·rw[iJ c5];exact tU _ omQ omQ omQ omQ omQ (Rs _)
 rw[iQ c5];by_cases c6:x.1=6
 ·rw[iJ c6];exact tU _ omQ omQ omQ omQ omQ (qGh _)
 rw[iQ c6];by_cases c7:x.1=7
 ·rw[iJ c7];exact tU _ omQ omQ omQ omQ omQ (qGh _)
 rw[iQ c7];by_cases pG:x.1=12
 ·grind
 rw[iQ pG];by_cases rE:x.1=13
 ·grind
 rw[iQ rE];by_cases nF:x.1=21
 ·rw[iJ nF];have hk:∀e:Int,e≠11→KH l ⟨ll,lE,pK,iS⟩ V ⟨e,pK+1,false,⟨ll,lE,pK,iS⟩,V⟩:=λe he=>
   keep omQ omQ omQ omQ omQ G.gb rfl (Nat.le_refl _) (.refl V) G.aE (Nat.le_succ _) λh=>absurd h he
  by_cases hlen:16≤lE.length
  ·grind
  ·rw[iQ hlen];refine keep omQ omQ omQ omQ omQ ⟨G.gb.ao,?_,?_⟩ rfl ?_ (.refl V) G.aE (Nat.le_succ _) λh=>by grind
   ·grind
   ·intro y hy;rcases List.mem_append.1 hy with hy |hy
    ·exact G.gb.its y hy
    ·rw[List.mem_singleton]at hy;subst hy;exact hr _
   simp
 rw[iQ nF];by_cases oS:x.1=22
 ·rw[iJ oS];exact keep omQ omQ omQ omQ omQ G.gb rfl (Nat.le_refl _) (.refl V) G.aE (Nat.le_succ _) λh=>by grind
 rw[iQ oS];by_cases c8:x.1=8∨x.1=9∨x.1=10∨x.1=11
 ·rw[iJ c8];obtain⟨t1,t2,t3,t4,t5,t6,t7,t8⟩:=qVc (x:=x) G hf;grind
 rw[iQ c8];unfold gY;by_cases h:x.1=14∨x.1=17
 ·rw[iJ h];dsimp only;subst hi;have hb:xc x.1=true:=by grind
  have he:¬0<zr x.1:=by grind
  have key:=NS (l:=l) (s:=⟨ll,lE,(i:Int),iS⟩) (V:=V) (op:=x.1) (p:=i) (st:=qw l i) G.gb ap ⟨by omega,by grind⟩ G.nG G.told iy (by rw[Ws];unfold jN;grind) G.lv (by grind) G.aE;obtain⟨k1,k2,k3,k4,k5⟩:=key;have Wq:=G.aE.tT;refine⟨k4.gb |> λg=>⟨g.ao,g.out,g.its⟩,k4.aE,?_,?_,?_,?_,λ_ _=>?_,λh=>(by grind),λh=>(by grind)⟩
  ·grind
  ·rw[k5];rfl
  ·rw[k5];rfl
  ·rw[k5];rfl
  grind
 rw[iQ h];clear h;by_cases h:x.1=15∨x.1=19
 ·rw[iJ h];have he:0<zr x.1:=by grind
  have bW:=uK.2.1 (.inl he)
  match iS,ei,iy,G with
  |[],ei,_,_=>grind
  |p::o,ei,iy,G=>
   have hk:=kP (V:=V) (by rw[G.lv];simp);have tX:=G.aE.BW omQ;have iD:=G.lv
   refine⟨⟨G.gb.ao,G.gb.out,G.gb.its⟩,tX.1,by grind,rfl,rfl,rfl,λ_ _=>⟨⟨G.gb.ao,G.gb.out,G.gb.its⟩,⟨i+1,by grind,by omega⟩,λq hq=>G.nG q (iX _ hq),G.told.tail,?_,?_,tX.1⟩,λh0=>(by
    grind),λh=>(by grind)⟩
   ·show o.map _=(qw l (pK+1).toNat).reverse;rw[hi,show((i:Int)+1).toNat=i+1 by rfl,Ws];unfold jN;grind
   grind
 rw[iQ h];clear h;by_cases h:x.1=18
 ·rw[iJ h];have he:0<zr x.1:=by grind
  have bW:=uK.2.1 (.inl he);obtain⟨e,e1,e2,e3,e4,e5⟩:=hmb (.inr (.inr h));have EW:(qM l (e:Int)).1=19:=by
   grind[zr]
  match iS,ei,iy,G with
  |[],ei,_,_=>grind
  |p::o,ei,iy,G=>
   have hk:=kP (V:=V) (by rw[G.lv];simp);have tX:=G.aE.BW omQ;have iD:=G.lv
   refine⟨⟨G.gb.ao,G.gb.out,G.gb.its⟩,tX.1,by grind,rfl,rfl,rfl,λ_ _=>⟨⟨G.gb.ao,G.gb.out,G.gb.its⟩,⟨e+1,by grind,by omega⟩,λq hq=>G.nG q (iX _ hq),G.told.tail,?_,?_,tX.1⟩,λh0=>(by
    grind),λh=>(by grind)⟩
   ·show o.map _=(qw l (qB (qT l) pK+1).toNat).reverse;rw[hi,e1,show((e:Int)+1).toNat=e+1 by rfl,ji,e5,Ws];unfold jN;rw[iQ (by rw[EW];decide),iJ (by grind),iJ (.inr h),iJ he,List.dropLast_concat];grind
   grind
 rw[iQ h];clear h;by_cases h:x.1=16
 ·rw[iJ h];obtain⟨e,e1,e2,e3,e4,bW⟩:=hmu h
  match iS,ei,iy,G with
  |[],ei,_,_=>grind
  |p::o,ei,iy,G=>
   have hk:=Qr (V:=V) (by rw[G.lv];simp);have tX:=G.aE.cV;have iD:=G.lv;have P:=G.nG p (iK ..);have told:=G.told;have BY:=G.gb.back P
   refine⟨⟨BY.ao,BY.out,BY.its⟩,tX.1,by grind,rfl,rfl,rfl,λ_ _=>⟨⟨BY.ao,BY.out,BY.its⟩,⟨e+1,by grind,by omega⟩,λq hq=>G.nG q (iX _ hq),?_,?_,?_,tX.1⟩,λh0=>(by
    grind),λh=>(by grind)⟩
   ·show dy (lE.take p.told).length o;rw[List.length_take,Nat.min_eq_left told.1];exact told.2
   ·show o.map _=(qw l (qB (qT l) pK+1).toNat).reverse;rw[hi,e1,show((e:Int)+1).toNat=e+1 by rfl,ji,e4];unfold jN;rw[iQ (by rw[e3];decide),iJ (by rw[e3];decide)];grind
   grind
 ·rw[iQ h];exact qKn F iS _ V (qw l i) (Od i) iy G.gb G.nG G.told G.lv G.aE (Nat.le_refl _) rfl rfl rfl
end
section
variable {g h:AH} {L R:List SP}
theorem vz {b off n sz a:Nat} {k:IntKind} {K:AV→Go.Ae.R} {Q:AV→AH→Prop} (ha:a<n) (w:wp (K (.ptr b (off+a*sz))) Q):wp (Ji (.ptr b off) (.int k (a:Int)) n sz K) Q:=by unfold Ji;show wp (bif Nat.ble (a+1) n then _ else none) Q;rw[iY (show a+1≤n from ha)];exact w
def Wt (r:List Int):List AV:=[.int .u64 (qB r 0),.int .u64 (qB r 1),.int .u64 (qB r 2),.int .u64 (qB r 3),.int .u64 (qB r 4),.int .u64 (qB r 5),.int .u64 (qB r 6),.int .u64 (qB r 7)]
def DC (p:cZ):List AV:=[.int .i64 p.op,.int .i64 p.pc,.int .u64 (qB p.ao 0),.int .u64 (qB p.ao 1),.int .u64 (qB p.ao 2),.int .u64 (qB p.ao 3),.int .u64 (qB p.ao 4),.int .u64 (qB p.ao 5),.int .u64 (qB p.ao 6),.int .u64 (qB p.ao 7),.int .i64 (p.told:Int)]
section
variable {c mv ov:AV} {v o:Nat} {bad err fin left nx pc:Int} {r:List Int}
theorem qY4 {i k:Nat} {z:Int} (hi:i<r.length):qB (r.set i z) (k:Int)=if i=k then z else qB r (k:Int):=by
 grind[qB,Int.toNat_natCast]
end
section
variable {x v:Nat} {l:List qO} {bad:Int} {mt:List Int} {s:IM} {err fin left nx:Int}
theorem qzI {most:Nat} {lv:List bC} {p z:Int} (h:¬(gc most lv p z).1=0):(gc most lv p z).2=lv:=by
 cases lv with
 |nil=>rfl
 |cons y r=>
  unfold gc at h ⊢;grind
end
end
section
variable {g h:AH} {L R:List SP}
section
variable {x v:Nat} {l:List qO} {bad:Int} {mt:List Int} {s:IM} {err fin left nx:Int}
def lF (mt:List Int) (p:Int):Prop:=∃k:Nat,p=k∧∃z:Int,mt[k]? =some z∧ -1≤z∧z≤1000
theorem lF.num {mt:List Int} {p z:Int} {k:Nat} (h1:p=k) (h2:mt[k]? =some z):qB mt p=z:=by grind[qB,Int.toNat_natCast]
theorem lF.idx {mt:List Int} {k:Nat} {z:Int} (h:mt[k]? =some z):(mt.map (AV.int .i64))[k]? =some (.int .i64 z)∧k<mt.length:=by grind
end
end
section
variable {g h:AH} {L R:List SP}
section
variable {x v:Nat} {l:List qO} {bad:Int} {mt:List Int} {s:IM} {err fin left nx:Int}
structure Rt (l:List qO) (mt:List Int) (s:IM) (V:VM) (i:qO):Prop where
  aE:zj V
  ao:X7 s.ao
  out:s.out.length≤16
  lo:s.aO.length≤100
  told:dy s.out.length s.aO
  ways:∀p∈s.aO,p.op=17→lF mt p.pc
  pc:0≤s.pc∧s.pc≤100
  op:1≤i.1∧i.1<23
  a:0≤i.2.1∧i.2.1≤7
  b:0≤i.2.2.1∧i.2.2.1≤7
  c:0≤i.2.2.2.1∧i.2.2.2.1≤100
  c7:3≤i.1∧i.1≤7→i.2.2.2.1≤7
  ne:i.1=15∨i.1=19∨i.1=18∨i.1=16→s.aO≠[]
  mt:i.1=18∨i.1=16→lF mt s.pc
end
end
section
variable {g h:AH} {L R:List SP}
theorem JJ {a:List Int} {k:Nat} (h:k<a.length):a[k]? =some (qB a (k:Int)):=by simp_all[qB,Int.toNat_natCast]
theorem Ru {x:qO} (h:kC x=true) (hx:x.1≠23):(1≤x.1∧x.1<23)∧(0≤x.2.1∧x.2.1≤7)∧(0≤x.2.2.1∧x.2.2.1≤7)∧(0≤x.2.2.2.1∧x.2.2.2.1≤40)∧(3≤x.1∧x.1≤7→x.2.2.2.1≤7):=by
 unfold kC Qb at h;simp only[Bool.and_eq_true,decide_eq_true_eq]at h;obtain⟨⟨⟨⟨h1,h2⟩,h3⟩,h4⟩,_⟩:=h;unfold xY at h2 h3 h4;by_cases c1:x.1=1∨x.1=11∨x.1=21
 ·grind
 rw[iQ c1]at h2 h3 h4;by_cases c2:x.1=2∨x.1=10
 ·grind
 rw[iQ c2]at h2 h3 h4;by_cases c3:x.1=3∨x.1=4∨x.1=5∨x.1=6∨x.1=7
 ·grind
 rw[iQ c3]at h2 h3 h4;by_cases c4:x.1=8∨x.1=9
 all_goals grind
theorem qQ9 {l:List qO} (F:Fit l) {k:Nat} (hk:k<l.length) (ho:(qM l k).1=14∨(qM l k).1=17∨(qM l k).1=18∨(qM l k).1=16):lF (qT l) (k:Int):=by
 have hl:=F.le;refine⟨k,rfl,_,JJ (by grind[Oa]),?_⟩;by_cases h:(qM l k).1=16
 ·grind[Jz]
 ·obtain⟨e,e1,_,e2,_⟩:=wN F hk omQ;grind
theorem jZO {l:List qO} {s:IM} {V:VM} (F:Fit l) (G:GI l s V) {i:Nat} (hi:s.pc=i) (ap:i<l.length) (hx:(qM l i).1≠23):Rt l (qT l) s V (qM l i):=by
 have hw:=yy (F.ok i ap);have uK:=x8 (F.ok i ap);have hb:=Ru hw.1 hx;have ei:=UG G;have h5:=Xe F i omQ;have hl:=F.le;rw[hi,Int.toNat_natCast]at ei;refine⟨G.aE,G.gb.ao,G.gb.out,by omega,G.told,?_,by omega,hb.1,hb.2.1,hb.2.2.1,by omega,hb.2.2.2.2,?_,?_⟩
 ·intro p hp mz;obtain⟨q,hq,Wp⟩:=(G.nG p hp).pc;have:=(G.nG p hp).op.2;simp_all[qQ9,omQ]
 ·intro ho h0;rw[h0]at ei;have he:0<zr (qM l i).1∨(qM l i).1=16:=by
   rcases ho with h |h |h |h
   ·exact .inl (by rw[h];decide)
   ·exact .inl (by rw[h];decide)
   ·exact .inl (by rw[h];decide)
   grind
  grind
 simp_all[qQ9,omQ]
def bO (l:List qO):Prop:=∀x∈l,x.1≠23∧0≤x.2.2.2.2∧x.2.2.2.2<18446744073709551616
theorem bO.at {l:List qO} (Q:bO l) {i:Nat} (h:i<l.length):(qM l i).1≠23∧0≤(qM l i).2.2.2.2∧(qM l i).2.2.2.2<18446744073709551616:=by rw[yw h];exact Q _ (List.getElem_mem h)
structure Wu (V:VM) (r:RM):Prop where
  gb:GB r.s
  aE:zj r.v
  sz:r.v.sz=V.sz
  K:r.v.K=V.K
  most:r.v.most=V.most
theorem Wv {l:List qO} (F:Fit l) (Q:bO l):∀(n:Nat) {s:IM} {V:VM},GI l s V→bE V.lv+n<9000→Wu V (zh l (qT l) n s V)∧bE (zh l (qT l) n s V).v.lv≤bE V.lv+n∧
  ((zh l (qT l) n s V).kind=2→(zh l (qT l) n s V).v.lv.length=1)∧
  ((zh l (qT l) n s V).kind=1→GI l (zh l (qT l) n s V).s (zh l (qT l) n s V).v∧1≤(zh l (qT l) n s V).v.aB∧(zh l (qT l) n s V).v.aB<V.sz∧zt (zh l (qT l) n s V).v.aB V.K=none)∧
  ((zh l (qT l) n s V).kind=1∨(zh l (qT l) n s V).kind=2∨(zh l (qT l) n s V).kind=3∨(zh l (qT l) n s V).kind=4):=by
 intro n
 induction n with
 |zero=>
  intro s V G hf;rw[QD]
  split
  ·rename_i h0;refine⟨⟨G.gb,G.aE,rfl,rfl,rfl⟩,by simp,λ_=>?_,λh=>(by grind),by simp⟩;have:=UG G;rw[h0,Int.toNat_natCast,F.nil]at this;have hl:=G.lv;grind
  ·exact⟨⟨G.gb,G.aE,rfl,rfl,rfl⟩,by simp,λh=>(by grind),λh=>(by grind),by simp⟩
 |succ n ih=>
  intro s V G hf;rw[QR]
  split
  ·rename_i h0;refine⟨⟨G.gb,G.aE,rfl,rfl,rfl⟩,by simp,λ_=>?_,λh=>(by cases h),by simp⟩;have:=UG G;rw[h0,Int.toNat_natCast,F.nil]at this;have hl:=G.lv;simp_all
  ·rename_i h0;obtain⟨i,hi,oQ⟩:=G.pc;have ap:i<l.length:=by omega
   rw[hi];have S:=Uz F G hi ap omQ (Q.at ap).2 (Q.at ap).1;generalize bG (qT l) s V (qM l i)=D at*
   split
   ·rename_i h1
    split
    ·exact⟨⟨⟨S.gb.ao,S.gb.out,S.gb.its⟩,S.aE,S.sz,S.K,S.most⟩,by have:=S.fr;simp;omega,λh=>(by cases h),λh=>(by cases h),by simp⟩
    ·rename_i h2;have G2:=S.next h1 (by simp_all);have BX:=S.fr;obtain⟨a,b,c,d,e⟩:=ih G2 omQ;refine⟨⟨a.gb,a.aE,a.sz.trans S.sz,a.K.trans S.K,a.most.trans S.most⟩,by omega,c,λh=>?_,e⟩;have:=d h;rw[S.sz,S.K]at this;omega
   ·split
    ·rename_i dO;obtain⟨n1,n2,n3,n4,n5⟩:=S.aB dO;refine⟨⟨S.gb,S.aE,S.sz,S.K,S.most⟩,by simp_all,λh=>(by cases h),λ_=>⟨?_,n3,n4,n5⟩,by simp⟩;show GI l D.s D.v;rw[n1];exact⟨G.gb,G.pc,G.nG,G.told,G.DB,by rw[n2];exact G.lv,S.aE⟩
    ·exact⟨⟨S.gb,S.aE,S.sz,S.K,S.most⟩,by have:=S.fr;simp;omega,λh=>(by cases h),λh=>(by cases h),by simp⟩
end
section
variable {g h:AH} {L R:List SP}
def KO:IM:=⟨[0,0,0,0,0,0,0,0],[],0,[]⟩
theorem Ww {l:List qO} {V:VM} (h1:V.lv.length=1) (G:zj V):GI l KO V :=
 ⟨⟨⟨rfl,by trivial⟩,Nat.zero_le _,λx hx=>by cases hx⟩,⟨0,rfl,Nat.zero_le _⟩,(λp hp=>by cases hp),trivial,rfl,h1,G⟩
def Xq (fuel:Int):Nat:=(max 0 (min fuel 400)).toNat
end
section
abbrev dz:Type:=Int×Bool×Int
structure dj where
  kind:Int
  at_:Int
  bU:Int
  word:Int
  aw:dz
  lk:dz
structure cB where
  word:Int
  lk:dz
  done:Bool
  err:Int
structure zG where
  w:List Int
  l:List dz
  n:Int
  s:List Int
  aN:Int
def cC:dz:=(0,false,0)
def bx (kind at_ word:Int):dj:=⟨kind,at_,0,word,cC,cC⟩
def cO:cB:=⟨0,cC,false,0⟩
def ng (e:Int):cB:=⟨0,cC,false,e⟩
def kB (l:dz):Prop:=l.1<4611686018427387904∧(if l.2.1=true then 0≤l.2.2∧l.2.2<4 else l.2.2=0)
instance {l:dz}:Decidable (kB l):=by unfold kB;infer_instance
def jj (l:List dz) (i:Int):dz:=(l[i.toNat]?).getD cC
def Xm (m:zG) (o:dj):cB×zG :=
 if o.at_<1∨(m.w.length:Int)≤o.at_ then(ng 2,m)else if o.kind=1 then(⟨qB m.w o.at_,cC,false,0⟩,m)else(cO,{ m with w:=m.w.set o.at_.toNat o.word })
def Xp (m:zG) (o:dj):cB×zG :=
 if o.at_<0∨(m.l.length:Int)≤o.at_ then(ng 2,m)
 else if o.kind=3 then(⟨0,jj m.l o.at_,false,0⟩,m)
 else if¬kB o.lk then(ng 1,m)
 else if o.kind=5 then(cO,{ m with l:=m.l.set o.at_.toNat o.lk })
 else if jj m.l o.at_≠o.aw then(cO,m)
 else(⟨0,cC,true,0⟩,{ m with l:=m.l.set o.at_.toNat o.lk })
def YA (m:zG) (o:dj):cB×zG :=
 if o.kind=6 then(⟨m.n,cC,false,0⟩,m)
 else if o.word≤o.bU then(ng 1,m)
 else if 4611686018427387904≤o.word then(ng 7,m)
 else if m.n≠o.bU then(cO,m)
 else(⟨0,cC,true,0⟩,{ m with n:=o.word })
def VJ (m:zG) (o:dj):cB×zG :=
 if o.at_<0∨(m.s.length:Int)≤o.at_ then(ng 2,m)else if o.kind=8 then(⟨qB m.s o.at_,cC,false,0⟩,m)else(cO,{ m with s:=m.s.set o.at_.toNat o.word })
def qR (m:zG) (o:dj):cB×zG :=
 let r:=if o.kind=1∨o.kind=2 then Xm m o else if o.kind=3∨o.kind=4∨o.kind=5 then Xp m o else if o.kind=6∨o.kind=7 then YA m o else if o.kind=8∨o.kind=9 then VJ m o else(ng 1,m)
 if r.1.err=0 then(r.1,{ r.2 with aN:=r.2.aN+1 })else r
def ofM (at_ n wide:Int):Int:=if at_<0 then-1 else(at_/max 1 (min wide 16))%max 1 (min n 16)
def xn (cs:List Cl) (n wide:Int):List Int:=((List.range 16).map λi:Nat=>(i:Int)).filter λs=>cs.any λc=>decide (ofM c.1 n wide=s)
structure Qd where
  me:Int
  spins:Int
  fin:Int
  bH:Int
  err:Int
def Uv (me spins:Int):Qd:=⟨me,max 0 (min spins 4),0,-1,0⟩
def jQ (p:Qd) (l:dz):Bool×Qd:=if p.me<l.2.2 then(true,p)else(decide (0≤p.spins-1),{ p with spins:=p.spins-1 })
def jI (p:Qd) (fin err bH:Int):Qd:={ p with fin:=fin,err:=err,bH:=bH }
def jJ (p:Qd) (a:cB):Bool×Qd:=if p.fin=0∧a.err≠0 then(true,jI p 4 a.err (-1))else(decide (p.fin≠0),p)
abbrev z6:Type:=Int×Int
structure QE where
  p:Qd
  at_:Int
  aA:Int
  aa:Int
  state:Int
  lk:dz
  word:Int
def EX (me at_ aA spins aa:Int):QE:=⟨Uv me spins,at_,aA,aa,0,cC,0⟩
def Qf (f:QE):Option dj:=if f.p.fin≠0 then none else if f.state=1 then some (bx 1 f.at_ 0)else some (bx 3 f.aA 0)
def w9 (f:QE) (l:dz):QE :=
 if l.2.1=true then(if(jQ f.p l).1=true then{ f with state:=0,p:=(jQ f.p l).2 }else{ f with state:=0,p:=jI (jQ f.p l).2 5 0 l.2.2 })
 else if f.aa<l.1 then{ f with state:=0,p:=jI f.p 6 0 (-1) }
 else{ f with lk:=l,state:=1 }
def zC (f:QE) (a:cB):QE :=
 if(jJ f.p a).1=true then{ f with p:=(jJ f.p a).2 }
 else if f.state=1 then{ f with word:=a.word,state:=2 }
 else if f.state=2∧a.lk=f.lk then{ f with p:=jI f.p 2 0 (-1) }
 else w9 f a.lk
def yj (f:QE):Int:=if f.p.fin≠2 then 0 else f.word
def xl (f:QE):z6:=if f.p.fin≠2 then(0,0)else(f.aA,f.lk.1)
structure wc where
  p:Qd
  seen:List z6
  aU:Bool
  at_:Int
  aa:Int
def BZ (me spins:Int) (seen:List z6):wc:=⟨Uv me spins,seen,false,0,0⟩
def zW (l:List z6) (i:Int):z6:=(l[i.toNat]?).getD (0,0)
def Qi (x:wc):Option dj:=if x.p.fin≠0 then none else if x.aU=false then some (bx 6 0 0)else some (bx 3 (zW x.seen x.at_).1 0)
def Qg (x:wc):wc:=if x.at_=(x.seen.length:Int)then{ x with p:=jI x.p 2 0 (-1) }else x
def zS (x:wc) (a:cB):wc :=
 if(jJ x.p a).1=true then{ x with p:=(jJ x.p a).2 }
 else if x.aU=false then Qg { x with aU:=true,aa:=a.word }
 else if a.lk.2.1=true then(if(jQ x.p a.lk).1=true then{ x with p:=(jQ x.p a.lk).2 }else{ x with p:=jI (jQ x.p a.lk).2 5 0 a.lk.2.2 })
 else if a.lk.1≠(zW x.seen x.at_).2 then{ x with p:=jI x.p 5 0 (-1) }
 else Qg { x with at_:=x.at_+1 }
def yT (x:wc):Int:=if x.p.fin≠2 then 0 else x.aa
structure jX where
  p:Qd
  me:Int
  aa:Int
  seen:List z6
  cells:List Cl
  s:List Int
  aw:List dz
  state:Int
  at_:Int
  lk:dz
  now:Int
  ag:Bool
  bn:Int
  oT:Int
  fC:Int
def zk (c:jX):jX:={ c with state:=if c.aw.length=c.s.length then 2 else 0 }
def Xz (me spins aa:Int) (seen:List z6) (cells:List Cl) (n wide:Int):jX :=
 zk ⟨Uv me spins,me,aa,seen,cells,xn cells n wide,[],0,0,cC,0,false,0,0,0⟩
def yp (l:List Cl) (i:Int):Cl:=(l[i.toNat]?).getD (0,0)
def yq (c:jX):Option dj :=
 if c.p.fin≠0 then none
 else if c.state=0 then some (bx 3 (qB c.s c.aw.length) 0)
 else if c.state=1 then some ⟨4,qB c.s c.aw.length,0,0,c.lk,(c.lk.1,true,c.me)⟩
 else if c.state=2 then some (bx 6 0 0)
 else if c.state=3 then some ⟨7,0,c.now,c.now+1,cC,cC⟩
 else if c.state=4 then some (bx 3 (zW c.seen c.at_).1 0)
 else if c.state=5 then some (bx 2 (yp c.cells c.at_).1 (yp c.cells c.at_).2)
 else if c.state=6 then some ⟨5,qB c.s c.at_,0,0,cC,(c.now+1,false,0)⟩
 else some ⟨5,qB c.s c.at_,0,0,cC,jj c.aw c.at_⟩
def xK (c:jX):jX:=if c.at_=(c.aw.length:Int)then{ c with p:=jI c.p c.bn c.fC c.oT }else c
def zH (c:jX) (fin err bH:Int):jX:=xK { c with bn:=fin,fC:=err,oT:=bH,at_:=0,state:=7 }
def xq (c:jX) (l:dz):jX:=if(jQ c.p l).1=true then{ c with p:=(jQ c.p l).2 }else zH { c with p:=(jQ c.p l).2 } 5 0 l.2.2
def zo (c:jX):jX:=if c.at_=(c.s.length:Int)then{ c with p:=jI c.p 2 0 (-1) }else c
def zV (c:jX):jX:=if c.at_=(c.cells.length:Int)then zo { c with at_:=0,state:=6 }else c
def zf (c:jX):jX:=zV { c with ag:=true,at_:=0,state:=5 }
def XH:List Int→List dz→Int→Option Int
 |s::r,w::q,x=>if s=x then some w.1 else XH r q x
 |_,_,_=>none
def zv (c:jX):Nat→jX
 | 0=>zf c
 |n+1=>
  if c.at_<(c.seen.length:Int)then
   (match XH c.s c.aw (zW c.seen c.at_).1 with
   |none=>c
   |some v=>if v≠(zW c.seen c.at_).2 then zH c 5 0 (-1)else zv { c with at_:=c.at_+1 } n)
  else zf c
def xm (c:jX):jX:=zv { c with state:=4 } (c.seen.length+1)
def yf (c:jX) (a:cB):jX :=
 if c.state=0∧a.lk.2.1=true then xq c a.lk
 else if c.state=0 then{ c with lk:=a.lk,state:=1 }
 else if a.done=true then zk { c with aw:=c.aw++[c.lk] }
 else{ c with state:=0 }
def yC (c:jX) (a:cB):jX :=
 if c.state=2∧4611686018427387903≤a.word then zH c 4 7 (-1)
 else if c.state=2 then{ c with now:=a.word,state:=3 }
 else if a.done=false then{ c with state:=2 }
 else if c.now=c.aa then zf c
 else xm c
def xe (c:jX) (l:dz):jX :=
 if l.2.1=true then xq c l
 else if l.1≠(zW c.seen c.at_).2 then zH c 5 0 (-1)
 else xm { c with at_:=c.at_+1 }
def jV (c:jX) (a:cB):jX :=
 if(jJ c.p a).1=true then{ c with p:=(jJ c.p a).2 }
 else if c.state=0∨c.state=1 then yf c a
 else if c.state=2∨c.state=3 then yC c a
 else if c.state=4 then xe c a.lk
 else if c.state=5 then zV { c with at_:=c.at_+1 }
 else if c.state=6 then zo { c with at_:=c.at_+1 }
 else xK { c with at_:=c.at_+1 }
def vF (c:jX):Int:=if c.ag=false then 0 else c.now+1
def xG (c:jX):Bool:=c.ag&&decide (c.p.fin=0)
structure je where
  words:Int
  ae:Int
  wide:Int
  ad:Int
  start:Int
  spins:Int
  writes:Int
  fuel:Int
def gJ (n lo hi:Int):Int:=max lo (min n hi)
def jT (s:je):je:=⟨gJ s.words 32 256,gJ s.ae 1 16,gJ s.wide 1 16,gJ s.ad 1 4,min s.start 4611686018427387903,gJ s.spins 0 4,gJ s.writes 0 96,gJ s.fuel 0 400⟩
structure I4 where
  l:List qO
  s:IM
  fin:Int
  err:Int
  left:Nat
inductive Xn where
  |prog (r:I4)
  |ay (blocks:List Int) (k:Nat)
structure q9 where
  me:Int
  set:je
  aD:Xn
  v:VM
  r:List z6
  state:Int
  f:QE
  e:wc
  c:Option jX
  begun:Bool
  aI:Int
  aa:Int
  fin:Int
  bH:Int
  err:Int
  aL:Bool
def KK (me:Int) (S:je) (aD:Xn):q9:=⟨me,S,aD,BV S.words S.writes,[],0,EX 0 0 0 0 0,BZ 0 0 [],none,false,0,0,0,-1,0,false⟩
def Jm (me:Int) (S:je) (l:List qO):q9:=KK me (jT S) (.prog ⟨l,KO,0,0,Xq (jT S).fuel⟩)
def QG (me:Int) (S:je) (bs:List Int):q9:=KK me (jT S) (.ay bs 0)
def zp (x:q9):Option dj :=
 if x.state=0 then some (bx 9 x.me 1)
 else if x.state=1 then some (bx 6 0 0)
 else if x.state=2 then some (bx 9 x.me (zu .u64 (x.aa+1)))
 else if x.state=7 then some (bx 9 x.me 0)
 else if x.state=8 then none
 else if x.state=3 then Qf x.f
 else if x.state=6 then x.c.bind yq
 else Qi x.e
def z4 (x:q9) (fin err bH:Int):q9:={ x with fin:=fin,err:=err,bH:=bH,state:=7 }
def Xi (x:q9) (at_:Int):q9:={ x with state:=3,f:=EX x.me at_ (ofM at_ x.set.ae x.set.wide) x.set.spins x.aa }
def Qz (x:q9) (state:Int):q9:={ x with state:=state,e:=BZ x.me x.set.spins x.r }
def xP:VM→List Int→Nat→(Nat×Int)×VM
 |V,[],k=>((k,0),V)
 |V,b::r,k=>if(yM V b).1=0 then xP (yM V b).2 r (k+1)else((k,(yM V b).1),(yM V b).2)
def zl (x:q9):(Int×Int)×q9:=match x.aD with
 | .ay bs k=>(if(xP x.v (bs.drop k) k).1.2=11 then(1,0)else if(xP x.v (bs.drop k) k).1.2=0 then(2,0)else(4,(xP x.v (bs.drop k) k).1.2),{ x with aD:=.ay bs (xP x.v (bs.drop k) k).1.1,v:=(xP x.v (bs.drop k) k).2 })
 | .prog q=>(((zh q.l (qT q.l) q.left q.s x.v).kind,(zh q.l (qT q.l) q.left q.s x.v).err),{ x with
   aD:=.prog ⟨q.l,(zh q.l (qT q.l) q.left q.s x.v).s,if(zh q.l (qT q.l) q.left q.s x.v).kind=1 then 0 else(zh q.l (qT q.l) q.left q.s x.v).kind,(zh q.l (qT q.l) q.left q.s x.v).err,(zh q.l (qT q.l) q.left q.s x.v).left⟩,
   v:=(zh q.l (qT q.l) q.left q.s x.v).v })
def xx (x:q9) (k e:Int):q9 :=
 if k=1 then Xi x x.v.aB
 else if k=3 then Qz { x with aL:=true } 5
 else if k=4 then z4 x 4 e (-1)
 else if jP x.v.lv=[]then z4 x 2 0 (-1)
 else{ x with state:=6,c:=some (Xz x.me x.set.spins x.aa x.r (jP x.v.lv) x.set.ae x.set.wide) }
def yX (x:q9):q9:=xx (zl x).2 (zl x).1.1 (zl x).1.2
def gE (r:List z6) (x:z6):Int×List z6 :=
 if x.1<0∨16≤x.1∨4611686018427387904≤x.2 then(1,r)
 else match r.find? λy=>decide (y.1=x.1)with
  |some y=>if y.2≠x.2 then(14,r)else(0,r)
  |none=>if r.length=16 then(5,r)else(0,r++[x])
def zZ (x:q9):q9 :=
 if x.f.p.fin=6 then Qz x 4
 else if(gE x.r (xl x.f)).1=0 then yX { x with r:=(gE x.r (xl x.f)).2,v:=(yE x.v x.v.aB (yj x.f)).2 }
 else if(gE x.r (xl x.f)).1=14 then z4 x 5 0 (-1)
 else z4 x 4 (gE x.r (xl x.f)).1 (-1)
def zd (x:q9):Int×Int:=if x.state=3 then(x.f.p.fin,x.f.p.bH)else if x.state=6 then(match x.c with |some c=>(c.p.fin,c.p.bH) |none=>(0,0))else(x.e.p.fin,x.e.p.bH)
def jd (x:q9):q9 :=
 if x.state=3 then zZ x
 else if x.state=4 then Xi { x with aa:=yT x.e } x.v.aB
 else if x.state=5 then z4 { x with aa:=yT x.e } 3 0 (-1)
 else match x.c with |some c=>z4 x c.p.fin c.p.err (-1) |none=>x
def qS (x:q9):Bool:=decide (x.state≠8)&&(match x.c with |some c=>xG c||decide (c.p.fin=2) |none=>false)
def jZ (x:q9):q9:=if qS x=true then(match x.c with |some c=>{ x with aa:=vF c } |none=>x)else x
def jz (x:q9):q9:=jZ (if(zd x).1=0 then x else if(zd x).1=5 then z4 x 5 0 (zd x).2 else jd x)
def qd (x:q9) (a:cB):q9 :=
 if x.state=8 then x
 else if a.err≠0 then{ z4 x 4 a.err (-1)with state:=8 }
 else if x.state=0 then{ x with state:=1 }
 else if x.state=1 then{ x with begun:=true,aI:=a.word,aa:=a.word,state:=2 }
 else if x.state=2 then yX x
 else if x.state=7 then{ x with state:=8 }
 else if x.state=3 then jz { x with f:=zC x.f a }
 else if x.state=6 then jz { x with c:=x.c.map λc=>jV c a }
 else jz { x with e:=zS x.e a }
def jf (x:q9):Int:=if x.state≠8 then 0 else x.fin
def yZ (x:q9):Bool:=decide (jf x=2)||qS x
def yS (x:q9):List Cl:=if yZ x=true then jP x.v.lv else[]
def jG (x:q9):List Int:=if yZ x=true then(match x.aD with | .ay bs _=>bs | .prog _=>JW x.v.lv)else[]
def y7 (x:q9):List UInt8:=if yZ x=true then(match x.aD with | .ay _ _=>[] | .prog q=>IV q.s.out)else[]
end
section
variable {g h:AH} {L R:List SP}
def yb (l:dz):List AV:=[.int .u64 l.1,.bool l.2.1,.int .i64 l.2.2]
def xB (o:dj):List AV:=[.int .i64 o.kind,.int .i64 o.at_,.int .u64 o.bU,.int .u64 o.word,.int .u64 o.aw.1,.bool o.aw.2.1,.int .i64 o.aw.2.2,.int .u64 o.lk.1,.bool o.lk.2.1,.int .i64 o.lk.2.2]
def zY (a:cB):List AV:=[.int .u64 a.word,.int .u64 a.lk.1,.bool a.lk.2.1,.int .i64 a.lk.2.2,.bool a.done,.int .i64 a.err]
theorem qyU {l:List dz} {k:Nat} (hk:k<l.length):l[k]? =some (jj l (k:Int)):=by simp_all[jj,Int.toNat_natCast]
theorem ZS {l:List dz} {k:Nat} (hk:k<l.length):((l.flatMap yb).drop (k*3)).take 3=yb (jj l (k:Int)):=w5 (sz:=3) (enc:=yb) (λ_=>rfl) (qyU hk)
section
variable {n b m:Nat} {v:AV} {a:Int} {e:TypeId} {xs:List AV} {R2:List SP}
theorem Ge {w o:Int}:kB (w,true,o)↔w<4611686018427387904∧0≤o∧o<4:=by rfl
theorem Uh {w o:Int}:kB (w,false,o)↔w<4611686018427387904∧o=0:=by rfl
variable {ls:List dz} {wd:AV}
theorem jQu (x y:dz):yV [.nK .int 0,.nK .bool 1,.nK .int 2] (yb x) (yb y)=some (decide (x=y)):=by obtain⟨a,b,c⟩:=x;obtain⟨a',b',c'⟩:=y;show(bif ny a a' then(bif b==b' then(bif ny c c' then some true else some false)else some false)else some false)=_;rw[GN,GN];by_cases h1:a=a'<;>by_cases h3:c=c'<;>cases b<;>cases b'<;>simp[h1,h3]
end
end
section
variable {g h:AH} {L R:List SP}
def I5 (o:Option dj):AV:=.cA [.agg (xB (o.getD (bx 0 0 0))),.bool o.isSome]
def Ng (p:Qd):Prop:=p.fin=0→0≤p.spins∧p.spins≤4
section
variable {n b:Nat} {f:QE}
def vW (x:z6):List AV:=[.int .i64 x.1,.int .u64 x.2]
end
end
section
variable {g h:AH} {L R:List SP}
theorem jQI {f:Int→AV} (hf:∀x,(f x).one=true):∀l:List Int,jW (l.map f)=true:=by grind[jW,List.all_map,List.all_eq_true]
theorem Mu {α:Type} {f:α→List AV} (hf:∀x,jW (f x)=true):∀l:List α,jW (l.flatMap f)=true:=by
 grind[jW]
section
variable {n p hb tb cb sb:Nat} {wv lv sv:AV} {S:je} {M:zG} {o:dj}
def gX (M:zG) (o:dj):cB×zG:=if o.kind=1∨o.kind=2 then Xm M o else if o.kind=3∨o.kind=4∨o.kind=5 then Xp M o else if o.kind=6∨o.kind=7 then YA M o else if o.kind=8∨o.kind=9 then VJ M o else(ng 1,M)
theorem gG:qR M o=if(gX M o).1.err=0 then((gX M o).1,{ (gX M o).2 with aN:=(gX M o).2.aN+1 })else gX M o:=rfl
theorem qZ4:(gX M o).2.aN=M.aN:=by
 grind[gX,Xm,Xp,YA,VJ]
end
end
section
variable {g h:AH} {L R:List SP}
theorem qZu {p n w:Int} (h:0≤p):0≤ofM p n w∧ofM p n w<16:=by unfold ofM;rw[iQ omQ];have h1:=Int.emod_nonneg (p/max 1 (min w 16)) (show max 1 (min n 16)≠0 by omega);have h2:=Int.emod_lt_of_pos (p/max 1 (min w 16)) (show 0<max 1 (min n 16) by omega);omega
theorem Zt {cs:List Cl} {n w:Int}:(xn cs n w).Pairwise (· < ·):=by unfold xn;refine List.Pairwise.filter _ ?_;trivial
theorem Jr {cs:List Cl} {n w:Int} (h:∀c∈cs,0≤c.1) {x:Int}:x∈xn cs n w↔x∈cs.map λc=>ofM c.1 n w:=by unfold xn;rw[List.mem_filter,List.any_eq_true,List.mem_map,List.mem_map];refine⟨λ⟨_,c,hc,e⟩=>⟨c,hc,by grind⟩,λ⟨c,hc,e⟩=>⟨?_,c,hc,by grind⟩⟩;have:=qZu (n:=n) (w:=w) (h c hc);exact⟨x.toNat,List.mem_range.2 omQ,by omega⟩
end
section
variable {g h:AH} {L R:List SP}
theorem qj5 {l:List z6} {k:Nat} (hk:k<l.length):((l.flatMap vW).drop (k*2)).take 2=vW (zW l (k:Int)):=w5 (sz:=2) (enc:=vW) (λ_=>rfl) (by simp_all[zW,Int.toNat_natCast])
theorem JQ {l:List z6} {k:Nat} (hk:k<l.length):(l.flatMap vW)[k*2+0]? =some (.int .i64 (zW l (k:Int)).1)∧(l.flatMap vW)[k*2+1]? =some (.int .u64 (zW l (k:Int)).2):=by
 have e:=qj5 hk;have hl:(l.flatMap vW).length=l.length*2:=wo (sz:=2) vW (λ_=>rfl) (l:=l);constructor
 ·have:=congrArg (·[0]?) e;simp only[List.getElem?_take_of_lt (show 0<2 by omega),List.getElem?_drop]at this;trivial
 ·have:=congrArg (·[1]?) e;simp only[List.getElem?_take_of_lt (show 1<2 by omega),List.getElem?_drop]at this;trivial
section
variable {n b:Nat} {r:List z6} {x:z6}
theorem qyt {r:List z6} {i:Nat} {st:Int} {y:z6} (hb:∀z∈r.take i,z.1≠st) (hi:r[i]? =some y) (hy:y.1=st):r.find? (λz=>decide (z.1=st))=some y:=by
 obtain⟨ap,e⟩:=List.getElem?_eq_some_iff.1 hi;have h1:(r.take i).find? (λz=>decide (z.1=st))=none:=List.find?_eq_none.2 λz hz=>by grind
 have h2:r=r.take i++y::r.drop (i+1):=by grind[List.drop_eq_getElem_cons,List.take_append_drop]
 grind
end
structure Ns (x:wc):Prop where
  p:Ng x.p
  lo:0≤x.at_
  hi:x.at_≤1000
  len:x.seen.length≤16
  le:x.at_≤x.seen.length
  mH:x.p.fin=0→x.aU=true→x.at_<x.seen.length
section
variable {n b:Nat} {x:wc}
theorem NG {p:Qd} {a:cB} (hs:(jJ p a).1=false):(jJ p a).2=p∧p.fin=0:=by
 unfold jJ at hs ⊢
 grind
end
end
section
variable {g h:AH} {L R:List SP}
structure ComL (c:jX):Prop where
  seen:c.seen.length≤16
  cells:c.cells.length≤1000
  s:c.s.length≤16
  aw:c.aw.length≤c.s.length
  pos:0<c.s.length
  dw:c.s.Pairwise (· < ·)
  lo:0≤c.at_
  hi:c.at_≤1000
  now:0≤c.now∧c.now<9223372036854775807
def zi (fin spins state at_ now bn:Int) (sl cl tl wl:Nat):Prop :=
 (sl≤16∧cl≤1000∧tl≤16∧wl≤tl∧0<tl∧0≤at_∧at_≤1000∧0≤now∧now<9223372036854775807∧0≤state∧state≤7)∧(fin=0→state≤6→0≤spins∧spins≤4)∧(fin=0→state≤1→wl<tl)∧(state≤4→at_≤sl)∧
 (2≤state→state≤6→wl=tl)∧(fin=0→state=4→at_<sl)∧(fin=0→state=5→at_<cl)∧(fin=0→state=6→at_<tl)∧(fin=0→state=7→at_<wl)∧(state=7→bn≠0)
structure xf (c:jX):Prop where
  dw:c.s.Pairwise (· < ·)
  ar:zi c.p.fin c.p.spins c.state c.at_ c.now c.bn c.seen.length c.cells.length c.s.length c.aw.length
section
variable {c:jX} (O:xf c)
include O
theorem xf.toComL:ComL c:=by have h:=O.ar;unfold zi at h;exact⟨by omega,by omega,by omega,by omega,by omega,O.dw,by omega,by omega,by omega⟩
theorem xf.p (hg:c.p.fin=0) (hs:c.state≤6):0≤c.p.spins∧c.p.spins≤4:=by have h:=O.ar;grind[zi]
theorem xf.hJ (hg:c.p.fin=0) (hs:c.state≤1):c.aw.length<c.s.length:=by have h:=O.ar;grind[zi]
theorem xf.Rv (h1:2≤c.state) (h2:c.state≤4):c.aw.length=c.s.length∧c.at_≤c.seen.length:=by have h:=O.ar;grind[zi]
theorem xf.DD (hg:c.p.fin=0) (hs:c.state=4):c.at_<c.seen.length:=by have h:=O.ar;grind[zi]
theorem xf.Rw (hg:c.p.fin=0) (hs:c.state=5):c.at_<c.cells.length:=by have h:=O.ar;grind[zi]
theorem xf.Rx (hg:c.p.fin=0) (hs:c.state=6):c.at_<c.s.length:=by have h:=O.ar;grind[zi]
theorem xf.Ry (hg:c.p.fin=0) (hs:c.state=7):c.at_<c.aw.length:=by have h:=O.ar;grind[zi]
theorem xf.st:0≤c.state∧c.state≤7:=by have h:=O.ar;grind[zi]
theorem xf.s:c.s.length≤16:=O.toComL.s
theorem xf.aw:c.aw.length≤c.s.length:=O.toComL.aw
theorem xf.seen:c.seen.length≤16:=O.toComL.seen
theorem xf.lo:0≤c.at_:=O.toComL.lo
theorem xf.hi:c.at_≤1000:=O.toComL.hi
theorem xf.now:0≤c.now∧c.now<9223372036854775807:=O.toComL.now
end
end
section
variable {g h:AH} {L R:List SP}
theorem qZR {l:List Cl} {k:Nat} (hk:k<l.length):(l.flatMap jH)[k*2+0]? =some (.int .i64 (yp l (k:Int)).1)∧(l.flatMap jH)[k*2+1]? =some (.int .u64 (yp l (k:Int)).2):=by
 have e:((l.flatMap jH).drop (k*2)).take 2=jH (yp l (k:Int)):=w5 (sz:=2) (enc:=jH) (λ_=>rfl) (by simp_all[yp,Int.toNat_natCast]);constructor
 ·have:=congrArg (·[0]?) e;simp only[List.getElem?_take_of_lt (show 0<2 by omega),List.getElem?_drop]at this;trivial
 ·have:=congrArg (·[1]?) e;simp only[List.getElem?_take_of_lt (show 1<2 by omega),List.getElem?_drop]at this;trivial
end
section
def vB (a:cB):Prop:=0≤a.word∧a.word<18446744073709551616
theorem Jf {p:Qd} {a:cB} (h:(jJ p a).1=true):(jJ p a).2.fin≠0:=by
 unfold jJ at h ⊢
 split
 ·nofun
 grind
theorem Wx {p:Qd} {l:dz} (hp:0≤p.spins∧p.spins≤4) (h:(jQ p l).1=true):(jQ p l).2.fin=p.fin∧0≤(jQ p l).2.spins∧(jQ p l).2.spins≤4:=by
 unfold jQ at h ⊢
 grind
theorem qGm {me sp:Int}:Ng (Uv me sp):=λ_=>by show 0≤max 0 (min sp 4)∧max 0 (min sp 4)≤4;omega
theorem GO {p:Qd} {f e y:Int} (h:f≠0):Ng (jI p f e y):=λhf=>absurd hf h
theorem KX {f:QE} {a:cB} (hp:Ng f.p):Ng (zC f a).p:=by
 unfold zC;cases hs:(jJ f.p a).1 with
 |true=>rw[iJ rfl];exact λh=>absurd h (Jf hs)
 |false=>
  rw[iQ aM];have hg:=(NG hs).2;unfold w9
  split
  ·grind
  ·split
   ·nofun
   ·split
    ·split
     ·rename_i hw;exact λ_=>(Wx (hp hg) hw).2
     nofun
    ·split
     all_goals simp_all[GO,od]
theorem qg3 {me sp:Int} {r:List z6} (hr:r.length≤16):Ns (BZ me sp r):=⟨qGm,Int.le_refl _,by show(0:Int)≤1000;simp,hr,by show(0:Int)≤_;omega,λ_ h=>by cases h⟩
theorem qXF {x:wc} (hp:Ng x.p) (h0:0≤x.at_) (h1:x.at_≤x.seen.length) (hr:x.seen.length≤16):Ns (Qg x):=by
 unfold Qg
 split
 ·exact⟨GO od,h0,by grind,hr,h1,λh=>by cases h⟩
 ·exact⟨hp,h0,by omega,hr,h1,λ_ _=>by omega⟩
theorem Kj {x:wc} {a:cB} (O:Ns x):Ns (zS x a):=by
 unfold zS;cases hs:(jJ x.p a).1 with
 |true=>rw[iJ rfl];exact⟨λh=>absurd h (Jf hs),O.lo,O.hi,O.len,O.le,λh=>absurd h (Jf hs)⟩
 |false=>
  rw[iQ aM];have hg:=(NG hs).2;have fh:=O.lo;have l8:=O.hi;have hlen:=O.len
  split
  ·exact qXF (x:={ x with aU:=true,aa:=a.word }) O.p fh O.le hlen
  ·rename_i hl;have hl:x.aU=true:=by grind
   have dY:=O.mH hg hl
   split
   ·split
    ·rename_i hw;have:=Wx (O.p hg) hw;exact⟨λ_=>this.2,fh,l8,hlen,O.le,λ_ _=>dY⟩
    ·exact⟨GO od,fh,l8,hlen,O.le,λh=>by grind⟩
   ·split
    ·exact⟨GO od,fh,l8,hlen,O.le,λh=>by grind⟩
    ·exact qXF (x:={ x with at_:=x.at_+1 }) O.p (by grind) (by grind) hlen
section
variable {c:jX}
theorem ZW (r:c.s.Pairwise (· < ·)) (h:zi 1 c.p.spins 6 c.at_ c.now c.bn c.seen.length c.cells.length c.s.length c.aw.length) (hs:c.state=6) (hp:0≤c.p.spins∧c.p.spins≤4) (ha:c.at_≤c.s.length):xf (zo c):=by
 unfold zo;unfold zi at h
 split
 ·refine⟨r,?_⟩;show zi 2 c.p.spins c.state c.at_ c.now c.bn c.seen.length c.cells.length c.s.length c.aw.length;grind[zi]
 ·refine⟨r,?_⟩;grind[zi]
theorem MM (r:c.s.Pairwise (· < ·)) (h:zi 1 c.p.spins 5 c.at_ c.now c.bn c.seen.length c.cells.length c.s.length c.aw.length) (hs:c.state=5) (hp:0≤c.p.spins∧c.p.spins≤4) (ha:c.at_≤c.cells.length):xf (zV c):=by
 unfold zV;unfold zi at h
 split
 ·refine ZW (c:={ c with at_:=0,state:=6 }) r ?_ rfl hp (by simp);grind[zi]
 ·refine⟨r,?_⟩;grind[zi]
theorem G7 (r:c.s.Pairwise (· < ·)) (h:zi 1 c.p.spins 4 c.at_ c.now c.bn c.seen.length c.cells.length c.s.length c.aw.length) (hp:0≤c.p.spins∧c.p.spins≤4):xf (zf c):=by unfold zf;unfold zi at h;refine MM (c:={ c with ag:=true,at_:=0,state:=5 }) r ?_ rfl hp (by simp);grind[zi]
theorem ME (r:c.s.Pairwise (· < ·)) (h:zi 1 c.p.spins 7 c.at_ c.now c.bn c.seen.length c.cells.length c.s.length c.aw.length) (hs:c.state=7) (ha:c.at_≤c.aw.length):xf (xK c):=by
 unfold xK;unfold zi at h
 split
 ·refine⟨r,?_⟩;show zi c.bn c.p.spins c.state c.at_ c.now c.bn c.seen.length c.cells.length c.s.length c.aw.length;grind[zi]
 ·refine⟨r,?_⟩;grind[zi]
theorem GA {f e y:Int} (r:c.s.Pairwise (· < ·)) (h:zi 1 c.p.spins c.state c.at_ c.now c.bn c.seen.length c.cells.length c.s.length c.aw.length) (hf:f≠0):xf (zH c f e y):=by unfold zH;unfold zi at h;refine ME (c:={ c with bn:=f,fC:=e,oT:=y,at_:=0,state:=7 }) r ?_ rfl (by simp);grind[zi]
theorem xf.dead (O:xf c):zi 1 c.p.spins c.state c.at_ c.now c.bn c.seen.length c.cells.length c.s.length c.aw.length:=by have h:=O.ar;grind[zi]
theorem OX {l:dz} (O:xf c) (hg:c.p.fin=0) (hs:c.state≤6):xf (xq c l):=by
 unfold xq;have h:=O.ar
 split
 ·rename_i hw;have:=Wx (O.p hg hs) hw;refine⟨O.dw,?_⟩;show zi (jQ c.p l).2.fin (jQ c.p l).2.spins c.state c.at_ c.now c.bn c.seen.length c.cells.length c.s.length c.aw.length;grind[zi]
 ·refine GA (c:={ c with p:=(jQ c.p l).2 }) O.dw ?_ od;grind[zi,jQ]
theorem qJN (r:c.s.Pairwise (· < ·)):∀(m:Nat) (a:Int),zi 1 c.p.spins 4 a c.now c.bn c.seen.length c.cells.length c.s.length c.aw.length→(0≤c.p.spins∧c.p.spins≤4)→xf (zv { c with state:=4,at_:=a } m):=by
 intro m
 induction m with
 |zero=>intro a h hp;exact G7 (c:={ c with state:=4,at_:=a }) r h hp
 |succ m ih=>
  intro a h hp;unfold zv;dsimp only
  split
  ·rename_i ap
   split
   ·refine⟨r,?_⟩;grind[zi]
   ·split
    ·simp_all[GA,od]
    grind[zi]
  grind[G7]
theorem My (r:c.s.Pairwise (· < ·)) (h:zi 1 c.p.spins 4 c.at_ c.now c.bn c.seen.length c.cells.length c.s.length c.aw.length) (hp:0≤c.p.spins∧c.p.spins≤4):xf (xm c):=qJN r _ c.at_ h hp
set_option maxHeartbeats 4000000 in
theorem yR {a:cB} (O:xf c) (ha:vB a):xf (jV c a):=by
 have h:=O.ar;have hd:=O.dead;unfold jV;cases hs:(jJ c.p a).1 with
 |true=>rw[iJ rfl];have hf:=Jf hs;refine⟨O.dw,?_⟩;show zi (jJ c.p a).2.fin (jJ c.p a).2.spins c.state c.at_ c.now c.bn c.seen.length c.cells.length c.s.length c.aw.length;unfold zi at h ⊢;omega
 |false=>
  rw[iQ aM];have hg:=(NG hs).2;have ha:=ha.1;rw[hg]at h
  split
  ·rename_i bK;unfold yf
   split
   ·exact OX O hg omQ
   ·split
    ·refine⟨O.dw,?_⟩;show zi c.p.fin c.p.spins 1 c.at_ c.now c.bn c.seen.length c.cells.length c.s.length c.aw.length;rw[hg];unfold zi at h ⊢;omega
    ·split
     ·unfold zk;dsimp only;have hl:(c.aw++[c.lk]).length=c.aw.length+1:=by simp
      split
      ·refine⟨O.dw,?_⟩;show zi c.p.fin c.p.spins 2 c.at_ c.now c.bn c.seen.length c.cells.length c.s.length (c.aw++[c.lk]).length;rw[hg];unfold zi at h ⊢;omega
      ·refine⟨O.dw,?_⟩;show zi c.p.fin c.p.spins 0 c.at_ c.now c.bn c.seen.length c.cells.length c.s.length (c.aw++[c.lk]).length;rw[hg];unfold zi at h ⊢;omega
     ·refine⟨O.dw,?_⟩;show zi c.p.fin c.p.spins 0 c.at_ c.now c.bn c.seen.length c.cells.length c.s.length c.aw.length;rw[hg];unfold zi at h ⊢;omega
  split
  ·unfold yC
   split
   ·exact GA O.dw hd od
   ·split
    ·refine⟨O.dw,?_⟩;show zi c.p.fin c.p.spins 3 c.at_ a.word c.bn c.seen.length c.cells.length c.s.length c.aw.length;rw[hg];unfold zi at h ⊢;omega
    ·split
     ·refine⟨O.dw,?_⟩;show zi c.p.fin c.p.spins 2 c.at_ c.now c.bn c.seen.length c.cells.length c.s.length c.aw.length;rw[hg];unfold zi at h ⊢;omega
     ·have h4:zi 1 c.p.spins 4 c.at_ c.now c.bn c.seen.length c.cells.length c.s.length c.aw.length:=by unfold zi at h ⊢;omega
      split
      ·exact G7 O.dw h4 (O.p hg omQ)
      ·exact My O.dw h4 (O.p hg omQ)
  split
  ·rename_i h4;unfold xe
   split
   ·exact OX O hg omQ
   ·split
    ·exact GA O.dw hd od
    ·refine My (c:={ c with at_:=c.at_+1 }) O.dw ?_ (O.p hg omQ);show zi 1 c.p.spins 4 (c.at_+1) c.now c.bn c.seen.length c.cells.length c.s.length c.aw.length;unfold zi at h ⊢;omega
  split
  ·rename_i h5;have:=O.Rw hg h5;refine MM (c:={ c with at_:=c.at_+1 }) O.dw ?_ h5 (O.p hg omQ) (by show c.at_+1≤(c.cells.length:Int);omega);show zi 1 c.p.spins 5 (c.at_+1) c.now c.bn c.seen.length c.cells.length c.s.length c.aw.length;unfold zi at h ⊢;omega
  split
  ·rename_i h6;have:=O.Rx hg h6;refine ZW (c:={ c with at_:=c.at_+1 }) O.dw ?_ h6 (O.p hg omQ) (by show c.at_+1≤(c.s.length:Int);omega);show zi 1 c.p.spins 6 (c.at_+1) c.now c.bn c.seen.length c.cells.length c.s.length c.aw.length;unfold zi at h ⊢;omega
  ·have bK:=O.st;have h7:c.state=7:=by omega
   have:=O.Ry hg h7;refine ME (c:={ c with at_:=c.at_+1 }) O.dw ?_ h7 (by show c.at_+1≤(c.aw.length:Int);omega);show zi 1 c.p.spins 7 (c.at_+1) c.now c.bn c.seen.length c.cells.length c.s.length c.aw.length;unfold zi at h ⊢;omega
theorem qk2 {me sp st a w:Int} {r:List z6} {cs:List Cl} (hr:r.length≤16) (h0:0<cs.length) (hl:cs.length≤1000) (hc:∀c∈cs,0≤c.1):xf (Xz me sp st r cs a w):=by
 have h1:(xn cs a w).length≤16:=by unfold xn;grind
 have h2:0<(xn cs a w).length:=by obtain⟨c,TE⟩:=List.exists_mem_of_length_pos h0;exact List.length_pos_of_mem ((Jr (n:=a) (w:=w) hc).2 (List.mem_map.2 ⟨c,TE,rfl⟩))
 unfold Xz zk;rw[iQ (by grind)];refine⟨Zt,?_⟩;show zi 0 (max 0 (min sp 4)) 0 0 0 0 r.length cs.length (xn cs a w).length 0;grind[zi]
end
end
section
theorem jJ4 {l:List qO} (F:Fit l) (Q:bO l):∀(n:Nat) {s:IM} {V:VM},GI l s V→bE V.lv+n<9000→(zh l (qT l) n s V).kind=1→bE (zh l (qT l) n s V).v.lv+(zh l (qT l) n s V).left≤bE V.lv+n:=by
 intro n
 induction n with
 |zero=>
  grind[QD]
 |succ n ih=>
  intro s V G hf;rw[QR]
  split
  ·simp
  ·rename_i h0;obtain⟨i,hi,oQ⟩:=G.pc;have ap:i<l.length:=by omega
   rw[hi];have S:=Uz F G hi ap omQ (Q.at ap).2 (Q.at ap).1;generalize bG (qT l) s V (qM l i)=D at*
   split
   ·rename_i h1
    split
    ·simp
    ·rename_i h2;have BX:=S.fr;intro h;have:=ih (S.next h1 (by grind)) omQ h;omega
   ·split
    ·rename_i dO;obtain⟨n1,n2,_⟩:=S.aB dO;grind
    simp
theorem jJ8 {l:List qO} {mt:List Int}:∀(n:Nat) {s:IM} {V:VM},(zh l mt n s V).kind=1→(zh l mt n s V).err=0:=by
 intro n
 induction n with
 |zero=>grind[QD]
 |succ n ih=>
  grind[QR,bG,qM]
theorem qg8 {l:List qO} {s:IM} {V:VM} {p x:Int} (G:GI l s V) (hx:0≤x∧x<18446744073709551616):GI l s (yE V p x).2:=by
 have hl:(yE V p x).2.lv=V.lv:=by
  grind[yE]
 refine⟨G.gb,G.pc,G.nG,G.told,G.DB,by rw[hl];exact G.lv,⟨qXh G.aE.ok,?_⟩⟩;unfold yE
 split
 ·split
  ·exact G.aE.wd
  ·refine⟨λc hc=>?_,G.aE.wd.l⟩;rcases List.mem_append.1 hc with hc |hc
   ·exact G.aE.wd.k c hc
   grind
 ·exact G.aE.wd
theorem jZN {l:List qO} {mt:List Int}:∀(n:Nat) {s:IM} {V:VM},(zh l mt n s V).left≤n:=by
 intro n
 induction n with
 |zero=>intro s V;rw[QD];grind
 |succ n ih=>
  intro s V;rw[QR];grind
end
section
structure xo (S:je):Prop where
  words:32≤S.words∧S.words≤256
  ae:1≤S.ae∧S.ae≤16
  wide:1≤S.wide∧S.wide≤16
  ad:1≤S.ad∧S.ad≤4
  start:0≤S.start∧S.start≤4611686018427387903
  spins:0≤S.spins∧S.spins≤4
  writes:0≤S.writes∧S.writes≤96
  fuel:0≤S.fuel∧S.fuel≤400
theorem Xl {n lo hi:Int} (h:lo≤hi):lo≤gJ n lo hi∧gJ n lo hi≤hi:=by grind[gJ]
theorem vv {n lo hi:Int} (h:lo≤n∧n≤hi):gJ n lo hi=n:=by grind[gJ]
theorem wY {s:je} (h:0≤s.start):xo (jT s) :=
 ⟨Xl omQ,Xl omQ,Xl omQ,Xl omQ,by show 0≤min s.start 4611686018427387903∧min s.start 4611686018427387903≤4611686018427387903;omega,Xl omQ,Xl omQ,Xl omQ⟩
theorem Xa {S:je} (O:xo S):jT S=S:=by obtain⟨a,b,c,d,e,f,g,i⟩:=O;simp_all[jT,vv,min]
theorem qY6 {M:VM} {b:Int} (h:(yM M b).1=11):Yq M (yM M b).2:=by
 have ha:=qyu M b;unfold yM at h ⊢
 split
 ·rename_i h1;rw[iJ h1]at h;have e:=ha.2 h1
  split
  ·grind
  ·rename_i h2;rw[iQ h2]at h
   split
   ·rename_i h3;rw[iJ h3]at h;grind[Kr]
   simp_all[Qs]
 simp_all[qXA]
theorem qW0 {M:VM} {b:Int} (O:fm M):X9 M (yM M b).2:=by
 have ha:=qJc M b;unfold yM
 repeat' split
 ·grind
 ·exact(ha.trans (xu _ _)).trans (wI (vQ (GW O)))
 ·exact ha.trans (xu _ _)
 grind
theorem qv1:∀(bs:List Int) (k:Nat) {V:VM},zj V→zj (xP V bs k).2∧X9 V (xP V bs k).2∧bE (xP V bs k).2.lv=bE V.lv∧(xP V bs k).1.1≤k+bs.length∧
  ((xP V bs k).1.2=11→1≤(xP V bs k).2.aB∧(xP V bs k).2.aB<V.sz∧zt (xP V bs k).2.aB V.K=none):=by
 intro bs
 induction bs with
 |nil=>intro k V G;exact⟨G,.refl V,rfl,Nat.le_refl _,λh=>by cases h⟩
 |cons b r ih=>
  intro k V G;have hg:=G.nf (b:=b);have hk:=qW0 (b:=b) G.ok;by_cases h0:(yM V b).1=0
  ·rw[show xP V (b::r) k=xP (yM V b).2 r (k+1)from iJ h0];obtain⟨a1,a2,a3,a4,a5⟩:=ih (k+1) hg.1;refine⟨a1,hk.trans a2,a3.trans hg.2,by simp;omega,λh=>?_⟩;have:=a5 h;rw[hk.sz,hk.K]at this;omega
  ·rw[show xP V (b::r) k=((k,(yM V b).1),(yM V b).2)from iQ h0];exact⟨hg.1,hk,hg.2,by simp,λh=>(qY6 h).2⟩
def bS (live:Prop) (V:VM):Xn→Prop
 | .prog q=>Fit q.l∧bO q.l∧GB q.s∧(live→GI q.l q.s V∧q.fin=0∧q.err=0∧bE V.lv+q.left<9000)∧q.left≤400
 | .ay bs k=>k≤bs.length∧bs.length≤100000
theorem bS.dead {live oA:Prop} {V V':VM} {j:Xn} (O:bS live V j) (h:¬oA):bS oA V' j:=by
 cases j with
 |prog q=>exact⟨O.1,O.2.1,O.2.2.1,λh'=>absurd h' h,O.2.2.2.2⟩
 |ay bs k=>exact O
theorem bS.same {live oA:Prop} {V:VM} {j:Xn} (O:bS live V j) (h:oA→live):bS oA V j:=by
 cases j with
 |prog q=>exact⟨O.1,O.2.1,O.2.2.1,λh'=>O.2.2.2.1 (h h'),O.2.2.2.2⟩
 |ay bs k=>exact O
structure zm (x:q9):Prop where
  set:xo x.set
  aE:zj x.v
  sz:(x.v.sz:Int)=x.set.words
  fr:bE x.v.lv<9000
  r:x.r.length≤16
  aD:bS (x.state≤4) x.v x.aD
  st:0≤x.state∧x.state≤8
  f:x.state=3→Ng x.f.p∧0≤x.f.word∧x.f.word<18446744073709551616
  aB:3≤x.state→x.state≤4→1≤x.v.aB∧x.v.aB<x.v.sz∧zt x.v.aB x.v.K=none
  e:4≤x.state→x.state≤5→Ns x.e
  c:∀c,x.c=some c→xf c
  c0:x.state≤5→x.c=none
  c6:x.state=6→x.c≠none
structure I6 (x:q9) (k:Int) (y:q9):Prop where
  aE:zj y.v
  kept:y.v.sz=x.v.sz∧y.v.K=x.v.K∧y.v.most=x.v.most
  fr:bE y.v.lv<9000
  aD:bS (k=1) y.v y.aD
  aB:k=1→1≤y.v.aB∧y.v.aB<x.v.sz∧zt y.v.aB x.v.K=none
  same:y.me=x.me∧y.set=x.set∧y.r=x.r∧y.aa=x.aa∧y.c=x.c
theorem Uq {x:q9} (hg:zj x.v) (hf:bE x.v.lv<9000) (hj:bS True x.v x.aD):I6 x (zl x).1.1 (zl x).2:=by
 unfold zl;cases hx:x.aD with
 |prog q=>
  rw[hx]at hj;obtain⟨F,Q,gb,h,hl⟩:=hj;obtain⟨G,h0,h1,h2⟩:=h trivial;obtain⟨RB,rfr,_,rn,_⟩:=Wv F Q q.left G h2;dsimp only;refine⟨RB.aE,⟨RB.sz,RB.K,RB.most⟩,by grind,⟨F,Q,RB.gb,λhk=>?_,?_⟩,λhk=>?_,⟨rfl,rfl,rfl,rfl,rfl⟩⟩
  ·have hr:=jJ4 F Q q.left G h2 hk;exact⟨(rn hk).1,iJ hk,jJ8 _ hk,by grind⟩
  ·have hr:=jZN (l:=q.l) (mt:=qT q.l) q.left (s:=q.s) (V:=x.v);grind
  grind
 |ay bs k=>
  rw[hx]at hj;obtain⟨a1,a2,a3,a4,a5⟩:=qv1 (bs.drop k) k hg;dsimp only;refine⟨a1,⟨a2.sz,a2.K,a2.most⟩,by grind,⟨by rw[List.length_drop]at a4;have:=hj.1;omega,hj.2⟩,λh=>?_,⟨rfl,rfl,rfl,rfl,rfl⟩⟩
  grind
structure JC (x:q9):Prop where
  set:xo x.set
  aE:zj x.v
  sz:(x.v.sz:Int)=x.set.words
  fr:bE x.v.lv<9000
  r:x.r.length≤16
  aD:bS False x.v x.aD
  c:∀c,x.c=some c→xf c
theorem zm.b {x:q9} (O:zm x):JC x:=⟨O.set,O.aE,O.sz,O.fr,O.r,O.aD.dead not_false,O.c⟩
theorem JC.out {x:q9} (B:JC x) {f e y:Int}:zm (z4 x f e y) :=
 ⟨B.set,B.aE,B.sz,B.fr,B.r,B.aD.dead (by nofun),by show(0:Int)≤7∧(7:Int)≤8;simp,λh=>(by cases h),λ_ h=>(by cases h),λ_ h=>(by cases h),B.c,λh=>(by cases h),λh=>by cases h⟩
theorem JC.gone {x:q9} (B:JC x) {f e y:Int}:zm { z4 x f e y with state:=8 } :=
 ⟨B.set,B.aE,B.sz,B.fr,B.r,B.aD.dead (by simp),by simp,λh=>(by grind),λ_ h=>(by grind),λ_ h=>(by grind),B.c,λh=>(by grind),λh=>by grind⟩
theorem JC.ask {x:q9} (B:JC x) (hj:bS True x.v x.aD) (hn:1≤x.v.aB∧x.v.aB<x.v.sz∧zt x.v.aB x.v.K=none) (hc:x.c=none):zm (Xi x x.v.aB) :=
 ⟨B.set,B.aE,B.sz,B.fr,B.r,hj.same λ_=>trivial,by show(0:Int)≤3∧(3:Int)≤8;simp,λ_=>⟨qGm,by show(0:Int)≤0;simp,by show(0:Int)<_;simp⟩,λ_ _=>hn,λh=>absurd h (by nofun),B.c,λ_=>hc,λh=>by cases h⟩
theorem JC.later {x:q9} (B:JC x) (hc:x.c=none) {s:Int} (hs:s=4∨s=5) (hj:s=4→bS True x.v x.aD∧1≤x.v.aB∧x.v.aB<x.v.sz∧zt x.v.aB x.v.K=none):zm (Qz x s):=by
 refine⟨B.set,B.aE,B.sz,B.fr,B.r,?_,by show 0≤s∧s≤8;omega,λh=>?_,λ_ h=>(hj ?_).2,λ_ _=>qg3 B.r,B.c,λ_=>hc,λh=>?_⟩
 ·show bS (s≤4) x.v x.aD;rcases hs with rfl |rfl
  ·grind
  ·exact B.aD.dead od
 ·have h:s=3:=h;omega
 ·have h:s≤4:=h;omega
 ·have h:s=6:=h;omega
theorem Ke {V:VM} (O:fm V):(jP V.lv).length≤96∧∀c∈jP V.lv,1≤c.1∧c.1<256:=by have h1:=qK2 V.lv [];have h2:=O.lR.held;have h3:=O.lR.le;refine⟨by grind[jP],?_⟩;exact qW5 V.lv [] (λc hc=>by grind) O.lR.ins
theorem JC.mq {x:q9} (B:JC x) (hj:bS True x.v x.aD) (hc:x.c=none):zm (yX x):=by
 have D:=Uq B.aE B.fr hj;unfold yX;generalize(zl x).1.1=k at*;generalize(zl x).1.2=e at*;generalize(zl x).2=y at*;obtain⟨e1,e2,e3,e4,e5⟩:=D.same;have r4:y.c=none:=by grind
 have B':JC y:=⟨by rw[e2];exact B.set,D.aE,by rw[D.kept.1,e2];exact B.sz,D.fr,by rw[e3];exact B.r,D.aD.same λh=>h.elim,λc h=>by grind⟩;unfold xx
 split
 ·rename_i h1;exact B'.ask (D.aD.same λ_=>h1) (by have:=D.aB h1;rw[D.kept.1,D.kept.2.1];grind) r4
 ·split
  ·exact JC.later (x:={ y with aL:=true }) ⟨B'.set,B'.aE,B'.sz,B'.fr,B'.r,B'.aD,B'.c⟩ r4 (.inr rfl) λh=>by grind
  ·split
   ·exact B'.out
   ·split
    ·exact B'.out
    ·rename_i hm;have EB:=Ke D.aE.ok;refine⟨B'.set,B'.aE,B'.sz,B'.fr,B'.r,B'.aD.dead (by simp),by simp,λh=>(by grind),λ_ h=>(by grind),λ_ h=>(by grind),λc h=>?_,λh=>(by grind),λ_ h=>by grind⟩;cases h;exact qk2 B'.r (List.length_pos_iff.2 hm) omQ λc hc=>by grind
theorem Ya {r:List z6} {x:z6} (h:r.length≤16):(gE r x).2.length≤16:=by
 grind[gE,List.length_append,List.length_singleton]
theorem QJ {V:VM} {p x:Int}:(yE V p x).2.lv=V.lv∧(yE V p x).2.sz=V.sz:=by
 unfold yE
 grind
theorem XJ {V:VM} {p x:Int} (G:zj V) (hx:0≤x∧x<18446744073709551616):zj (yE V p x).2:=by
 refine⟨qXh G.ok,?_⟩;unfold yE
 split
 ·split
  ·exact G.wd
  ·refine⟨λc hc=>?_,G.wd.l⟩;rcases List.mem_append.1 hc with hc |hc
   ·exact G.wd.k c hc
   grind
 ·exact G.wd
theorem bS.nh {V:VM} {j:Xn} {p x:Int} (O:bS True V j) (hx:0≤x∧x<18446744073709551616):bS True (yE V p x).2 j:=by
 cases j with
 |prog q=>exact⟨O.1,O.2.1,O.2.2.1,λ_=>⟨qg8 (O.2.2.2.1 trivial).1 hx,(O.2.2.2.1 trivial).2.1,(O.2.2.2.1 trivial).2.2.1,by rw[QJ.1];exact(O.2.2.2.1 trivial).2.2.2⟩,O.2.2.2.2⟩
 |ay bs k=>exact O
theorem Gj {f:QE} (h:0≤f.word∧f.word<18446744073709551616):0≤yj f∧yj f<18446744073709551616:=by
 grind[yj]
theorem XI {f:QE} {a:cB} (h:0≤f.word∧f.word<18446744073709551616) (ha:vB a):0≤(zC f a).word∧(zC f a).word<18446744073709551616:=by
 unfold zC w9
 repeat' split
 all_goals first |exact h |exact ha
theorem JC.nk {x:q9} (B:JC x) (hj:bS True x.v x.aD) (hn:1≤x.v.aB∧x.v.aB<x.v.sz∧zt x.v.aB x.v.K=none) (hc:x.c=none) (hw:0≤x.f.word∧x.f.word<18446744073709551616):zm (zZ x):=by
 unfold zZ
 split
 ·exact B.later hc (.inl rfl) λ_=>⟨hj,hn⟩
 ·have hx:=Gj hw
  split
  ·refine JC.mq ?_ (hj.nh hx) hc;exact⟨B.set,XJ B.aE hx,by grind[yE,yj,sz,QJ],by show bE (yE x.v x.v.aB (yj x.f)).2.lv<9000;rw[QJ.1];exact B.fr,Ya B.r,(hj.nh hx).same λh=>h.elim,B.c⟩
  ·split<;>exact B.out
theorem Nd {x:q9} (O:zm x):zm (jZ x):=by
 unfold jZ
 split
 ·split
  ·exact⟨O.set,O.aE,O.sz,O.fr,O.r,O.aD,O.st,O.f,O.aB,O.e,O.c,O.c0,O.c6⟩
  grind
 grind
theorem qJE {x:q9} (O:zm x) (h3:3≤x.state) (_:x.state≤6):zm (jd x):=by
 unfold jd
 split
 ·rename_i hs;exact O.b.nk (O.aD.same λ_=>by omega) (O.aB omQ omQ) (O.c0 omQ) (O.f hs).2
 ·split
  ·rename_i hs;exact JC.ask (x:={ x with aa:=yT x.e }) ⟨O.set,O.aE,O.sz,O.fr,O.r,O.aD.dead not_false,O.c⟩ (O.aD.same λ_=>by omega) (O.aB omQ omQ) (O.c0 omQ)
  ·split
   ·exact JC.out (x:={ x with aa:=yT x.e }) ⟨O.set,O.aE,O.sz,O.fr,O.r,O.aD.dead not_false,O.c⟩
   ·split
    ·exact O.b.out
    grind
def wq (x:q9):q9:=if(zd x).1=0 then x else if(zd x).1=5 then z4 x 5 0 (zd x).2 else jd x
theorem qjE {x:q9} (O:zm x) (h3:3≤x.state) (h6:x.state≤6):zm (wq x):=by
 unfold wq
 split
 ·grind
 ·split
  ·exact O.b.out
  grind[qJE]
theorem KA {x:q9} (O:zm x) (h3:3≤x.state) (h6:x.state≤6):zm (jz x):=Nd (qjE O h3 h6)
theorem XA {x:q9} {a:cB} (O:zm x) (ha:vB a):zm (qd x a):=by
 have bK:=O.st;unfold qd
 split
 ·grind
 ·split
  ·exact O.b.gone
  ·split
   ·exact⟨O.set,O.aE,O.sz,O.fr,O.r,O.aD.same λ_=>by omega,by simp,λh=>(by grind),λh=>absurd h (by simp),λh=>absurd h (by simp),O.c,λ_=>O.c0 omQ,λh=>by grind⟩
   ·split
    ·exact⟨O.set,O.aE,O.sz,O.fr,O.r,O.aD.same λ_=>by omega,by simp,λh=>(by grind),λh=>absurd h (by simp),λh=>absurd h (by simp),O.c,λ_=>O.c0 omQ,λh=>by grind⟩
    ·split
     ·exact O.b.mq (O.aD.same λ_=>by omega) (O.c0 omQ)
     ·split
      ·exact⟨O.set,O.aE,O.sz,O.fr,O.r,O.aD.dead (by simp),by simp,λh=>(by grind),λ_ h=>(by grind),λ_ h=>(by grind),O.c,λh=>(by grind),λh=>by grind⟩
      ·split
       ·rename_i hs;have hf:=O.f hs;refine KA (x:={ x with f:=zC x.f a }) ?_ (by grind) (by grind);exact⟨O.set,O.aE,O.sz,O.fr,O.r,O.aD,O.st,λ_=>⟨KX hf.1,XI hf.2 ha⟩,O.aB,O.e,O.c,O.c0,O.c6⟩
       ·split
        ·rename_i hs;refine KA (x:={ x with c:=x.c.map λc=>jV c a }) ?_ (by grind) (by grind);refine⟨O.set,O.aE,O.sz,O.fr,O.r,O.aD,O.st,O.f,O.aB,O.e,λc h=>?_,λh=>absurd h (by grind),λh hn=>O.c6 h ?_⟩
         ·obtain⟨c',h1,rfl⟩:=Option.map_eq_some_iff.1 h;exact yR (O.c c' h1) ha
         simp_all
        ·refine KA (x:={ x with e:=zS x.e a }) ?_ (by grind) (by grind);exact⟨O.set,O.aE,O.sz,O.fr,O.r,O.aD,O.st,O.f,O.aB,λh1 h2=>Kj (O.e h1 h2),O.c,O.c0,O.c6⟩
theorem O9 (w m:Int):zj (BV w m):=⟨qwA w m,λc hc=>(by cases hc),λx hx c hc=>by
 rcases List.mem_cons.1 hx with rfl |hx
 all_goals grind⟩
theorem qWF {me:Int} {S:je} {j:Xn} (O:xo S) (hj:bS True (BV S.words S.writes) j):zm (KK me S j):=by have:=O.words;refine⟨O,O9 _ _,?_,by show(0:Nat)<9000;simp,Nat.zero_le _,hj.same λ_=>trivial,by show(0:Int)≤0∧(0:Int)≤8;simp,λh=>(by cases h),λh=>absurd h (by nofun),λh=>absurd h (by nofun),λc h=>(by cases h),λ_=>rfl,λh=>by cases h⟩;show((iR S.words:Nat):Int)=S.words;grind[iR]
theorem qVD {me:Int} {S:je} {l:List qO} (hs:0≤S.start) (hc:(yn l).2=0) (Q:bO l):zm (Jm me S l):=by
 have O:=wY hs;refine qWF O ?_;have G:=O9 (jT S).words (jT S).writes;have hf:Xq (jT S).fuel≤400:=by grind[Xq]
 exact⟨Z6 hc,Q,(Ww (l:=l) rfl G).gb,λ_=>⟨Ww rfl G,rfl,rfl,by show(0:Nat)+Xq (jT S).fuel<9000;omega⟩,hf⟩
theorem qZN {me:Int} {S:je} {bs:List Int} (hs:0≤S.start) (hl:bs.length≤100000):zm (QG me S bs):=qWF (wY hs) ⟨Nat.zero_le _,hl⟩
end
section
structure zP where
  DE:Int
  aD:Int
  Wy:Int
  ay:Bool
  kind:Int
  err:Int
  aI:Int
  aa:Int
  born:Int
  ended:Int
  reads:List Cl
  cells:List Cl
  dJ:List Int
  tY:List UInt8
structure B0 where
  kind:Int
  err:Int
  tY:List UInt8
  aa:Int
abbrev Nn:Type:=Int×Int
structure qu where
  me:Int
  set:je
  jobs:List (List qO)
  aD:Int
  state:Int
  ay:Bool
  ax:List Nn
  ak:Int
  aC:Int
  now:Option q9
  born:Int
  bI:Bool
  ah:List zP
  results:List B0
  af:List Nn
  au:List Int
  bH:Int
  since:Int
  bf:Bool
  aP:Int
def vU (x:q9):Int:=if x.state≠8 then 0 else x.err
def kL (x:q9):Int:=if x.state≠8 then-1 else x.bH
def yL (x:q9):Bool:=decide (x.state≠8)&&x.aL
def z8 (t:qu):qu :=
 if t.aD=(t.jobs.length:Int)then{ t with born:=0,bI:=false,state:=6,now:=none }
 else{ t with born:=0,bI:=false,state:=1,now:=some (if t.ay=true then QG t.me t.set (t.ax.map (·.1))else Jm t.me t.set ((t.jobs[t.aD.toNat]?).getD [])) }
def xX (t:qu):qu:=z8 { t with aD:=t.aD+1,ay:=false,ax:=[],ak:=0,aC:=0 }
def Vs (me:Int) (s:je) (jobs:List (List qO)):qu :=
 xX ⟨max 0 (min me ((jT s).ad-1)),jT s,jobs.take 6,-1,0,false,[],0,0,none,0,false,[],[],[],[],0,0,false,0⟩
def xW (t:qu):Option dj:=if t.state=1 then t.now.bind zp else if t.state=2 then some (bx 8 t.bH 0)else if t.state=5 then some (bx 8 t.au.length 0)else none
def jq (t:qu) (x:q9) (pick:Int):zP :=
 ⟨t.me,t.aD,t.ak,t.ay,if qS x=true then 2 else jf x,vU x,x.aI,x.aa,t.born,pick,x.v.K,yS x,jG x,y7 x⟩
def gi (aC:Int):Int:=if aC≤0 then 1 else if aC=1 then 2 else if aC=2 then 4 else 8
def yW (t:qu) (draw:Int):qu :=
 if draw%(gi t.aC+1)=0 then z8 { t with aP:=0,state:=3 }else{ t with aP:=draw%(gi t.aC+1),state:=3 }
def jm (au:List Int) (aa:Int):Bool:=au.all λx=>decide (x=0∨aa<x)
def vw (t:qu):qu :=
 if(t.au.length:Int)<t.set.ad then t
 else if(t.af.filter λr=>jm t.au r.2)=[]then xX { t with af:=t.af.filter λr=>!jm t.au r.2 }
 else z8 { t with af:=t.af.filter (λr=>!jm t.au r.2),ay:=true,ax:=t.af.filter (λr=>jm t.au r.2),ak:=0,aC:=0 }
def vq (t:qu):qu:=vw (if(t.au.length:Int)=t.me then{ t with au:=t.au++[0] }else t)
def Qn (t:qu):qu:=if t.af=[]then xX t else vq { t with state:=5,au:=[] }
def Qv (t:qu) (fin:Int):qu:=xX (if fin=4 then{ t with af:=t.af++t.ax }else t)
def yD (t:qu) (x:q9) (draw pick:Int):qu :=
 let u:={ t with ah:=t.ah++[jq t x pick],ak:=t.ak+1 }
 if jf x=5 then
  (if 0≤kL x∧kL x<t.set.ad then{ u with aC:=u.aC+1,state:=2,bH:=kL x,bf:=false }else yW { u with aC:=u.aC+1 } draw)
 else if jf x=3 then(if u.bI=true then z8 u else{ u with state:=4 })
 else if u.ay=true then Qv u (jf x)
 else Qn { u with results:=u.results++[⟨jf x,vU x,y7 x,x.aa⟩],af:=u.af++(jG x).map λb=>(b,x.aa) }
def xi (t:qu) (x y:q9) (draw pick:Int):qu :=
 let u:={ t with now:=some y,born:=if y.begun=true∧x.begun=false then pick else t.born }
 if jf y=0 then u else yD u y draw pick
def jg (t:qu) (a:cB) (draw pick:Int):qu :=
 if t.state=1 then(match t.now with
  |none=>t
  |some x=>xi t x (qd x a) draw pick)
 else if t.state=2 then(if a.err=0∧a.word≠0∧(t.bf=false∨a.word=t.since)then{ t with bf:=true,since:=a.word }else yW t draw)
 else if t.state=5 then vq { t with au:=t.au++[if a.err≠0 then 0 else a.word] }
 else t
def jC (t:qu):qu:=if t.state=3 then(if t.aP-1=0 then z8 { t with aP:=0 }else{ t with aP:=t.aP-1 })else t
def yr (r:List z6) (aA dH:Int):Bool:=r.any λx=>decide (x.1=aA∧x.2≠dH)
def zy (t:qu) (aA dH:Int):qu:=match t.now with
 |none=>t
 |some x=>
  if yr x.r aA dH=true then(if t.state=4 then z8 t else if t.state=1∧yL x=true then{ t with bI:=true }else t)
  else t
def qg (t:qu):List zP:=t.ah++(match t.now with
 |some x=>if t.state=1∧x.begun=true then[jq t x 0]else[]
 |none=>[])
def Gs (t:qu):Bool:=decide (t.state=1)&&(match t.now with |some x=>qS x |none=>false)
structure vY where
  s:je
  m:zG
  t:List qu
  az:Int
  last:dj
  did:Bool
def xw (S:je):zG:=⟨List.replicate S.words.toNat 0,List.replicate S.ae.toNat cC,S.start,List.replicate S.ad.toNat 0,0⟩
def wu (s:je) (jobs:List (List (List qO))):vY :=
 let S:=jT { s with ad:=(jobs.take 4).length }
 ⟨S,(qR (xw S) (bx 2 5 14)).2,(List.range S.ad.toNat).map λi:Nat=>Vs i S (((jobs.take 4)[i]?).getD []),0,bx 0 0 0,false⟩
def yQ (ts:List qu) (i:Nat) (aA dH:Int):List qu:=ts.mapIdx λk t=>if k=i then t else zy t aA dH
def xZ (m:vY) (i:Nat) (draw:Int):vY:=match m.t[i]? with
 |none=>m
 |some t=>match xW t with
  |none=>{ m with az:=m.az+1,last:=bx 0 0 0,did:=false,t:=m.t.set i (jC t) }
  |some o=>
   let r:=qR m.m o
   let ts:=m.t.set i (jg t r.1 draw (m.az+1))
   { m with az:=m.az+1,last:=o,did:=true,m:=r.2,t:=if o.kind=5 then yQ ts i o.at_ o.lk.1 else ts }
def xz (m:vY):List zP:=m.t.flatMap qg
def qKH (m:vY):Bool:=m.t.any Gs
end
section
variable {g h:AH} {L R:List SP}
structure I7 where
  rv:AV
  bv:AV
  iv:AV
  fv:AV
  ev:AV
  cv:AV
  gv:Int
  vb:Nat
  db:Nat
end
section
theorem Y5 {l t:List qO} {j:Nat} (h:j<l.length):qM (l++t) (j:Int)=qM l (j:Int):=by grind[qM,Int.toNat_natCast,List.getElem?_append_left]
theorem XS {l t:List qO} {k:Nat} {x:qO} (h:t[k]? =some x):qM (l++t) ((l.length+k:Nat):Int)=x:=by unfold qM;grind
theorem kO {l t:List qO}:∀i,i≤l.length→qw (l++t) i=qw l i:=by
 intro i
 induction i with
 |zero=>intro _;rfl
 |succ i ih=>intro h;rw[ji,ji,ih omQ,Y5 omQ]
theorem qg0 {l t:List qO} {st:List Int} (h:dv l.length st):cQ (l++t) st=cQ l st:=by
 unfold cQ;by_cases h0:st=[]
 ·grind
 ·rw[iQ h0,iQ h0];have hb:=h.fo h0;obtain⟨p,hp⟩:∃p:Nat,jD st=p:=⟨(jD st).toNat,by omega⟩;rw[hp,Y5 omQ]
theorem Nt {l t:List qO} {st:List Int} {x:qO} (h:dv l.length st):xr (l++t) st x=xr l st x:=by grind[xr,qg0]
theorem dv.mono {i j:Nat} {st:List Int} (h:dv i st) (BD:i≤j):dv j st:=λy hy=>by have:=h y hy;omega
def qk3 (l:List qO) (calm:Bool) (j:Nat) (x:qO):Prop:=(x.1=12∨x.1=13)→∃c:Nat,x.2.2.2.1=c∧c≤l.length∧qw l c=qw l j∧(calm=true→j<c)
structure K8 (calm:Bool) (x:qO):Prop where
  may:kC x=true
  no:x.1≠23
  n:0≤x.2.2.2.2∧x.2.2.2.2<18446744073709551616
  cal:calm=true→x.1≠20∧x.1≠22∧x.1≠12
structure dk (calm:Bool) (l:List qO) (st:List Int):Prop where
  ok:∀x∈l,K8 calm x
  wr:∀j,j<l.length→xr l (qw l j) (qM l j)=0
  top:qw l l.length=st
  jp:∀j,j<l.length→qk3 l calm j (qM l j)
  pL:st.length≤5
def zg (l:List qO) (st:List Int):List Int:=st.map λp=>(qM l p).1
theorem GF {l t:List qO} {st:List Int} (h:dv l.length st):zg (l++t) st=zg l st:=by unfold zg;refine List.map_congr_left λp hp=>?_;have:=h p hp;obtain⟨q,rfl⟩:∃q:Nat,p=q:=⟨p.toNat,by omega⟩;rw[Y5 omQ]
theorem dk.tZ {calm:Bool} {l:List qO} {st:List Int} (B:dk calm l st):dv l.length st:=by rw[← B.top];exact(Gb l.length).1
theorem dk.nil (calm:Bool):dk calm [] []:=⟨λx hx=>(by grind),λj hj=>(by grind),rfl,λj hj=>(by grind),aM⟩
theorem dk.ext {calm:Bool} {l t:List qO} {st:List Int} (B:dk calm l st) (h1:∀x∈t,K8 calm x) (h2:∀k,k<t.length→xr (l++t) (qw (l++t) (l.length+k)) (qM (l++t) ((l.length+k:Nat):Int))=0)
  (h3:∀k,k<t.length→qk3 (l++t) calm (l.length+k) (qM (l++t) ((l.length+k:Nat):Int))) (h5:(qw (l++t) (l++t).length).length≤5):dk calm (l++t) (qw (l++t) (l++t).length):=by
 refine⟨?_,?_,rfl,?_,h5⟩
 ·intro x hx;rcases List.mem_append.1 hx with hx |hx
  ·exact B.ok x hx
  grind
 ·intro j hj;by_cases mi:j<l.length
  ·rw[kO j omQ,Y5 mi,Nt ((Gb j).1.mono omQ)];exact B.wr j mi
  ·have:=h2 (j-l.length) (by grind)
   simp_all
 ·intro j hj;by_cases mi:j<l.length
  ·intro ho;rw[Y5 mi]at ho ⊢;obtain⟨c,c1,c2,c3,c4⟩:=B.jp j mi ho;exact⟨c,c1,by grind,by rw[kO c c2,kO j omQ];grind,c4⟩
  ·have:=h3 (j-l.length) (by grind)
   simp_all
theorem qqp {l:List qO} {x:qO}:qw (l++[x]) (l.length+1)=jN (qw l l.length) l.length x.1:=by have e:=XS (l:=l) (t:=[x]) (k:=0) (x:=x) rfl;simp_all[Nat.add_zero,ji,kO]
theorem dk.lH {calm:Bool} {l:List qO} {st:List Int} (B:dk calm l st) {x:qO} (h1:K8 calm x) (h2:xr l st x=0) (h3:x.1≠12∧x.1≠13) (h5:(jN st l.length x.1).length≤5):dk calm (l++[x]) (jN st l.length x.1):=by
 have e:=XS (l:=l) (t:=[x]) (k:=0) (x:=x) rfl;rw[Nat.add_zero]at e;have hs:qw (l++[x]) (l++[x]).length=jN st l.length x.1:=by rw[List.length_append,List.length_singleton,qqp,B.top]
 rw[← hs]at h5 ⊢;refine B.ext (by grind) ?_ ?_ h5
 ·intro k hk;obtain rfl:k=0:=by grind
  rw[Nat.add_zero,e,kO _ (Nat.le_refl _),B.top,Nt B.tZ];grind
 ·intro k hk;obtain rfl:k=0:=by grind
  rw[Nat.add_zero,e];intro ho;omega
def Flat (op:Int):Prop:=op≠14∧op≠15∧op≠16∧op≠17∧op≠18∧op≠19
theorem Flat.behind {op:Int} (h:Flat op) (st:List Int) (i:Int):jN st i op=st:=by obtain⟨h1,h2,h3,h4,h5,h6⟩:=h;simp_all[jN,xc,zr]
theorem Flat.ua {x:qO} (h:Flat x.1) (hm:kC x=true) (l:List qO) (st:List Int):xr l st x=0:=by
 obtain⟨h1,h2,h3,h4,h5,h6⟩:=h;simp_all[xr,zr,xc]
theorem dk.flat {calm:Bool} {l:List qO} {st:List Int} (B:dk calm l st) {x:qO} (h1:K8 calm x) (hf:Flat x.1) (h3:x.1≠12∧x.1≠13):dk calm (l++[x]) st:=by
 have:=B.lH h1 (hf.ua h1.may l st) h3 (by rw[hf.behind];exact B.pL)
 rwa [hf.behind]at this
theorem dk.two {calm:Bool} {l:List qO} {st:List Int} (B:dk calm l st) {x y:qO} (hx:K8 calm x) (hy:K8 calm y) (fx:Flat x.1) (fy:Flat y.1)
  (jx:(x.1=12∨x.1=13)→x.2.2.2.1=((l.length+2:Nat):Int)) (jy:(y.1=12∨y.1=13)→y.2.2.2.1=(l.length:Int)∧calm=false):dk calm (l++[x,y]) st:=by
 have e0:=XS (l:=l) (t:=[x,y]) (k:=0) (x:=x) rfl;have e1:=XS (l:=l) (t:=[x,y]) (k:=1) (x:=y) rfl;rw[Nat.add_zero]at e0;have s0:qw (l++[x,y]) l.length=st:=by rw[kO _ (Nat.le_refl _),B.top]
 have s1:qw (l++[x,y]) (l.length+1)=st:=by rw[ji,s0,e0,fx.behind]
 have s2:qw (l++[x,y]) (l.length+2)=st:=by rw[show l.length+2=l.length+1+1 from rfl,ji,s1,e1,fy.behind]
 have hs:qw (l++[x,y]) (l++[x,y]).length=st:=by grind
 have:=B.ext (t:=[x,y]) (by grind) (λk hk=>by
  have hk:k=0∨k=1:=by grind
  rcases hk with rfl |rfl
  ·rw[Nat.add_zero,e0];exact fx.ua hx.may _ _
  ·rw[e1];exact fy.ua hy.may _ _) (λk hk=>by
  have hk:k=0∨k=1:=by grind
  rcases hk with rfl |rfl
  ·rw[Nat.add_zero,e0];intro ho;grind
  ·rw[e1];intro ho;grind) (by rw[hs];exact B.pL)
 grind
abbrev one (op:Int):qO:=(op,0,0,0,0)
theorem Wz (calm:Bool) {op:Int} (h:op=14∨op=15∨op=16∨op=17∨op=18∨op=19):K8 calm (one op):=by refine⟨?_,by grind,by simp,λ_=>by grind⟩;rcases h with rfl |rfl |rfl |rfl |rfl |rfl<;>decide
theorem dk.begin {calm:Bool} {l:List qO} {st:List Int} (B:dk calm l st) {op:Int} (h:op=14∨op=17) (h5:st.length<5):dk calm (l++[one op]) (st++[(l.length:Int)])∧zg (l++[one op]) (st++[(l.length:Int)])=zg l st++[op]:=by
 have hb:jN st l.length op=st++[(l.length:Int)]:=by unfold jN;rw[iJ (.inl (by simp_all[xc,iG])),iQ (by rcases h with rfl |rfl<;>decide)]
 have hw:xr l st (one op)=0:=by unfold xr;rw[iQ (by rcases h with rfl |rfl<;>decide),iQ (λhh=>by have:=hh.1;rcases h with rfl |rfl<;>exact absurd this od),iQ (λhh=>by grind),iQ omQ]
 have:=B.lH (x:=one op) (Wz calm omQ) hw (by grind) (by grind);rw[hb]at this;refine⟨this,?_⟩;unfold zg;rw[List.map_append]
 congr 1
 ·exact GF B.tZ
 ·have e:=XS (l:=l) (t:=[one op]) (k:=0) (x:=one op) rfl;grind
theorem dk.WA {calm:Bool} {l:List qO} {st:List Int} (B:dk calm l st) (h:cQ l st=14):dk calm (l++[one 16]) st:=by
 have hb:jN st l.length 16=st:=by rfl
 have hw:xr l st (one 16)=0:=by unfold xr;rw[iQ od,iQ (λhh=>absurd hh.1 od),iQ (λhh=>hh.2 h),iQ (λhh=>absurd hh.1 od)]
 have:=B.lH (x:=one 16) (Wz calm omQ) hw od (by rw[hb];exact B.pL)
 grind
def gT (o:Int):Int:=if o=14 then 15 else if o=17 then 18 else 19
def XL (l:List qO) (st:List Int):List qO:=l++[one (gT (cQ l st))]
def GT (l:List qO) (st:List Int):List Int:=if cQ l st=17 then st.dropLast++[(l.length:Int)]else st.dropLast
theorem dk.shut {calm:Bool} {l:List qO} {st:List Int} (B:dk calm l st) (hn:st≠[]) (ho:cQ l st=14∨cQ l st=17∨cQ l st=18):dk calm (XL l st) (GT l st)∧
  zg (XL l st) (GT l st)=(zg l st).dropLast++(if cQ l st=17 then[18]else[]):=by
 have hs:zr (gT (cQ l st))=cQ l st:=by rcases ho with h |h |h<;>rw[h]<;>decide
 have Rz:gT (cQ l st)=15∨gT (cQ l st)=18∨gT (cQ l st)=19:=by
  grind[gT]
 have he:0<zr (gT (cQ l st)):=by grind
 have hlen:=List.length_pos_iff.2 hn;have hb:jN st l.length (gT (cQ l st))=GT l st:=by
  unfold jN GT;rw[iJ he];by_cases nb:cQ l st=17
  ·rw[iJ nb,iJ (.inr (by rw[nb];rfl))]
  ·rw[iQ nb,iQ];rcases ho with h |h |h
   ·rw[h];decide
   ·grind
   ·rw[h];decide
 have hw:xr l st (one (gT (cQ l st)))=0:=by
  unfold xr
  rw[iQ (by rcases Rz with h |h |h<;>rw[h]<;>decide),iQ (λhh=>hh.2 hs.symm),iQ (λhh=>by grind),iQ (λhh=>by
   have:=hh.1
   rcases Rz with h |h |h<;>rw[h]at this<;>exact absurd this od)]
 have h5:=B.pL;have:=B.lH (x:=one (gT (cQ l st))) (Wz calm omQ) hw (by grind) (by grind[GT]);rw[hb]at this;refine⟨this,?_⟩;unfold XL GT zg;have hd:(st.dropLast.map λp=>(qM (l++[one (gT (cQ l st))]) p).1)=(zg l st).dropLast:=by have:=GF (t:=[one (gT (cQ l st))]) B.tZ.dropLast;grind[zg]
 split
 ·rename_i nb;have e:=XS (l:=l) (t:=[one (gT (cQ l st))]) (k:=0) (x:=one (gT (cQ l st))) rfl;rw[Nat.add_zero]at e;rw[List.map_append,hd,List.map_singleton,e,nb];rfl
 ·rw[hd,List.append_nil];rfl
theorem qXo {l:List qO} {st:List Int} (hn:st≠[]):cQ l st=(zg l st).getLast?.getD 0:=by unfold cQ zg jD;simp_all[List.getLast?_eq_some_getLast]
theorem dk.fit {calm:Bool} {l:List qO} (B:dk calm l []) (h0:0<l.length) (h40:l.length≤40):yn l=(0,0):=by
 have key:∀d i,i+d=l.length→sB l (l.drop i) i (qw l i)=.inr []:=by
  intro d
  induction d with
  |zero=>
   intro i hi;obtain rfl:i=l.length:=by omega
   rw[List.drop_length,B.top];rfl
  |succ d ih=>
   intro i hi;have ap:i<l.length:=by omega
   rw[qZA ap];have hw:=B.wr i ap;rw[yw ap]at hw;rw[iJ hw];have:=ih (i+1) omQ;grind[ji,yw]
 have hg:=key l.length 0 omQ;have WB:∀j,j<l.length→(ym l 0 [])[j]? =some (jD (qw l j)):=λj hj=>by
  have:=OG (l:=l) l.length 0 omQ j omQ;rw[Nat.zero_add]at this;trivial
 have DF:∀j:Nat,j<l.length→qB (ym l 0 []) (j:Int)=jD (qw l j):=λj hj=>by
  grind[qB,Int.toNat_natCast]
 have hj:∀d i,i+d=l.length→OM l (ym l 0 []) (l.drop i) i=(0,0):=by
  intro d
  induction d with
  |zero=>
   intro i hi;obtain rfl:i=l.length:=by omega
   rw[List.drop_length];rfl
  |succ d ih=>
   intro i hi;have ap:i<l.length:=by omega
   rw[Mx ap,iQ,ih (i+1) omQ];rintro⟨ho,hc⟩;have hB:=B.jp i ap;rw[yw ap]at hB;obtain⟨c,c1,c2,c3,_⟩:=hB ho;rw[c1]at hc;rcases hc with hc |⟨hc,lN⟩ |⟨hc,lN⟩
   ·omega
   ·have:c=l.length:=by omega
    subst this;rw[B.top]at c3;rw[DF i ap,← c3]at lN;trivial
   grind
 unfold yn;rw[iQ omQ];have pZ:sB l l 0 []=.inr []:=hg;rw[pZ];dsimp only;rw[iJ rfl];exact hj l.length 0 omQ
end
section
variable {g h:AH} {L R:List SP}
def EY (zs:List Int):Prop:=∀z∈zs,0≤z∧z<18446744073709551616
theorem EY.set {zs:List Int} {i:Nat} {x:Int} (h:EY zs) (hx:0≤x∧x<18446744073709551616):EY (zs.set i x):=by
 intro z hz;rcases List.mem_or_eq_of_mem_set hz with h1 |rfl
 ·exact h z h1
 grind
def tw (c:Int):Int:=zu .i64 (1*2 ^ (min c.toNat (IntKind.bits .i64)))
theorem Qy {x lo hi:Int} (h:lo≤hi):lo≤zx x lo hi∧zx x lo hi≤hi:=by
 unfold zx;have:=Yy x (show 0<hi-lo+1 by omega)
 grind
def WC (zs:List Int):Prop:=EY zs∧zs[0]? =some 0
theorem WC.set {zs:List Int} {i:Nat} {x:Int} (h:WC zs) (hx:0≤x∧x<18446744073709551616) (hi:0<i):WC (zs.set i x):=⟨h.1.set hx,by rw[List.getElem?_set_ne omQ];exact h.2⟩
end
section
variable {g h:AH} {L R:List SP}
def yh (lv:AV) (l:List qO):SP:=qC 101 5 l.length lv (l.flatMap ju)
def Kz (ov:AV) (o:List Int):SP:=qC 3 1 o.length ov (o.map (.int .i64))
theorem Gv {n:Nat} (hn:2≤n) {x:Int}:ba n 35 [.int .i64 x] h λv h'=>v=.int .i64 (zx x 0 6)∧h'=h:=by
 refine bw (S:=S35) rfl omQ λk hk=>?_;unfold S35;try simp only[iZ]
 refine qY (xp omQ omQ omQ omQ) ?_;rintro _ _ ⟨rfl,rfl⟩;exact qq ⟨rfl,rfl⟩
theorem Qm {l:List qO} {lv:AV} {t:List qO} {tv:AV} {K2:AV→AH→Go.Ae.R} {Q:AV→AH→Prop} {D':Nat→Prop} (H:HS g h (yh lv l::R)) (S:Sl D' h 5 t.length tv (t.flatMap ju)) (hl:l.length+t.length≤100000)
  (w:∀v' h',HS g h' (yh v' (l++t)::R)→wp (K2 v' h') Q):wp (xH h 101 5 lv tv K2) Q:=by
 refine zA H S omQ omQ (qJn t) λv' h' H'=>w v' h' ?_;grind[yh,List.length_append]
theorem WD {a n:Int} (h:0≤a∧a≤7):kC (1,a,0,0,n)=true:=by grind[kC,xY,Qb]
theorem I8 {a b:Int} (h:0≤a∧a≤7) (h2:0≤b∧b≤7):kC (2,a,b,0,0)=true:=by grind[kC,xY,Qb]
theorem I9 {o a b c:Int} (ho:3≤o∧o≤7) (h:0≤a∧a≤7) (h2:0≤b∧b≤7) (h3:0≤c∧c≤7):kC (o,a,b,c,0)=true:=by
 rcases(show o=3∨o=4∨o=5∨o=6∨o=7 by omega)with rfl |rfl |rfl |rfl |rfl<;>(grind[kC,xY,Qb])
theorem Kc {o a b c:Int} (ho:o=8∨o=9) (h:0≤a∧a≤7) (h2:0≤b∧b≤7) (h3:0≤c∧c≤15):kC (o,a,b,c,0)=true:=by
 rcases ho with rfl |rfl<;>(grind[kC,xY,Qb])
theorem qxf {a b:Int} (h:0≤a∧a≤7) (h2:0≤b∧b≤7):kC (10,a,b,0,0)=true:=by grind[kC,xY,Qb]
theorem qvD {o a:Int} (ho:o=11∨o=21) (h:0≤a∧a≤7):kC (o,a,0,0,0)=true:=by
 rcases ho with rfl |rfl<;>(grind[kC,xY,Qb])
theorem qz1 {a c:Int} (h:0≤a∧a≤7) (h3:0≤c∧c≤40):kC (13,a,0,c,0)=true:=by grind[kC,xY,Qb]
structure M6 (x:qO):Prop where
  flat:Flat x.1
  nj:x.1≠12∧x.1≠13
  ok:∀calm,K8 calm x
theorem M6.of {x:qO} (h1:kC x=true) (h2:(1≤x.1∧x.1≤11)∨x.1=21) (h3:0≤x.2.2.2.2∧x.2.2.2.2<18446744073709551616):M6 x :=
 ⟨⟨by omega,by omega,by omega,by omega,by omega,by omega⟩,by omega,λ_=>⟨h1,by omega,h3,λ_=>by omega⟩⟩
set_option maxHeartbeats 4000000 in
theorem Gm {n:Nat} (hn:3≤n) {kx:qO} (hN:0≤kx.2.2.2.2∧kx.2.2.2.2<18446744073709551616) (H:HS g h R) :
  ba n 36 [.agg (ju kx)] h λr h'=>∃x,r=.agg (ju x)∧M6 x∧HS g h' R:=by
 refine bw (S:=S36) rfl omQ λk hk=>?_;unfold S36;try simp only[iZ]
 refine qh H rfl λb0 h1 H1=>?_;refine qh H1 rfl λb2 h2 H2=>?_;have H2:HS g h2 (qv b2 [.int .i64 ((0:Nat):Int),.int .i64 ((0:Nat):Int),.int .i64 ((0:Nat):Int),.int .i64 ((0:Nat):Int),.int .u64 ((0:Nat):Int)]::qv b0 (ju kx)::R):=H2;clear H H1;refine qG ?_
 try dsimp only
 refine qQ (qZ H2 (b:=b0) e_1 rfl ?_);refine qY (Gv omQ) ?_;rintro _ _ ⟨rfl,rfl⟩;refine qQ (qZ H2 (b:=b0) e_1 rfl ?_);refine qY (Gv omQ) ?_;rintro _ _ ⟨rfl,rfl⟩;refine qQ (qZ H2 (b:=b0) e_1 rfl ?_);refine qY (Gv omQ) ?_;rintro _ _ ⟨rfl,rfl⟩;refine jU H2 (b:=b0) e_1 rfl H2 e_1 rfl (HS.lt H2 e_1) ?_;refine jU H2 (b:=b0) e_1 rfl H2 e_1 rfl (HS.lt H2 e_1) ?_;refine jU H2 (b:=b0) e_1 rfl H2 e_1 rfl (HS.lt H2 e_1) ?_;refine qQ (qZ H2 (b:=b0) e_1 rfl ?_);refine qY (xp omQ omQ omQ omQ) ?_;rintro _ _ ⟨rfl,rfl⟩;refine qQ (qZ H2 (b:=b0) e_1 rfl ?_);refine qY (xp omQ omQ omQ omQ) ?_;rintro _ _ ⟨rfl,rfl⟩;have ha:=z9 kx.2.1 (show(0:Int)≤6 by omega);have hb:=z9 kx.2.2.1 (show(0:Int)≤6 by omega);have hc:=z9 kx.2.2.2.1 (show(0:Int)≤6 by omega);have cx:=z9 kx.2.2.2.1 (show(((6:Nat):Int))≤((15:Nat):Int) by omega);have hw:=z9 kx.1 (show(((0:Nat):Int))≤((19:Nat):Int) by omega);generalize zx kx.2.1 0 6=a at*;generalize zx kx.2.2.1 0 6=b at*;generalize zx kx.2.2.2.1 0 6=c at*;generalize zx kx.2.2.2.1 ((6:Nat):Int) ((15:Nat):Int)=at_ at*;generalize zx kx.1 ((0:Nat):Int) ((19:Nat):Int)=w at*;have fin:∀(x:qO) (h0:AH),M6 x→HS g h0 (qv b2 [.int .i64 ((0:Nat):Int),.int .i64 ((0:Nat):Int),.int .i64 ((0:Nat):Int),.int .i64 ((0:Nat):Int),.int .u64 ((0:Nat):Int)]::qv b0 (ju kx)::R)→
   wp (jw h0 (.ptr b2 0) (.agg (ju x)) 5 λRf=>zT [] Rf λrA=>jr rA (.ptr b2 0) 5 λAj=>some (Aj,rA)) λr h'=>∃x,r=.agg (ju x)∧M6 x∧HS g h' R:=by
  intro x h0 hx H0;refine zq H0 (b:=b2) .here rfl (by show 0+5≤5;omega) rfl λh6 H6=>?_;have H6:HS g h6 (qv b2 (ju x)::qv b0 (ju kx)::R):=H6;refine qj (qo H6 (b:=b2) (off:=0) .here rfl omQ (l:=ju x) rfl ?_);exact qq ⟨x,rfl,hx,H6.drop.drop⟩
 have z0:(0:Int)≤0∧(0:Int)<18446744073709551616:=by omega
 have hd:w=0∨w=1∨w=2∨w=3∨w=4∨w=5∨w=6∨w=7∨w=8∨w=9∨w=10∨w=11∨w=12∨w=13∨w=14∨w=15∨w=16∨17≤w:=by omega
 rcases hd with h0 |h0 |h0 |h0 |h0 |h0 |h0 |h0 |h0 |h0 |h0 |h0 |h0 |h0 |h0 |h0 |h0 |h0
 all_goals (first |with_reducible (refine qG ?_;(try dsimp only);refine qW omQ ?_;refine qJ ?_;refine qW omQ ?_;refine qJ ?_;refine qW omQ ?_;refine qJ ?_;refine qW omQ ?_;refine qJ ?_;refine qW omQ ?_;refine qJ ?_;refine qG ?_;(try dsimp only);refine qW omQ ?_;refine qJ ?_;refine qW omQ ?_;refine qJ ?_;refine qW omQ ?_;refine qJ ?_;refine qG ?_;(try dsimp only);refine qW omQ ?_;refine qJ ?_;refine qW omQ ?_;refine qJ ?_;refine qW omQ ?_;refine qJ ?_;refine qW omQ ?_;refine qJ ?_;refine qW omQ ?_;refine qJ ?_;refine qG ?_;(try dsimp only);refine qW omQ ?_;refine qJ ?_;refine qW omQ ?_;refine qJ ?_;refine qW omQ ?_;refine qJ ?_;refine qk omQ ?_;refine qK ?_;refine qA rfl ?_) |with_reducible (refine qG ?_;(try dsimp only);refine qW omQ ?_;refine qJ ?_;refine qW omQ ?_;refine qJ ?_;refine qW omQ ?_;refine qJ ?_;refine qW omQ ?_;refine qJ ?_;refine qW omQ ?_;refine qJ ?_;refine qG ?_;(try dsimp only);refine qW omQ ?_;refine qJ ?_;refine qW omQ ?_;refine qJ ?_;refine qW omQ ?_;refine qJ ?_;refine qG ?_;(try dsimp only);refine qW omQ ?_;refine qJ ?_;refine qW omQ ?_;refine qJ ?_;refine qW omQ ?_;refine qJ ?_;refine qW omQ ?_;refine qJ ?_;refine qW omQ ?_;refine qJ ?_;refine qG ?_;(try dsimp only);refine qW omQ ?_;refine qJ ?_;refine qW omQ ?_;refine qJ ?_;refine qW omQ ?_;refine qJ ?_;refine qW omQ ?_;refine qJ ?_;refine qA rfl ?_) |with_reducible (refine qG ?_;(try dsimp only);refine qW omQ ?_;refine qJ ?_;refine qW omQ ?_;refine qJ ?_;refine qW omQ ?_;refine qJ ?_;refine qW omQ ?_;refine qJ ?_;refine qW omQ ?_;refine qJ ?_;refine qG ?_;(try dsimp only);refine qW omQ ?_;refine qJ ?_;refine qW omQ ?_;refine qJ ?_;refine qW omQ ?_;refine qJ ?_;refine qG ?_;(try dsimp only);refine qW omQ ?_;refine qJ ?_;refine qW omQ ?_;refine qJ ?_;refine qW omQ ?_;refine qJ ?_;refine qW omQ ?_;refine qJ ?_;refine qW omQ ?_;refine qJ ?_;refine qG ?_;(try dsimp only);refine qW omQ ?_;refine qJ ?_;refine qW omQ ?_;refine qJ ?_;refine qk omQ ?_;refine qK ?_;refine qA rfl ?_) |with_reducible (refine qG ?_;(try dsimp only);refine qW omQ ?_;refine qJ ?_;refine qW omQ ?_;refine qJ ?_;refine qW omQ ?_;refine qJ ?_;refine qW omQ ?_;refine qJ ?_;refine qW omQ ?_;refine qJ ?_;refine qG ?_;(try dsimp only);refine qW omQ ?_;refine qJ ?_;refine qW omQ ?_;refine qJ ?_;refine qW omQ ?_;refine qJ ?_;refine qG ?_;(try dsimp only);refine qW omQ ?_;refine qJ ?_;refine qW omQ ?_;refine qJ ?_;refine qW omQ ?_;refine qJ ?_;refine qW omQ ?_;refine qJ ?_;refine qW omQ ?_;refine qJ ?_;refine qG ?_;(try dsimp only);refine qW omQ ?_;refine qJ ?_;refine qk omQ ?_;refine qK ?_;refine qA rfl ?_) |with_reducible (refine qG ?_;(try dsimp only);refine qW omQ ?_;refine qJ ?_;refine qW omQ ?_;refine qJ ?_;refine qW omQ ?_;refine qJ ?_;refine qW omQ ?_;refine qJ ?_;refine qW omQ ?_;refine qJ ?_;refine qG ?_;(try dsimp only);refine qW omQ ?_;refine qJ ?_;refine qW omQ ?_;refine qJ ?_;refine qW omQ ?_;refine qJ ?_;refine qG ?_;(try dsimp only);refine qW omQ ?_;refine qJ ?_;refine qW omQ ?_;refine qJ ?_;refine qW omQ ?_;refine qJ ?_;refine qW omQ ?_;refine qJ ?_;refine qW omQ ?_;refine qJ ?_;refine qG ?_;(try dsimp only);refine qk omQ ?_;refine qK ?_;refine qK ?_;refine qA rfl ?_) |with_reducible (refine qG ?_;(try dsimp only);refine qW omQ ?_;refine qJ ?_;refine qW omQ ?_;refine qJ ?_;refine qW omQ ?_;refine qJ ?_;refine qW omQ ?_;refine qJ ?_;refine qW omQ ?_;refine qJ ?_;refine qG ?_;(try dsimp only);refine qW omQ ?_;refine qJ ?_;refine qW omQ ?_;refine qJ ?_;refine qW omQ ?_;refine qJ ?_;refine qG ?_;(try dsimp only);refine qW omQ ?_;refine qJ ?_;refine qW omQ ?_;refine qJ ?_;refine qW omQ ?_;refine qJ ?_;refine qW omQ ?_;refine qJ ?_;refine qk omQ ?_;refine qK ?_;refine qQ ?_;refine qZ ‹_› e_1 rfl ?_) |with_reducible (refine qG ?_;(try dsimp only);refine qW omQ ?_;refine qJ ?_;refine qW omQ ?_;refine qJ ?_;refine qW omQ ?_;refine qJ ?_;refine qW omQ ?_;refine qJ ?_;refine qW omQ ?_;refine qJ ?_;refine qG ?_;(try dsimp only);refine qW omQ ?_;refine qJ ?_;refine qW omQ ?_;refine qJ ?_;refine qW omQ ?_;refine qJ ?_;refine qG ?_;(try dsimp only);refine qW omQ ?_;refine qJ ?_;refine qW omQ ?_;refine qJ ?_;refine qW omQ ?_;refine qJ ?_;refine qk omQ ?_;refine qK ?_;refine qQ ?_;refine qZ ‹_› e_1 rfl ?_) |with_reducible (refine qG ?_;(try dsimp only);refine qW omQ ?_;refine qJ ?_;refine qW omQ ?_;refine qJ ?_;refine qW omQ ?_;refine qJ ?_;refine qW omQ ?_;refine qJ ?_;refine qW omQ ?_;refine qJ ?_;refine qG ?_;(try dsimp only);refine qW omQ ?_;refine qJ ?_;refine qW omQ ?_;refine qJ ?_;refine qW omQ ?_;refine qJ ?_;refine qG ?_;(try dsimp only);refine qW omQ ?_;refine qJ ?_;refine qW omQ ?_;refine qJ ?_;refine qk omQ ?_;refine qK ?_;refine qA rfl ?_) |with_reducible (refine qG ?_;(try dsimp only);refine qW omQ ?_;refine qJ ?_;refine qW omQ ?_;refine qJ ?_;refine qW omQ ?_;refine qJ ?_;refine qW omQ ?_;refine qJ ?_;refine qW omQ ?_;refine qJ ?_;refine qG ?_;(try dsimp only);refine qW omQ ?_;refine qJ ?_;refine qW omQ ?_;refine qJ ?_;refine qW omQ ?_;refine qJ ?_;refine qG ?_;(try dsimp only);refine qW omQ ?_;refine qJ ?_;refine qk omQ ?_;refine qK ?_;refine qK ?_;refine qA rfl ?_) |with_reducible (refine qG ?_;(try dsimp only);refine qW omQ ?_;refine qJ ?_;refine qW omQ ?_;refine qJ ?_;refine qW omQ ?_;refine qJ ?_;refine qW omQ ?_;refine qJ ?_;refine qW omQ ?_;refine qJ ?_;refine qG ?_;(try dsimp only);refine qW omQ ?_;refine qJ ?_;refine qW omQ ?_;refine qJ ?_;refine qW omQ ?_;refine qJ ?_;refine qG ?_;(try dsimp only);refine qk omQ ?_;refine qK ?_;refine qK ?_;refine qA rfl ?_) |with_reducible (refine qG ?_;(try dsimp only);refine qW omQ ?_;refine qJ ?_;refine qW omQ ?_;refine qJ ?_;refine qW omQ ?_;refine qJ ?_;refine qW omQ ?_;refine qJ ?_;refine qW omQ ?_;refine qJ ?_;refine qG ?_;(try dsimp only);refine qW omQ ?_;refine qJ ?_;refine qW omQ ?_;refine qJ ?_;refine qk omQ ?_;refine qK ?_;refine qA rfl ?_) |with_reducible (refine qG ?_;(try dsimp only);refine qW omQ ?_;refine qJ ?_;refine qW omQ ?_;refine qJ ?_;refine qW omQ ?_;refine qJ ?_;refine qW omQ ?_;refine qJ ?_;refine qW omQ ?_;refine qJ ?_;refine qG ?_;(try dsimp only);refine qW omQ ?_;refine qJ ?_;refine qk omQ ?_;refine qK ?_;refine qK ?_;refine qA rfl ?_) |with_reducible (refine qG ?_;(try dsimp only);refine qW omQ ?_;refine qJ ?_;refine qW omQ ?_;refine qJ ?_;refine qW omQ ?_;refine qJ ?_;refine qW omQ ?_;refine qJ ?_;refine qW omQ ?_;refine qJ ?_;refine qG ?_;(try dsimp only);refine qk omQ ?_;refine qK ?_;refine qK ?_;refine qA rfl ?_) |with_reducible (refine qG ?_;(try dsimp only);refine qW omQ ?_;refine qJ ?_;refine qW omQ ?_;refine qJ ?_;refine qW omQ ?_;refine qJ ?_;refine qW omQ ?_;refine qJ ?_;refine qk omQ ?_;refine qK ?_;refine qQ ?_;refine qZ ‹_› e_1 rfl ?_) |with_reducible (refine qG ?_;(try dsimp only);refine qW omQ ?_;refine qJ ?_;refine qk omQ ?_;refine qK ?_;refine qQ ?_;refine qZ ‹_› e_1 rfl ?_;refine qA rfl ?_) |with_reducible (refine qG ?_;(try dsimp only);refine qW omQ ?_;refine qJ ?_;refine qW omQ ?_;refine qJ ?_;refine qk omQ ?_;refine qK ?_;refine qQ ?_;refine qZ ‹_› e_1 rfl ?_) |with_reducible (refine qG ?_;(try dsimp only);refine qW omQ ?_;refine qJ ?_;refine qW omQ ?_;refine qJ ?_;refine qW omQ ?_;refine qJ ?_;refine qk omQ ?_;refine qK ?_;refine qA rfl ?_) |with_reducible (refine qG ?_;(try dsimp only);refine qk omQ ?_;refine qK ?_;refine qK ?_;refine qQ ?_;refine qZ ‹_› e_1 rfl ?_;refine qA rfl ?_))
 ·exact fin (1,a,0,0,kx.2.2.2.2) _ (.of (WD omQ) (by dsimp only;omega) hN) H2
 ·exact fin (1,a,0,0,kx.2.2.2.2) _ (.of (WD omQ) (by dsimp only;omega) hN) H2
 ·refine Xb od ?_;obtain⟨m,hm⟩:∃m:Nat,kx.2.2.2.2=m:=⟨kx.2.2.2.2.toNat,by omega⟩;have ht:kx.2.2.2.2.tmod ((20:Nat):Int)=((m%20:Nat):Int):=by rw[hm];rfl
  rw[ht];refine qA rfl ?_;exact fin (1,a,0,0,((m%20:Nat):Int)) _ (.of (WD omQ) (by dsimp only;omega) (by dsimp only;omega)) H2
 ·exact fin (2,a,b,0,0) _ (.of (I8 omQ omQ) (by dsimp only;omega) z0) H2
 ·refine Xb od ?_;obtain⟨m,hm⟩:∃m:Nat,kx.2.2.2.2=m:=⟨kx.2.2.2.2.toNat,by omega⟩;have ht:kx.2.2.2.2.tmod ((64:Nat):Int)=((m%64:Nat):Int):=by rw[hm];rfl
  rw[ht];refine yP omQ ?_;refine qY (xp omQ omQ omQ omQ) ?_;rintro _ _ ⟨rfl,rfl⟩;have ho:=z9 ((m%64:Nat):Int) (show(((0:Nat):Int))≤((4:Nat):Int) by omega);generalize zx ((m%64:Nat):Int) ((0:Nat):Int) ((4:Nat):Int)=o at*;refine qE omQ ?_;refine qA rfl ?_;exact fin (((3:Nat):Int)+o,a,b,c,0) _ (.of (I9 omQ omQ omQ omQ) (by dsimp only;omega) z0) H2
 ·exact fin (8,a,7,at_,0) _ (.of (Kc (.inl rfl) omQ omQ omQ) (by dsimp only;omega) z0) H2
 ·exact fin (8,a,7,at_,0) _ (.of (Kc (.inl rfl) omQ omQ omQ) (by dsimp only;omega) z0) H2
 ·exact fin (8,a,7,at_,0) _ (.of (Kc (.inl rfl) omQ omQ omQ) (by dsimp only;omega) z0) H2
 ·exact fin (9,7,b,at_,0) _ (.of (Kc (.inr rfl) omQ omQ omQ) (by dsimp only;omega) z0) H2
 ·exact fin (9,7,b,at_,0) _ (.of (Kc (.inr rfl) omQ omQ omQ) (by dsimp only;omega) z0) H2
 ·exact fin (9,7,b,at_,0) _ (.of (Kc (.inr rfl) omQ omQ omQ) (by dsimp only;omega) z0) H2
 ·refine qY (xp omQ omQ omQ omQ) ?_;rintro _ _ ⟨rfl,rfl⟩;have ho:=z9 kx.2.2.2.1 (show(((0:Nat):Int))≤((3:Nat):Int) by omega);generalize zx kx.2.2.2.1 ((0:Nat):Int) ((3:Nat):Int)=o at*;refine qA rfl ?_;exact fin (8,a,b,o,0) _ (.of (Kc (.inl rfl) omQ omQ omQ) (by dsimp only;omega) z0) H2
 ·refine qY (xp omQ omQ omQ omQ) ?_;rintro _ _ ⟨rfl,rfl⟩;have ho:=z9 kx.2.2.2.1 (show(((0:Nat):Int))≤((3:Nat):Int) by omega);generalize zx kx.2.2.2.1 ((0:Nat):Int) ((3:Nat):Int)=o at*;refine qA rfl ?_;exact fin (9,a,b,o,0) _ (.of (Kc (.inr rfl) omQ omQ omQ) (by dsimp only;omega) z0) H2
 ·exact fin (10,a,b,0,0) _ (.of (qxf omQ omQ) (by dsimp only;omega) z0) H2
 ·exact fin (10,a,b,0,0) _ (.of (qxf omQ omQ) (by dsimp only;omega) z0) H2
 ·exact fin (11,a,0,0,0) _ (.of (qvD (.inl rfl) omQ) (by dsimp only;omega) z0) H2
 ·exact fin (8,a,7,at_,0) _ (.of (Kc (.inl rfl) omQ omQ omQ) (by dsimp only;omega) z0) H2
 ·exact fin (21,a,0,0,0) _ (.of (qvD (.inr rfl) omQ) (by dsimp only;omega) z0) H2
end
section
variable {g h:AH} {L R:List SP}
theorem qKt (l:List Int):jW (l.map (AV.int .i64))=true:=by unfold jW;rw[List.all_eq_true];intro y hy;obtain⟨z,_,rfl⟩:=List.mem_map.1 hy;rfl
theorem kl (l:List qO) (st:List Int):(zg l st).length=st.length:=by simp[zg]
theorem WE {l:List qO} {st:List Int} (hn:st≠[]):(zg l st)[st.length-1]? =some (cQ l st):=by have hl:=List.length_pos_iff.2 hn;rw[qXo hn,List.getLast?_eq_getElem?,kl,iW (by grind[kl])];rfl
theorem Nb {l:List qO} {st:List Int}:(XL l st).length=l.length+1:=by simp[XL]
theorem qJF {n:Nat} (hn:1≤n) {calm:Bool} {l:List qO} {st:List Int} {lv ov:AV} (B:dk calm l st) (bW:st≠[]) (ho:cQ l st=14∨cQ l st=17∨cQ l st=18) (hl:l.length≤1000)
  (H:HS g h (yh lv l::Kz ov (zg l st)::R)) :
  ba n 34 [lv,ov] h λr h'=>∃fT rF,r=.cA [fT,rF]∧HS g h' (yh fT (XL l st)::Kz rF (zg (XL l st) (GT l st))::R):=by
 refine cu (S:=S34) rfl omQ λk hk=>?_;unfold S34;try simp only[iZ]
 have hp:=List.length_pos_iff.2 bW;have h5:=B.pL;have ei:=kl l st;have cx:=WE (l:=l) bW;obtain⟨B2,r5⟩:=B.shut bW ho;rw[r5];have H0:HS g h (qC 101 5 l.length lv (l.flatMap ju)::qC 3 1 (zg l st).length ov ((zg l st).map (.int .i64))::R):=H;refine qr H0 e_1 ?_;rw[ei];refine qn omQ ?_;rw[show(st.length:Int)-((1:Nat):Int)=((st.length-1:Nat):Int) by omega];refine zO (H0.sl e_1) (x:=.int .i64 (cQ l st)) (by grind) ?_;have hdl:(zg l st).dropLast=(zg l st).take (st.length-1):=by rw[List.dropLast_eq_take,ei]
 have tail:∀(op:Int),(cQ l st=14∧op=15∨cQ l st=18∧op=19)→
   wp (vL (α:=AV×AV×Unit→AH→Go.Ae.R) (λs5 h6=>some ((.cA [s5.2.1,s5.1]),h6)) λj7=>zc [(.int .i64 ((0:Nat):Int)),(.int .i64 ((0:Nat):Int)),(.int .i64 ((0:Nat):Int)),(.int .i64 ((0:Nat):Int)),(.int .u64 ((0:Nat):Int))] [(0,1,(.int .i64 op))] λv8=>
    xd h 101 [(.int .i64 ((0:Nat):Int)),(.int .i64 ((0:Nat):Int)),(.int .i64 ((0:Nat):Int)),(.int .i64 ((0:Nat):Int)),(.int .u64 ((0:Nat):Int))] 1 [(0,5,v8)] λv9 ia=>
    xH ia 101 5 lv v9 λv11 iP=>xC iP 3 1 ov none (some (.int .i64 ((st.length-1:Nat):Int))) λuG=>
    kA ov (some (3*65536+1)) uG ia iP h.nx<| j7 (uG,v11,()) iP)
   λr h'=>∃fT rF,r=.cA [fT,rF]∧HS g h' (yh fT (XL l st)::Kz rF ((zg l st).dropLast++(if cQ l st=17 then[18]else[]))::R):=by
  intro op mz;refine qG ?_
  try dsimp only
  refine qA (l:=ju (one op)) rfl ?_;refine jY (n:=1) (l:=ju (one op)) (sz:=5) H0 rfl rfl rfl rfl λv9 ia dC=>?_;have S:Sl (λ_=>True) ia 5 [one op].length v9 ([one op].flatMap ju):=dC.sl .here;refine Qm (dC.aJ (P:=yh lv l) e_1) S (by grind) λv11 iP fK=>?_;refine JS (hi:=st.length-1) (fK.aJ (P:=qC 3 1 (zg l st).length ov ((zg l st).map (.int .i64))) e_2) omQ omQ λuG r6=>?_;refine qZP dC (s:=e_2) fK e_2 H0 e_1 omQ omQ rfl ?_;rw[Nat.mul_one,← List.map_take,← hdl]at r6;have nb:¬cQ l st=17:=by omega
  rw[iQ nb,List.append_nil];refine qq ⟨v11,uG,rfl,?_⟩;have e:XL l st=l++[one op]:=by
   grind[XL,gT]
  rw[e];unfold Kz;rw[show(zg l st).dropLast.length=st.length-1 by grind];exact r6.sub (.cons e_1 (.cons .here (.drop .refl)))
 by_cases B4:cQ l st=14
 ·refine qk B4 (qK ?_);exact tail 15 (.inl ⟨B4,rfl⟩)
 refine qW B4 (qJ ?_);by_cases RA:cQ l st=17
 ·refine qk RA (qK ?_);refine JS (hi:=st.length-1) (H0.aJ (P:=qC 3 1 (zg l st).length ov ((zg l st).map (.int .i64))) e_1) omQ omQ λtJ H2=>?_;rw[Nat.mul_one,← List.map_take,← hdl]at H2;have hdn:(zg l st).dropLast.length=st.length-1:=by grind
  have S:Sl (λ_=>True) h 1 (st.length-1) tJ ((zg l st).dropLast.map (.int .i64)):=H2.sl .here;refine zA (H2.aj (e:=3) (sz:=1)) S omQ omQ (qKt _) λBO h3 H3=>?_;rw[List.nil_append,Nat.zero_add]at H3;refine jY (n:=1) (l:=[.int .i64 ((18:Nat):Int)]) (sz:=1) H3 rfl rfl rfl rfl λry h4 H4=>?_;refine zA (H4.aJ e_1) (H4.sl .here) omQ omQ rfl λv20 h5 H5=>?_;refine qA (l:=ju (one 18)) rfl ?_;refine jY (n:=1) (l:=ju (one 18)) (sz:=5) H5 rfl rfl rfl rfl λBQ h6 H6=>?_;have S6:Sl (λ_=>True) h6 5 [one 18].length BQ ([one 18].flatMap ju):=H6.sl .here;refine Qm (H6.aJ (P:=yh lv l) e_4) S6 (by grind) λtP h7 H7=>?_;rw[iJ RA];refine qq ⟨tP,v20,rfl,?_⟩;have e:XL l st=l++[one 18]:=by grind[XL,gT]
  rw[e];unfold Kz;rw[List.length_append,hdn,List.map_append];exact H7.sub (.cons .here (.cons e_1 (.drop (.drop (.drop .refl)))))
 ·refine qW RA (qJ ?_);exact tail 19 (.inr ⟨by omega,rfl⟩)
def YJ (o:List Int):Nat:=(o.map λx=>if x=17 then 2 else 1).sum
theorem qJ0 (a b:List Int):YJ (a++b)=YJ a+YJ b:=by simp[YJ]
theorem qyp (o:List Int):YJ o≤2*o.length:=by
 induction o with
 |nil=>simp[YJ]
 |cons x o ih=>grind[YJ,List.length_cons]
theorem qqf {l:List qO} {st:List Int} (bW:st≠[]):YJ ((zg l st).dropLast++(if cQ l st=17 then[18]else[]))+1=YJ (zg l st):=by
 have h1:zg l st≠[]:=by intro h;have:=congrArg List.length h;simp_all[kl,iA]
 have h2:=List.dropLast_concat_getLast h1;have h3:(zg l st).getLast h1=cQ l st:=by grind[qXo,List.getLast?_eq_some_getLast]
 grind[YJ,zg,cQ,qJ0]
def pM (l:List qO) (st:List Int):Prop:=∀o∈zg l st,o=14∨o=17∨o=18
theorem pM.at {l:List qO} {st:List Int} (h:pM l st) (bW:st≠[]):cQ l st=14∨cQ l st=17∨cQ l st=18:=h _ (List.mem_of_getElem? (WE bW))
set_option maxHeartbeats 8000000 in
theorem qxs {n:Nat} (hn:5≤n) {calm:Bool} {ks:List qO} {kv:AV} {most:Int} (hN:∀x∈ks,0≤x.2.2.2.2∧x.2.2.2.2<18446744073709551616) (hm:1≤most∧most≤40) (H:HS g h R) (S:Rd g R 5 ks.length kv (ks.flatMap ju)) :
  ba n 21 [kv,.int .i64 most,.bool calm] h λr h'=>∃lv l,r=.agg [lv]∧dk calm l []∧0<l.length∧(l.length:Int)≤most∧HS g h' (yh lv l::R):=by
 refine dV (S:=S21) rfl omQ λk hk=>?_;unfold S21;try simp only[iZ]
 refine qh H rfl λb0 h1 H1=>?_;clear H;have H1:=(H1.aj (e:=3) (sz:=1)).aj (e:=101) (sz:=5);refine jc [] (λs h'=>∃(l:List qO) (st:List Int) (lv ov:AV),s=(ov,lv,.ptr b0 0,())∧dk calm l st∧pM l st∧(l.length:Int)+2*st.length≤most∧HS g h' (yh lv l::Kz ov (zg l st)::qv b0 [.aj]::R)) ?_ ?_
 rotate_left
 ·rintro s h2 ⟨l,st,lv,ov,rfl,B,OK,hle,H2⟩;dsimp only;have hW:(l.length:Int)+YJ (zg l st)≤most:=by
   have:=qyp (zg l st);rw[kl]at this;omega
  refine jB (λm s h'=>∃(l:List qO) (st:List Int) (lv ov:AV),s=(ov,lv,.ptr b0 0,())∧m=YJ (zg l st)∧dk calm l st∧pM l st∧(l.length:Int)+YJ (zg l st)≤most∧HS g h' (yh lv l::Kz ov (zg l st)::qv b0 [.aj]::R))
   ?_ (m:=YJ (zg l st)) (by show _<1000000000;omega) ⟨l,st,lv,ov,rfl,rfl,B,OK,hW,H2⟩
  clear H2 hW hle OK B st lv ov l;rintro m ih s h3 bj ⟨l,st,lv,ov,rfl,rfl,B,OK,hW,H⟩;dsimp only;have ei:=kl l st;refine qr (n:=(zg l st).length) (H:HS g h3 (yh lv l::qC 3 1 (zg l st).length ov ((zg l st).map (.int .i64))::qv b0 [.aj]::R)) e_1 ?_;rw[ei];by_cases h0:st=[]
  ·subst h0;refine xJ aM (qJ ?_);refine jc [] (λs h'=>∃(l:List qO) (lv:AV),s=(lv,.ptr b0 0,())∧dk calm l []∧0<l.length∧(l.length:Int)≤most∧HS g h' (yh lv l::qv b0 [.aj]::R)) ?_ ?_
   ·intro j hj;refine qr (n:=l.length) (H:HS g h3 (qC 101 5 l.length lv (l.flatMap ju)::Kz ov (zg l [])::qv b0 [.aj]::R)) .here ?_;by_cases fY:l.length=0
    ·refine qk omQ (qK ?_);obtain rfl:=iA fY;refine qA (l:=ju (1,0,0,0,1)) rfl ?_;refine jY (n:=1) (l:=ju (1,0,0,0,1)) (sz:=5) H rfl rfl rfl rfl λAl h4 H4=>?_;have S1:Sl (λ_=>True) h4 5 [((1,0,0,0,1):qO)].length Al ([((1,0,0,0,1):qO)].flatMap ju):=H4.sl .here;refine Qm (H4.aJ (P:=yh lv []) e_1) S1 aM λAm h5 H5=>?_;refine hj _ _ ⟨_,Am,rfl,B.flat (x:=(1,0,0,0,1)) ⟨by decide,by decide,by decide,λ_=>by decide⟩ (by unfold Flat;decide) od,by simp,by simp;omega,H5.sub (.cons .here (.drop (.drop (.cons .here .refl))))⟩
    ·refine qW omQ (qJ ?_);exact hj _ _ ⟨l,lv,rfl,B,by omega,by omega,H.sub (.cons .here (.drop (.cons .here .refl)))⟩
   ·rintro s h5 ⟨l,lv,rfl,B,fY,hlm,H5⟩;dsimp only;have ol:=H5.one (e:=101) (sz:=5) (n:=l.length) .here;refine qA (l:=[lv]) (by simp only[gn,ol.1];rfl) ?_;refine zq H5 (b:=b0) e_1 rfl aM (by show jW [lv]=true;simp[jW,ol.2]) λh6 H6=>?_;have H6:HS g h6 (qv b0 [lv]::yh lv l::R):=H6;refine qj (qo H6 (b:=b0) (off:=0) .here rfl omQ (l:=[lv]) rfl ?_);exact qq ⟨lv,l,rfl,B,fY,hlm,H6.drop⟩
  ·have hp:=List.length_pos_iff.2 h0;refine xL omQ (qK ?_);refine qY (qJF omQ B h0 (OK.at h0) omQ H) ?_;rintro _ h4 ⟨fT,rF,rfl,H4⟩;obtain⟨B2,r5⟩:=B.shut h0 (OK.at h0);have hw:=qqf (l:=l) h0;rw[← r5]at hw;refine qi rfl (qi rfl ?_);refine bj (YJ (zg (XL l st) (GT l st))) _ _ omQ ⟨_,_,fT,rF,rfl,rfl,B2,?_,by rw[Nb];omega,H4⟩;intro o ho;rw[r5]at ho;rcases List.mem_append.1 ho with ho |ho
   ·exact OK o ((List.dropLast_sublist _).subset ho)
   ·split at ho
    ·rw[List.mem_singleton]at ho;omega
    ·cases ho
 intro j5 RC;refine jB (λm s h'=>∃(i:Nat) (l:List qO) (st:List Int) (lv ov:AV),s=(.int .i64 (i:Int),ov,lv,.ptr b0 0,.bool calm,.int .i64 most,kv,())∧m=41-l.length∧i≤l.length∧dk calm l st∧pM l st∧(l.length:Int)+2*st.length≤most∧HS g h' (yh lv l::Kz ov (zg l st)::qv b0 [.aj]::R))
  ?_ (m:=41) (by show _<1000000000;omega) ⟨0,[],[],.aj,.aj,rfl,rfl,by simp,dk.nil calm,(λo ho=>by cases ho),by simp;omega,H1⟩
 clear H1;rintro m ih s h2 bj ⟨i,l,st,lv,ov,rfl,rfl,oQ,B,OK,hle,H⟩;dsimp only;refine yH (S.sl H.drop.drop.drop) ?_;refine j8 (λap=>qK ?_) λeO=>qJ (RC _ _ ⟨l,st,lv,ov,rfl,B,OK,hle,H⟩);have ap:i<ks.length:=by omega
 refine xI (l:=ju ks[i]) (S.sl H.drop.drop.drop) ap omQ (w5 (sz:=5) (λ_=>rfl) (iW ap)) ?_;have WG:=hN ks[i] (List.getElem_mem ap);generalize ks[i]=kx at*;refine qh H rfl λb3 h3 H3=>zq H3 .here rfl (by show 0+5≤5;omega) rfl λh5 H5=>?_;have H5:HS g h5 (qv b3 (ju kx)::yh lv l::Kz ov (zg l st)::qv b0 [.aj]::R):=H5;have H6:HS g h5 (qv b3 (ju kx)::qC 101 5 l.length lv (l.flatMap ju)::qC 3 1 (zg l st).length ov ((zg l st).map (.int .i64))::qv b0 [.aj]::R):=H5;clear H H3;have ei:=kl l st;refine qr H6 e_2 ?_;rw[ei];refine qr H6 e_1 ?_;refine Vg omQ (qE omQ (qE omQ ?_));refine kw (λhg=>qK (RC _ _ ⟨l,st,lv,ov,rfl,B,OK,hle,H5.drop⟩)) λhg=>qJ ?_;refine qQ (qZ H5 (b:=b3) .here rfl ?_);refine qY (xp omQ omQ omQ omQ) ?_;rintro _ h5 ⟨rfl,rfl⟩;have uL:=z9 kx.1 (show(((0:Nat):Int))≤((40:Nat):Int) by omega);generalize zx kx.1 ((0:Nat):Int) ((40:Nat):Int)=w at*;refine jc [] (λs h'=>∃(l':List qO) (st':List Int) (fT rF:AV),s=(.int .i64 (i:Int),rF,fT,.ptr b0 0,.bool calm,.int .i64 most,kv,())∧dk calm l' st'∧pM l' st'∧(l'.length:Int)+2*st'.length≤most∧l.length<l'.length∧HS g h' (yh fT l'::Kz rF (zg l' st')::qv b0 [.aj]::R)) ?_ ?_
 rotate_left
 ·rintro s h7 ⟨l',st',fT,rF,rfl,B',OK',u0,Ab,H7⟩;dsimp only;refine qE omQ ?_;exact bj (41-l'.length) _ _ omQ ⟨i+1,l',st',fT,rF,rfl,rfl,by omega,B',OK',u0,H7⟩
 intro j hj;have hfive:=B.pL;have Bt:l.length≤100:=by omega
 have same:∀{t:List qO},pM (l++t) st:=λ{t} o ho=>OK o (by rw[GF B.tZ]at ho;exact ho);have ig:∀{t:List qO},zg (l++t) st=zg l st:=GF B.tZ
 have fg:wp (jr h5 (.ptr b3 0) 5 λWH=>xS (callT tab qL k) (.fn 36 [] []) [WH] h5 λWI WJ=>xd WJ 101 [(.int .i64 ((0:Nat):Int)),(.int .i64 ((0:Nat):Int)),(.int .i64 ((0:Nat):Int)),(.int .i64 ((0:Nat):Int)),(.int .u64 ((0:Nat):Int))] 1 [(0,5,WI)] λWL WM=>
   xH WM 101 5 lv WL λWN WO=>j (.int .i64 (i:Int),ov,WN,.ptr b0 0,.bool calm,.int .i64 most,kv,()) WO []) (λr h'=>∃lv l,r=.agg [lv]∧dk calm l []∧0<l.length∧(l.length:Int)≤most∧HS g h' (yh lv l::R)):=by
  refine qo H5 (b:=b3) (off:=0) .here rfl omQ (l:=ju kx) rfl ?_;refine qY (Gm omQ WG H5) ?_;rintro _ h7 ⟨x,rfl,hx,H7⟩;refine jY (n:=1) (l:=ju x) (sz:=5) H7 rfl rfl rfl rfl λv8 h8 H8=>?_;have S1:Sl (λ_=>True) h8 5 [x].length v8 ([x].flatMap ju):=by simpa using H8.sl .here
  refine Qm (H8.aJ (P:=yh lv l) e_2) S1 (by simp;omega) λv9 h9 H9=>?_;refine hj _ _ ⟨l++[x],st,v9,ov,rfl,B.flat (hx.ok calm) hx.flat hx.nj,same,by simp;omega,by simp,?_⟩;rw[ig];exact H9.sub (.cons .here (.drop (.drop (.cons .here (.cons .here .refl)))))
 have WQ:∀op:Int,op=14∨op=17→st.length<5→wp (xd h5 101 [(.int .i64 ((0:Nat):Int)),(.int .i64 ((0:Nat):Int)),(.int .i64 ((0:Nat):Int)),(.int .i64 ((0:Nat):Int)),(.int .u64 ((0:Nat):Int))] 1 [(0,5,.agg (ju (one op)))] λtN T7=>xH T7 101 5 lv tN λAq h66=>
   xd h66 3 [(.int .i64 ((0:Nat):Int))] 1 [(0,1,(.int .i64 op))] λDp h68=>xH h68 3 1 ov Dp λDr EN=>j (.int .i64 (i:Int),Dr,Aq,.ptr b0 0,.bool calm,.int .i64 most,kv,()) EN []) (λr h'=>∃lv l,r=.agg [lv]∧dk calm l []∧0<l.length∧(l.length:Int)≤most∧HS g h' (yh lv l::R)):=by
  intro op mz WR;refine jY (n:=1) (l:=ju (one op)) (sz:=5) H5 rfl rfl rfl rfl λv8 h8 H8=>?_;have S1:Sl (λ_=>True) h8 5 [one op].length v8 ([one op].flatMap ju):=by simpa using H8.sl .here
  refine Qm (H8.aJ (P:=yh lv l) e_2) S1 (by simp;omega) λv9 h9 H9=>?_;refine jY (n:=1) (l:=[.int .i64 op]) (sz:=1) H9 rfl rfl rfl rfl λv10 ia dC=>?_;refine zA (dC.aJ (P:=qC 3 1 (zg l st).length ov ((zg l st).map (.int .i64))) e_4) (dC.sl .here) omQ omQ rfl λv11 dO eQ=>?_;obtain⟨B2,ho2⟩:=B.begin mz WR;refine hj _ _ ⟨l++[one op],st++[(l.length:Int)],v9,v11,rfl,B2,?_,by simp;omega,by simp,?_⟩
  ·intro o ho;rw[ho2]at ho;rcases List.mem_append.1 ho with ho |ho
   ·exact OK o ho
   ·rw[List.mem_singleton]at ho;omega
  ·rw[ho2];unfold Kz;rw[List.length_append,List.map_append];exact eQ.sub (.cons e_2 (.cons .here (.drop (.drop (.drop (.cons .here .refl))))))
 have shu:0<st.length→wp (xS (callT tab qL k) (.fn 34 [] []) [lv,ov] h5 λv98 h99=>wn v98 0 λWS=>wn v98 1 λDG=>j (.int .i64 (i:Int),DG,WS,.ptr b0 0,.bool calm,.int .i64 most,kv,()) h99 []) (λr h'=>∃lv l,r=.agg [lv]∧dk calm l []∧0<l.length∧(l.length:Int)≤most∧HS g h' (yh lv l::R)):=by
  intro hp;have bW:=List.length_pos_iff.1 hp;refine qY (qJF omQ B bW (OK.at bW) omQ (H5.sub (L':=yh lv l::Kz ov (zg l st)::qv b3 (ju kx)::qv b0 [.aj]::R) (.cons e_1 (.cons e_1 (.cons .here (.cons .here .refl)))))) ?_;rintro _ h7 ⟨fT,rF,rfl,H7⟩;obtain⟨B2,r5⟩:=B.shut bW (OK.at bW);have rS:(GT l st).length≤st.length:=by unfold GT;split<;>simp<;>omega
  refine qi rfl (qi rfl ?_);refine hj _ _ ⟨_,_,fT,rF,rfl,B2,?_,by rw[Nb];omega,by rw[Nb];omega,H7.sub (.cons .here (.cons .here (.drop (.cons .here .refl))))⟩;intro o ho;rw[r5]at ho;rcases List.mem_append.1 ho with ho |ho
  ·exact OK o ((List.dropLast_sublist _).subset ho)
  ·split at ho
   ·rw[List.mem_singleton]at ho;omega
   ·cases ho
 have und:cQ l st=14→wp (xd h5 101 [(.int .i64 ((0:Nat):Int)),(.int .i64 ((0:Nat):Int)),(.int .i64 ((0:Nat):Int)),(.int .i64 ((0:Nat):Int)),(.int .u64 ((0:Nat):Int))] 1 [(0,5,.agg (ju (one 16)))] λv8 h8=>xH h8 101 5 lv v8 λv9 h9=>j (.int .i64 (i:Int),ov,v9,.ptr b0 0,.bool calm,.int .i64 most,kv,()) h9 []) (λr h'=>∃lv l,r=.agg [lv]∧dk calm l []∧0<l.length∧(l.length:Int)≤most∧HS g h' (yh lv l::R)):=by
  intro B5;refine jY (n:=1) (l:=ju (one 16)) (sz:=5) H5 rfl rfl rfl rfl λv8 h8 H8=>?_;have S1:Sl (λ_=>True) h8 5 [one 16].length v8 ([one 16].flatMap ju):=by simpa using H8.sl .here
  refine Qm (H8.aJ (P:=yh lv l) e_2) S1 (by simp;omega) λv9 h9 H9=>?_;refine hj _ _ ⟨l++[one 16],st,v9,ov,rfl,B.WA B5,same,by simp;omega,by simp,?_⟩;rw[ig];exact H9.sub (.cons .here (.drop (.drop (.cons .here (.cons .here .refl)))))
 have pair:∀(x y:qO) (h7:AH),HS g h7 (qv b3 (ju kx)::yh lv l::Kz ov (zg l st)::qv b0 [.aj]::R)→dk calm (l++[x,y]) st→(l.length:Int)+2*st.length+5≤most→wp (xd h7 101 [(.int .i64 ((0:Nat):Int)),(.int .i64 ((0:Nat):Int)),(.int .i64 ((0:Nat):Int)),(.int .i64 ((0:Nat):Int)),(.int .u64 ((0:Nat):Int))] 2 [(0,5,.agg (ju x)),(5,5,.agg (ju y))] λv8 h8=>
   xH h8 101 5 lv v8 λv9 h9=>j (.int .i64 (i:Int),ov,v9,.ptr b0 0,.bool calm,.int .i64 most,kv,()) h9 []) (λr h'=>∃lv l,r=.agg [lv]∧dk calm l []∧0<l.length∧(l.length:Int)≤most∧HS g h' (yh lv l::R)):=by
  intro x y h7 H7 B7 hm7;refine jY (n:=2) (l:=ju x++ju y) (sz:=5) H7 rfl rfl rfl rfl λv8 h8 H8=>?_;have S1:Sl (λ_=>True) h8 5 [x,y].length v8 ([x,y].flatMap ju):=by simpa using H8.sl .here
  refine Qm (H8.aJ (P:=yh lv l) e_2) S1 (by simp;omega) λv9 h9 H9=>?_;refine hj _ _ ⟨l++[x,y],st,v9,ov,rfl,B7,same,by simp;omega,by simp,?_⟩;rw[ig];exact H9.sub (.cons .here (.drop (.drop (.cons .here (.cons .here .refl)))))
 have zer:∀r:Int,0≤r∧r≤6→K8 calm (13,r,0,((l.length:Int)+((2:Nat):Int)),0):=λr hr=>⟨qz1 omQ omQ,by show(13:Int)≠23;decide,by show(0:Int)≤0∧(0:Int)<18446744073709551616;decide,λ_=>by show(13:Int)≠20∧(13:Int)≠22∧(13:Int)≠12;decide⟩
 have two:∀op:Int,op=20∨op=22→calm=false→wp (xS (callT tab qL k) (.fn 35 [] []) [.int .i64 kx.2.1] h5 λWU WV=>kH lv λWW=>j6 .add WW (.int .i64 ((2:Nat):Int)) λWY=>
   zc [(.int .i64 ((0:Nat):Int)),(.int .i64 ((0:Nat):Int)),(.int .i64 ((0:Nat):Int)),(.int .i64 ((0:Nat):Int)),(.int .u64 ((0:Nat):Int))] [(0,1,(.int .i64 ((13:Nat):Int))),(1,1,WU),(3,1,WY)] λWZ=>zc [(.int .i64 ((0:Nat):Int)),(.int .i64 ((0:Nat):Int)),(.int .i64 ((0:Nat):Int)),(.int .i64 ((0:Nat):Int)),(.int .u64 ((0:Nat):Int))] [(0,1,(.int .i64 op))] λW0=>
   xd WV 101 [(.int .i64 ((0:Nat):Int)),(.int .i64 ((0:Nat):Int)),(.int .i64 ((0:Nat):Int)),(.int .i64 ((0:Nat):Int)),(.int .u64 ((0:Nat):Int))] 2 [(0,5,WZ),(5,5,W0)] λv8 h8=>xH h8 101 5 lv v8 λv9 h9=>j (.int .i64 (i:Int),ov,v9,.ptr b0 0,.bool calm,.int .i64 most,kv,()) h9 []) (λr h'=>∃lv l,r=.agg [lv]∧dk calm l []∧0<l.length∧(l.length:Int)≤most∧HS g h' (yh lv l::R)):=by
  intro op mz ij;refine qY (Gv omQ) ?_;rintro _ h5 ⟨rfl,rfl⟩;have hr:=z9 kx.2.1 (show(0:Int)≤6 by omega);refine qr (n:=l.length) H6 e_1 (qE omQ ?_);refine qA (l:=ju (13,zx kx.2.1 0 6,0,((l.length:Int)+((2:Nat):Int)),0)) rfl ?_;refine qA (l:=ju (one op)) rfl ?_;refine pair _ _ _ H5 (B.two (zer _ hr) ⟨by rcases mz with rfl |rfl<;>decide,by dsimp only;omega,by show(0:Int)≤0∧(0:Int)<18446744073709551616;decide,λhh=>by rw[ij]at hh;cases hh⟩ (by show Flat 13;unfold Flat;decide) (by unfold Flat;dsimp only;omega) (λ_=>rfl) (λhh=>by dsimp only at hh;omega)) omQ
 have ovr:wp (vL (α:=AV×AV×AV×AV×AV×AV×AV×Unit→AH→Go.Ae.R) (λfU DH=>j (fU.1,fU.2.1,fU.2.2.1,fU.2.2.2.1,fU.2.2.2.2.1,fU.2.2.2.2.2.1,fU.2.2.2.2.2.2.1,()) DH []) λDI=>
   xS (callT tab qL k) (.fn 35 [] []) [.int .i64 kx.2.2.1] h5 λW2 DJ=>kH lv λW3=>j6 .add W3 (.int .i64 ((2:Nat):Int)) λW4=>
   zc [(.int .i64 ((0:Nat):Int)),(.int .i64 ((0:Nat):Int)),(.int .i64 ((0:Nat):Int)),(.int .i64 ((0:Nat):Int)),(.int .u64 ((0:Nat):Int))] [(0,1,(.int .i64 ((13:Nat):Int))),(1,1,W2),(3,1,W4)] λW5=>jr DJ (.ptr b3 0) 5 λLa=>xS (callT tab qL k) (.fn 36 [] []) [La] DJ λW6 W7=>
   xd W7 101 [(.int .i64 ((0:Nat):Int)),(.int .i64 ((0:Nat):Int)),(.int .i64 ((0:Nat):Int)),(.int .i64 ((0:Nat):Int)),(.int .u64 ((0:Nat):Int))] 2 [(0,5,W5),(5,5,W6)] λW8 W9=>xH W9 101 5 lv W8 λv195 h196=>
   kA (.ptr b3 0) (some 5) La h5 DJ h5.nx<| DI (.int .i64 (i:Int),ov,v195,.ptr b0 0,.bool calm,.int .i64 most,kv,()) h196) (λr h'=>∃lv l,r=.agg [lv]∧dk calm l []∧0<l.length∧(l.length:Int)≤most∧HS g h' (yh lv l::R)):=by
  refine qG ?_
  try dsimp only
  refine qY (Gv omQ) ?_;rintro _ h5 ⟨rfl,rfl⟩;have hr:=z9 kx.2.2.1 (show(0:Int)≤6 by omega);refine qr (n:=l.length) H6 e_1 (qE omQ ?_);refine qA (l:=ju (13,zx kx.2.2.1 0 6,0,((l.length:Int)+((2:Nat):Int)),0)) rfl ?_;refine qo H5 (b:=b3) (off:=0) .here rfl omQ (l:=ju kx) rfl ?_;refine qY (Gm omQ WG H5) ?_;rintro _ h7 ⟨x,rfl,hx,H7⟩;refine jY (n:=2) (l:=ju (13,zx kx.2.2.1 0 6,0,((l.length:Int)+((2:Nat):Int)),0)++ju x) (sz:=5) H7 rfl rfl rfl rfl λv8 h8 H8=>?_;have S1:Sl (λ_=>True) h8 5 [((13,zx kx.2.2.1 0 6,0,((l.length:Int)+((2:Nat):Int)),0):qO),x].length v8 ([((13,zx kx.2.2.1 0 6,0,((l.length:Int)+((2:Nat):Int)),0):qO),x].flatMap ju):=by simpa using H8.sl .here
  refine Qm (H8.aJ (P:=yh lv l) e_2) S1 (by simp;omega) λv9 h9 H9=>?_;refine JZ H5 (b:=b3) .here rfl H5 .here rfl rfl omQ (HS.lt H5 .here) ?_;refine hj _ _ ⟨_,st,v9,ov,rfl,B.two (zer _ hr) (hx.ok calm) (by show Flat 13;unfold Flat;decide) hx.flat (λ_=>rfl) (λhh=>by have:=hx.nj;omega),same,by simp;omega,by simp,?_⟩;rw[ig];exact H9.sub (.cons .here (.drop (.drop (.cons .here (.cons .here .refl)))))
 have bak:calm=false→wp (vL (α:=AV×AV×AV×AV×AV×AV×AV×Unit→AH→Go.Ae.R) (λfU DH=>j (fU.1,fU.2.1,fU.2.2.1,fU.2.2.2.1,fU.2.2.2.2.1,fU.2.2.2.2.2.1,fU.2.2.2.2.2.2.1,()) DH []) λDI=>
   jr h5 (.ptr b3 0) 5 λv205=>xS (callT tab qL k) (.fn 36 [] []) [v205] h5 λv206 DK=>qH (.ptr b3 0) 2 λLb=>jK DK Lb λLc=>
   xS (callT tab qL k) (.fn 35 [] []) [Lc] DK λv210 h211=>kH lv λv212=>
   zc [(.int .i64 ((0:Nat):Int)),(.int .i64 ((0:Nat):Int)),(.int .i64 ((0:Nat):Int)),(.int .i64 ((0:Nat):Int)),(.int .u64 ((0:Nat):Int))] [(0,1,(.int .i64 ((13:Nat):Int))),(1,1,v210),(3,1,v212)] λv213=>
   xd h211 101 [(.int .i64 ((0:Nat):Int)),(.int .i64 ((0:Nat):Int)),(.int .i64 ((0:Nat):Int)),(.int .i64 ((0:Nat):Int)),(.int .u64 ((0:Nat):Int))] 2 [(0,5,v206),(5,5,v213)] λv214 h215=>xH h215 101 5 lv v214 λv216 h217=>
   kA Lb none Lc h5 DK h5.nx<| DI (.int .i64 (i:Int),ov,v216,.ptr b0 0,.bool calm,.int .i64 most,kv,()) h217) (λr h'=>∃lv l,r=.agg [lv]∧dk calm l []∧0<l.length∧(l.length:Int)≤most∧HS g h' (yh lv l::R)):=by
  intro ij;refine qG ?_
  try dsimp only
  refine qo H5 (b:=b3) (off:=0) .here rfl omQ (l:=ju kx) rfl ?_;refine qY (Gm omQ WG H5) ?_;rintro _ h7 ⟨x,rfl,hx,H7⟩;refine qQ (qZ H7 (b:=b3) .here rfl ?_);refine qY (Gv omQ) ?_;rintro _ h7 ⟨rfl,rfl⟩;have hr:=z9 kx.2.2.1 (show(0:Int)≤6 by omega);have H7':HS g h7 (qv b3 (ju kx)::qC 101 5 l.length lv (l.flatMap ju)::Kz ov (zg l st)::qv b0 [.aj]::R):=H7;refine qr (n:=l.length) H7' e_1 ?_;refine qA (l:=ju (13,zx kx.2.2.1 0 6,0,(l.length:Int),0)) rfl ?_;refine jY (n:=2) (l:=ju x++ju (13,zx kx.2.2.1 0 6,0,(l.length:Int),0)) (sz:=5) H7 rfl rfl rfl rfl λv8 h8 H8=>?_;have S1:Sl (λ_=>True) h8 5 [x,((13,zx kx.2.2.1 0 6,0,(l.length:Int),0):qO)].length v8 ([x,((13,zx kx.2.2.1 0 6,0,(l.length:Int),0):qO)].flatMap ju):=by simpa using H8.sl .here
  refine Qm (H8.aJ (P:=yh lv l) e_2) S1 (by simp;omega) λv9 h9 H9=>?_;refine jU H5 (b:=b3) .here rfl H7 .here rfl (HS.lt H5 .here) ?_;refine hj _ _ ⟨l++[x,(13,zx kx.2.2.1 0 6,0,(l.length:Int),0)],st,v9,ov,rfl,B.two (hx.ok calm) ⟨qz1 omQ omQ,by show(13:Int)≠23;decide,by show(0:Int)≤0∧(0:Int)<18446744073709551616;decide,λ_=>by show(13:Int)≠20∧(13:Int)≠22∧(13:Int)≠12;decide⟩ hx.flat (by show Flat 13;unfold Flat;decide) (λhh=>by have:=hx.nj;omega) (λ_=>⟨rfl,ij⟩),same,by simp;omega,by simp,?_⟩;rw[ig];exact H9.sub (.cons .here (.drop (.drop (.cons .here (.cons .here .refl)))))
 have hd:(w=20∧st.length<5)∨(w=20∧¬st.length<5)∨(w=21∧st.length<5)∨(w=21∧¬st.length<5)∨(w=22∧st.length<5)∨(w=22∧¬st.length<5)∨(w=23∧0<st.length)∨(w=23∧¬0<st.length)∨(w=24∧0<st.length)∨(w=24∧¬0<st.length)∨(w=25∧0<st.length)∨(w=25∧¬0<st.length)∨(w=26∧calm=true)∨(w=26∧calm=false∧0<st.length)∨(w=26∧calm=false∧¬0<st.length)∨(w=27∧calm=true)∨(w=27∧calm=false∧0<st.length)∨(w=27∧calm=false∧¬0<st.length)∨(w=28∧calm=true)∨(w=28∧calm=false)∨(w=29∧calm=true)∨(w=29∧calm=false)∨(w=30)∨(w=31)∨(w=32∧calm=true)∨(w=32∧calm=false)∨(w<20∨32<w):=by
  cases calm<;>simp only[reduceCtorEq,and_true,true_and,and_false,false_and,false_or]<;>omega
 rcases hd with⟨fV,lO⟩ |⟨fV,lO⟩ |⟨fV,lO⟩ |⟨fV,lO⟩ |⟨fV,lO⟩ |⟨fV,lO⟩ |⟨fV,lO⟩ |⟨fV,lO⟩ |⟨fV,lO⟩ |⟨fV,lO⟩ |⟨fV,lO⟩ |⟨fV,lO⟩ |⟨fV,rfl⟩ |⟨fV,rfl,lO⟩ |⟨fV,rfl,lO⟩ |⟨fV,rfl⟩ |⟨fV,rfl,lO⟩ |⟨fV,rfl,lO⟩ |⟨fV,rfl⟩ |⟨fV,rfl⟩ |⟨fV,rfl⟩ |⟨fV,rfl⟩ |fV |fV |⟨fV,rfl⟩ |⟨fV,rfl⟩ |fV
 all_goals repeat (first |with_reducible refine qW omQ ?_ |with_reducible refine qk omQ ?_ |(with_reducible refine qG ?_;try dsimp only) |(with_reducible refine qf ?_;try dsimp only) |(with_reducible refine ql ?_;try dsimp only) |(with_reducible refine qe ?_;try dsimp only) |(with_reducible refine qP ?_;try dsimp only) |with_reducible refine qF ?_ |with_reducible refine qy ?_ |with_reducible refine qK ?_ |with_reducible refine qJ ?_ |with_reducible refine jO omQ ?_ |with_reducible refine jM omQ ?_ |with_reducible refine xL omQ ?_ |with_reducible refine xJ omQ ?_ |with_reducible refine jE ?_ |with_reducible refine jo ?_ |with_reducible refine qn omQ ?_ |with_reducible refine qQ ?_ |(with_reducible refine zQ ?_;try dsimp only) |with_reducible refine qZ H6 .here rfl ?_ |with_reducible refine qA rfl ?_)
 ·exact WQ 14 (.inl rfl) omQ
 ·exact fg
 ·exact WQ 17 (.inr rfl) omQ
 ·exact fg
 ·exact WQ 17 (.inr rfl) omQ
 ·exact fg
 ·exact shu omQ
 ·exact fg
 ·exact shu omQ
 ·exact fg
 ·rw[show(st.length:Int)-((1:Nat):Int)=((st.length-1:Nat):Int) by omega];refine zO (H6.sl e_2) (x:=.int .i64 (cQ l st)) (by rw[List.getElem?_map,WE (List.length_pos_iff.1 lO)];rfl) ?_;by_cases B5:cQ l st=14
  ·refine qk B5 ?_;refine qF (qK (qA rfl ?_));exact und B5
  ·refine qW B5 ?_;refine qF (qJ (qW omQ ?_));refine qG ?_;(try dsimp only);refine qP ?_;(try dsimp only);refine qW omQ ?_;refine qy (qG ?_);(try dsimp only);refine qe ?_;(try dsimp only);refine qy (qG ?_);(try dsimp only);refine qe ?_;(try dsimp only);refine qy (qJ (qW omQ ?_));refine qG ?_;(try dsimp only);refine qe ?_;(try dsimp only);refine qy (qJ (qW omQ ?_));refine qG ?_;(try dsimp only);refine qe ?_;(try dsimp only);refine qy (qJ (qW omQ ?_));refine qG ?_;(try dsimp only);refine qP ?_;(try dsimp only);refine qW omQ ?_;refine qy (qJ (qW omQ ?_));refine qG ?_;(try dsimp only);refine qe ?_;(try dsimp only);refine qy (qJ ?_)
   exact fg
 ·exact fg
 ·exact fg
 ·exact two 20 (.inl rfl) rfl
 ·exact fg
 ·exact fg
 ·exact two 20 (.inl rfl) rfl
 ·exact fg
 ·exact fg
 ·exact two 20 (.inl rfl) rfl
 ·exact fg
 ·exact two 22 (.inr rfl) rfl
 ·exact ovr
 ·exact ovr
 ·exact fg
 ·exact bak rfl
 ·exact fg
end
end Go.Proofs.YtaljafbgbfmcbaaGreat
