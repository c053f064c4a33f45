/- Lemmas for 'quietus/quietuslaw28.MachineWakes': What a transaction knows and writes, as plain data: cells, levels, views;Write sets: by the program;Levels of cells and frees: by the program;Views: by the ... No condition. -/
import Derived.Test.YthmopakmcboghaaGreatDoorMachineWakesAe7
import Derived.Test.YthmopakmcboghaaGreatDoorMachineWakesT
import Derived.KernelRfl
namespace Go.Proofs.YthmopakmcboghaaGreatDoor
open Go Go.Ae
set_option maxRecDepth 100000
section
abbrev Cl:Type:=Int×Int
def jT (c:Int×Int):List AV:=[.int .i64 c.1,.int .u64 c.2]
def X6 (p:Int):List Cl→Option Nat
 |[]=>none
 |c::l=>if c.1=p then some 0 else(X6 p l).map (· +1)
def zU (p:Int):List Cl→Option Int
 |[]=>none
 |c::l=>if c.1=p then some c.2 else zU p l
def yR (p v:Int):List Cl→List Cl
 |[]=>[(p,v)]
 |c::l=>if c.1=p then(p,v)::l else c::yR p v l
def yM (l cs:List Cl):List Cl:=cs.foldl (λl c=>yR c.1 c.2 l) l
theorem MX {p:Int} {l:List Cl}:X6 p l=none↔zU p l=none:=by
 induction l with
 |nil=>simp[X6,zU]
 |cons c l ih=>
  unfold X6 zU
  split
  ·simp
  ·simp[ih]
theorem Mv {p:Int}:∀{l:List Cl} {i:Nat},X6 p l=some i→i<l.length∧(∃x,l[i]? =some (p,x)∧zU p l=some x)∧∀v,yR p v l=l.set i (p,v):=by
 intro l
 induction l with
 |nil=>intro i h;cases h
 |cons c l ih=>
  intro i h;unfold X6 at h;unfold zU
  split at h
  ·rename_i hc;cases h;rw[iJ hc];refine⟨by simp,⟨c.2,by rw[← hc];rfl,rfl⟩,λv=>?_⟩;unfold yR;rw[iJ hc];rfl
  ·rename_i hc;rw[iQ hc];cases hi:X6 p l with
   |none=>rw[hi]at h;cases h
   |some j=>rw[hi]at h;cases h;obtain⟨h1,⟨x,h2,B6⟩,h3⟩:=ih hi;refine⟨by simp;omega,⟨x,by simpa using h2,B6⟩,λv=>?_⟩;unfold yR;rw[iQ hc,h3];rfl
theorem J1 {p v:Int} {l:List Cl} (h:zU p l=none):yR p v l=l++[(p,v)]:=by
 induction l with
 |nil=>rfl
 |cons c l ih=>
  unfold zU at h
  split at h
  ·cases h
  ·rename_i hc;unfold yR;rw[iQ hc,ih h];rfl
theorem Zp {p:Int}:∀{l:List Cl} {i:Nat},i<l.length→(∀j,j<i→∀c,l[j]? =some c→c.1≠p)→(∃x,l[i]? =some (p,x))→X6 p l=some i:=by
 intro l
 induction l with
 |nil=>intro i h;simp at h
 |cons c l ih=>
  intro i hi h1 ⟨x,h2⟩;unfold X6;cases i with
  |zero=>simp at h2;rw[iJ (by rw[h2])]
  |succ i=>rw[iQ (h1 0 omQ c rfl),ih (by simpa using hi) (λj hj c' mq=>h1 (j+1) omQ c' (by simpa using mq)) ⟨x,by simpa using h2⟩];rfl
theorem qVn {p:Int}:∀{l:List Cl},(∀c∈l,c.1≠p)→X6 p l=none:=by
 intro l
 induction l with
 |nil=>intro _;rfl
 |cons c l ih=>intro h;unfold X6;rw[iQ (h c (iK ..)),ih λc' mq=>h c' (iX _ mq)];rfl
theorem YO {p v:Int} {l:List Cl}:(yR p v l).length=if zU p l=none then l.length+1 else l.length:=by
 induction l with
 |nil=>simp[yR,zU]
 |cons c l ih=>
  unfold yR zU
  split
  ·simp
  ·rw[List.length_cons,ih]
   split<;>simp
theorem Ok {p q v:Int} {l:List Cl}:zU q (yR p v l)=if q=p then some v else zU q l:=by
 induction l with
 |nil=>
  simp only[yR,zU];by_cases h:p=q
  ·simp[h]
  ·rw[iQ h,iQ (λh'=>h h'.symm)]
 |cons c l ih=>
  unfold yR
  split
  ·rename_i hc;simp only[zU];by_cases h:p=q
   ·simp[h]
   ·rw[iQ h,iQ (λh'=>h h'.symm),iQ (by rw[hc];exact h)]
  ·rename_i hc;simp only[zU,ih];by_cases h:c.1=q
   ·rw[iJ h,iJ h,iQ (by rintro rfl;exact hc h)]
   ·rw[iQ h,iQ h]
def nU (l:List Cl):Prop:=∀c∈l,1≤c.1∧c.1<256
theorem nU.put {l:List Cl} {p v:Int} (h:nU l) (hp:1≤p∧p<256):nU (yR p v l):=by
 induction l with
 |nil=>intro c hc;simp[yR]at hc;subst hc;exact hp
 |cons a l ih=>
  unfold yR
  split
  ·intro c hc;rcases List.mem_cons.1 hc with rfl |hc
   ·exact hp
   ·exact h c (iX _ hc)
  ·intro c hc;rcases List.mem_cons.1 hc with rfl |hc
   ·exact h _ (iK ..)
   ·exact ih (λc hc=>h c (iX _ hc)) c hc
def nh (l:List Cl):Prop:=(l.map (·.1)).Nodup
theorem qGe {p:Int} {l:List Cl}:zU p l=none↔p∉l.map (·.1):=by
 induction l with
 |nil=>simp[zU]
 |cons c l ih=>
  unfold zU
  split
  ·rename_i h;simp[h]
  ·rename_i h;rw[ih,List.map_cons,List.mem_cons,not_or];exact⟨λh'=>⟨λh2=>h h2.symm,h'⟩,λh'=>h'.2⟩
theorem qVI {p v:Int} {l:List Cl}:(yR p v l).map (·.1)=if zU p l=none then l.map (·.1)++[p]else l.map (·.1):=by
 induction l with
 |nil=>simp[yR,zU]
 |cons c l ih=>
  unfold yR zU
  split
  ·rename_i h;simp[h]
  ·rw[List.map_cons,ih]
   split<;>simp
theorem nh.put {l:List Cl} {p v:Int} (h:nh l):nh (yR p v l):=by
 unfold nh;rw[qVI]
 split
 ·rename_i hp;rw[qGe]at hp;rw[List.nodup_append];exact⟨h,by simp,λa ha b hb=>by rw[List.mem_singleton]at hb;subst hb;rintro rfl;exact hp ha⟩
 ·exact h
theorem qGM {l:List Cl}:∀{cs:List Cl},nh cs→(∀c∈cs,zU c.1 l=none)→yM l cs=l++cs:=by
 intro cs
 induction cs generalizing l with
 |nil=>intro _ _;simp[yM]
 |cons c cs ih=>
  intro hu hn;have uV:nh cs:=(List.nodup_cons.1 hu).2;have hc:c.1∉cs.map (·.1):=(List.nodup_cons.1 hu).1;show yM (yR c.1 c.2 l) cs=_
  rw[ih uV (λd hd=>by
   rw[Ok,iQ (by rintro h;exact hc (by rw[← h];exact List.mem_map_of_mem hd))]
   exact hn d (iX _ hd)),J1 (hn c (iK ..)),List.append_assoc]
  rfl
theorem Vb {cs:List Cl} (h:nh cs):yM [] cs=cs:=by rw[qGM h (λ_ _=>rfl),List.nil_append]
def Xj (m:Nat) (l:List Cl) (p v:Int):Int×List Cl :=
 if p<1∨256≤p then(2,l)else if zU p l=none∧m≤l.length then(5,l)else(0,yR p v l)
def Jd (m:Nat) (l:List Cl):List Cl→Int×List Cl
 |[]=>(0,l)
 |c::cs=>if(Xj m l c.1 c.2).1=0 then Jd m (Xj m l c.1 c.2).2 cs else Xj m l c.1 c.2
theorem qJL {m:Nat} {l:List Cl} {c:Cl} {cs:List Cl}:Jd m l (c::cs)=if(Xj m l c.1 c.2).1=0 then Jd m (Xj m l c.1 c.2).2 cs else Xj m l c.1 c.2:=rfl
theorem Yk {m:Nat}:∀{cs l:List Cl},nU cs→l.length+cs.length≤m→Jd m l cs=(0,yM l cs):=by
 intro cs
 induction cs with
 |nil=>intro l _ _;rfl
 |cons c cs ih=>
  intro l hi hl;have hc:=hi c (iK ..);have hp:Xj m l c.1 c.2=(0,yR c.1 c.2 l):=by unfold Xj;rw[iQ omQ,iQ (by simp at hl;omega)]
  unfold Jd
  rw[hp,iJ rfl,ih (λd hd=>hi d (iX _ hd)) (by
   have:=YO (p:=c.1) (v:=c.2) (l:=l);simp at hl;show(yR c.1 c.2 l).length+cs.length≤m
   split at this<;>omega)]
  rfl
abbrev bz:Type:=List Cl×List Int
def YN (p:Int):List bz→Option Int
 |[]=>none
 |x::r=>match zU p x.1 with |some v=>some v |none=>YN p r
def yT (lv:List bz):Nat:=(lv.map λx=>x.1.length).sum
def jh (lv:List bz):List Cl:=lv.foldl (λout x=>yM x.1 out) []
def xy (lv:List bz):List Int:=lv.reverse.flatMap (·.2)
structure eM (most:Nat) (lv:List bz):Prop where
  held:yT lv≤most
  le:most≤96
  ins:∀x∈lv,nU x.1
  un:∀x∈lv,nh x.1
  one:1≤lv.length
  deep:lv.length≤6
def vF (most:Nat) (lv:List bz) (p v:Int):Int×List bz :=
 match lv with
 |[]=>(0,[])
 |x::r=>if p<1∨256≤p then(2,lv)else if zU p x.1=none∧most≤yT lv then(5,lv)else(0,(yR p v x.1,x.2)::r)
def vV (most:Nat) (aZ lv:List bz):List Cl→Int×List bz
 |[]=>(0,lv)
 |c::cs=>if(vF most lv c.1 c.2).1=0 then vV most aZ (vF most lv c.1 c.2).2 cs else((vF most lv c.1 c.2).1,aZ)
def kI (lv:List bz):Int×List bz:=if 6≤lv.length then(9,lv)else(0,([],[])::lv)
def kH (lv:List bz):Int×List bz:=if lv.length=1 then(10,lv)else(0,lv.tail)
def QO (lv:List bz):Int×List bz:=match lv with
 |x::y::r=>(0,(yM y.1 x.1,y.2++x.2)::r)
 |_=>(10,lv)
def JD (lv:List bz) (b:Int):List bz:=match lv with
 |x::r=>(x.1,x.2++[b])::r
 |[]=>[]
theorem vM {most:Nat} {aZ lv:List bz} {c:Cl} {cs:List Cl}:vV most aZ lv (c::cs)=if(vF most lv c.1 c.2).1=0 then vV most aZ (vF most lv c.1 c.2).2 cs else((vF most lv c.1 c.2).1,aZ):=rfl
theorem zn {x:bz} {r:List bz}:yT (x::r)=x.1.length+yT r:=by simp[yT]
theorem MP {most:Nat} {lv:List bz} {p v:Int} (O:eM most lv):eM most (vF most lv p v).2∧(vF most lv p v).2.length=lv.length:=by
 cases lv with
 |nil=>have:=O.one;simp at this
 |cons x r=>
  unfold vF;dsimp only
  split
  ·exact⟨O,rfl⟩
  ·rename_i hp
   split
   ·exact⟨O,rfl⟩
   ·rename_i h1;have hh:=O.held;rw[zn]at hh;refine⟨⟨?_,O.le,?_,?_,by simp,O.deep⟩,rfl⟩
    ·show yT ((yR p v x.1,x.2)::r)≤most;rw[zn,YO]
     split
     ·rename_i h2;rw[zn]at h1;have:¬most≤x.1.length+yT r:=λh3=>h1 ⟨h2,h3⟩;omega
     ·exact hh
    ·intro y hy;rcases List.mem_cons.1 hy with rfl |hy
     ·exact(O.ins x (iK ..)).put omQ
     ·exact O.ins y (iX _ hy)
    ·intro y hy;rcases List.mem_cons.1 hy with rfl |hy
     ·exact(O.un x (iK ..)).put
     ·exact O.un y (iX _ hy)
theorem ON {most:Nat} {aZ:List bz} (W:eM most aZ):∀{cs:List Cl} {lv:List bz},eM most lv→lv.length=aZ.length→eM most (vV most aZ lv cs).2∧(vV most aZ lv cs).2.length=aZ.length:=by
 intro cs
 induction cs with
 |nil=>intro lv O hl;exact⟨O,hl⟩
 |cons c cs ih=>
  intro lv O hl;unfold vV
  split
  ·exact ih (MP O).1 ((MP O).2.trans hl)
  ·exact⟨W,rfl⟩
theorem qqM {most:Nat} {lv:List bz} (O:eM most lv):eM most (kI lv).2:=by
 unfold kI
 split
 ·exact O
 ·refine⟨by rw[zn];have:=O.held;simpa using this,O.le,?_,?_,by simp,by simp;omega⟩
  ·intro y hy;rcases List.mem_cons.1 hy with rfl |hy
   ·intro c hc;cases hc
   ·exact O.ins y hy
  ·intro y hy;rcases List.mem_cons.1 hy with rfl |hy
   ·exact List.nodup_nil
   ·exact O.un y hy
theorem qW9 {most:Nat} {lv:List bz} (O:eM most lv):eM most (kH lv).2:=by
 unfold kH
 split
 ·exact O
 ·rename_i h1;cases lv with
  |nil=>have:=O.one;simp at this
  |cons x r=>
   have hh:=O.held;have h2:=O.deep;rw[zn]at hh;simp at h1 h2;refine⟨by show yT r≤most;omega,O.le,λy hy=>O.ins y (iX _ hy),λy hy=>O.un y (iX _ hy),?_,by show r.length≤6;omega⟩;show 1≤r.length;cases r with
   |nil=>simp at h1
   |cons _ _=>simp
theorem Kv:∀{cs l:List Cl},(yM l cs).length≤l.length+cs.length:=by
 intro cs
 induction cs with
 |nil=>intro l;exact Nat.le_refl _
 |cons c cs ih=>
  intro l;have:=ih (l:=yR c.1 c.2 l);have h2:=YO (p:=c.1) (v:=c.2) (l:=l);show(yM (yR c.1 c.2 l) cs).length≤_;rw[List.length_cons]
  split at h2<;>omega
theorem nU.nV:∀{cs l:List Cl},nU l→nU cs→nU (yM l cs):=by
 intro cs
 induction cs with
 |nil=>intro l h _;exact h
 |cons c cs ih=>intro l h hc;exact ih (h.put (hc c (iK ..))) λd hd=>hc d (iX _ hd)
theorem nh.nV:∀{cs l:List Cl},nh l→nh (yM l cs):=by
 intro cs
 induction cs with
 |nil=>intro l h;exact h
 |cons c cs ih=>intro l h;exact ih h.put
theorem qY7 {most:Nat} {lv:List bz} (O:eM most lv):eM most (QO lv).2:=by
 match lv,O with
 |[],O=>exact O
 |[x],O=>exact O
 |x::y::r,O=>
  have hh:=O.held;have h2:=O.deep;rw[zn,zn]at hh;have:=Kv (cs:=x.1) (l:=y.1);refine⟨by show yT ((yM y.1 x.1,y.2++x.2)::r)≤most;rw[zn];dsimp only;omega,O.le,?_,?_,by simp[QO],by simp[QO]at h2 ⊢;omega⟩
  ·intro z hz;rcases List.mem_cons.1 hz with rfl |hz
   ·exact(O.ins y aN).nV (O.ins x aN)
   ·exact O.ins z (by simp[hz])
  ·intro z hz;rcases List.mem_cons.1 hz with rfl |hz
   ·exact(O.un y aN).nV
   ·exact O.un z (by simp[hz])
theorem qWF {most:Nat} {lv:List bz} {b:Int} (O:eM most lv):eM most (JD lv b):=by
 cases lv with
 |nil=>exact O
 |cons x r=>
  refine⟨O.held,O.le,?_,?_,by simp[JD],O.deep⟩
  ·intro z hz;rcases List.mem_cons.1 hz with rfl |hz
   ·exact O.ins x aN
   ·exact O.ins z (by simp[hz])
  ·intro z hz;rcases List.mem_cons.1 hz with rfl |hz
   ·exact O.un x aN
   ·exact O.un z (by simp[hz])
end
section
variable {g h:AH} {L R:List SP}
def da (w m:Nat) (l:List Cl):SP:=.ex λv=>.all [qy w [.int .i64 (m:Int),v],qD 163 2 l.length v (l.flatMap jT)]
theorem da.E {w m:Nat} {l:List Cl} (H:HS g h (da w m l::R)):∃v,HS g h (qy w [.int .i64 (m:Int),v]::qD 163 2 l.length v (l.flatMap jT)::R):=by obtain⟨v,H⟩:=H.dU;exact⟨v,H.cq⟩
theorem da.I {w m:Nat} {l:List Cl} {v:AV} (H:HS g h (qy w [.int .i64 (m:Int),v]::qD 163 2 l.length v (l.flatMap jT)::R)):HS g h (da w m l::R) :=
 HS.en v (HS.allI H)
theorem ZO (l:List Cl):ql (l.flatMap jT)=true:=by unfold ql;rw[List.all_eq_true];intro v hv;obtain⟨c,_,hc⟩:=List.mem_flatMap.1 hv;simp[jT]at hc;rcases hc with rfl |rfl<;>rfl
theorem Yr {l:List Cl} {i:Nat} {c:Cl} (h:l[i]? =some c):((l.flatMap jT).drop (i*2)).take 2=jT c:=by obtain⟨hi,e⟩:=List.getElem?_eq_some_iff.1 h;rw[Jh (sz:=2) jT (λ_=>rfl),List.drop_eq_getElem_cons hi,e,List.flatMap_cons];rfl
theorem qYe {l:List Cl} {i:Nat} {p x v:Int} (h:l[i]? =some (p,x)):(l.flatMap jT).set (i*2+1) (.int .u64 v)=(l.set i (p,v)).flatMap jT:=by
 have hi:=(List.getElem?_eq_some_iff.1 h).1;apply List.ext_getElem?;intro j;have hd:j=j/2*2+j%2:=by omega
 have hm:j%2<2:=by omega
 rw[List.getElem?_set,YB (sz:=2) jT (λ_=>rfl)];have e1:=JP (sz:=2) jT (λ_=>rfl) l (j/2) (j%2) hm;have e2:=JP (sz:=2) jT (λ_=>rfl) (l.set i (p,v)) (j/2) (j%2) hm;rw[← hd]at e1 e2;rw[e1,e2,List.getElem?_set];by_cases h1:i*2+1=j
 ·have:j/2=i:=by omega
  have h3:j%2=1:=by omega
  rw[iJ h1,iJ omQ,iJ this.symm,iJ hi,h3];rfl
 ·rw[iQ h1];by_cases h2:i=j/2
  ·have h3:j%2=0:=by omega
   rw[iJ h2,iJ hi,h3,← h2,h];rfl
  ·rw[iQ h2]
def zI (o:Option Nat):Int:=match o with |some i=>(i:Int) |none=>-1
theorem Nw {n:Nat} (hn:1≤n) {m:Nat} (hm:m≤96) (H:HS g h R):aA n 166 [.int .i64 (m:Int)] h λv h'=>∃w,v=.ptr w 0∧HS g h' (da w m []::R):=by
 refine aB (S:=S166) rfl omQ λk hk=>?_;unfold S166;try simp only[iZ]
 refine zz (zh (qL rfl (qI H rfl λw h2 H2=>qY ⟨w,rfl,?_⟩)));rw[show max ((0:Nat):Int) (min (m:Int) ((96:Nat):Int))=(m:Int) by omega]at H2;exact da.I ((H2.ak (e:=163) (sz:=2)).aI (P:=qy w [.int .i64 (m:Int),.ak]) e_1 :)
theorem qXu {n:Nat} (hn:2≤n) {p:Int} {v:AV} {c0:Nat} {l:List Cl} (H:HS g h L) (S:Rd g L 2 l.length v (l.flatMap jT)) (s:bc L (qy c0 [.int .i64 p]) R) (hl:l.length<1000000) :
  aA n 302 [v,.fn 303 [] [.ptr c0 0]] h λv h'=>v=.int .i64 (zI (X6 p l))∧HS g h' L:=by
 refine ba (S:=S302) rfl omQ λk hk=>?_;unfold S302;try simp only[iZ]
 refine xS (S.sl H) ?_
 refine(jR (λm s h'=>∃i:Nat,s=(.int .i64 (i:Int),.int .i64 (l.length:Int),.fn 303 [] [.ptr c0 0],v,())∧i≤l.length∧m=l.length-i∧HS g h' L∧
  (∀j,j<i→∀c,l[j]? =some c→c.1≠p)) ?_ (m:=l.length) (by show _<1000000000;omega) ⟨0,rfl,by omega,by omega,H,λj hj=>by omega⟩)
 rintro m ih s' h' bF ⟨i,rfl,h1,rfl,H,h2⟩;dsimp only;refine xz (λap=>qZ ?_) λik=>qJ (qx (qY ⟨?_,H⟩))
 ·have hi:i<l.length:=by omega
  have hc:l[i]? =some l[i]:=iW hi;refine zS (l:=jT l[i]) (S.sl H) hi omQ (Yr hc) ?_;refine qG (Q':=λv h2=>v=.bool (decide (l[i].1=p))∧HS g h2 L) (I7 (g:=(bB S303)) rfl omQ λk hk=>?_) ?_
  ·show wp (S303 (callT tab qz k) _ _ _).1 _;unfold S303;try simp only[ iZ]
   refine qI H rfl λb h3 H3=>?_;refine qQ (qX ‹_› .here rfl ?_);refine qX H3 (.there s) rfl (JR (qY ⟨rfl,H3.drop⟩))
  ·rintro _ h3 ⟨rfl,H3⟩;refine qxS (λhe=>qx (qY ⟨?_,H3⟩)) λcx=>qU omQ ?_
   ·rw[Zp hi h2 ⟨l[i].2,by rw[hc,← he]⟩];rfl
   ·refine bF (l.length-(i+1)) _ _ omQ ⟨i+1,rfl,by omega,rfl,H3,λj hj c mq=>?_⟩;by_cases h4:j<i
    ·exact h2 j h4 c mq
    ·obtain rfl:j=i:=by omega
     rw[hc]at mq;cases mq;exact cx
 ·rw[qVn λc hc=>?_]
  ·rfl
  ·obtain⟨j,hj⟩:=List.getElem?_of_mem hc;exact h2 j (by have:=(List.getElem?_eq_some_iff.1 hj).1;omega) c hj
theorem ZM {n:Nat} (hn:3≤n) {w m:Nat} {l:List Cl} {p:Int} (H:HS g h (da w m l::R)) (hl:l.length<1000000) :
  aA n 237 [.ptr w 0,.int .i64 p] h λv h'=>v=.int .i64 (zI (X6 p l))∧HS g h' (da w m l::R):=by
 refine ba (S:=S237) rfl omQ λk hk=>?_;unfold S237;try simp only[iZ]
 obtain⟨v,H⟩:=da.E H;refine J0 H ⟨rfl,rfl⟩ λc0 h2 H2=>?_;refine qK (qQ (qX ‹_› e_1 rfl ?_));refine qG (qXu (p:=p) omQ H2 (H2.rd e_2) .here hl) ?_;rintro _ h3 ⟨rfl,H3⟩;exact qY ⟨rfl,da.I H3.drop⟩
theorem Lz {n:Nat} (hn:4≤n) {w m:Nat} {l:List Cl} {p:Int} (H:HS g h (da w m l::R)) (hl:l.length<1000000) :
  aA n 234 [.ptr w 0,.int .i64 p] h λv h'=>v=.bJ [.int .u64 ((zU p l).getD 0),.bool (zU p l).isSome]∧HS g h' (da w m l::R):=by
 refine ba (S:=S234) rfl omQ λk hk=>?_;unfold S234;try simp only[iZ]
 refine qG (ZM omQ H hl) ?_;rintro _ h3 ⟨rfl,H3⟩;cases hi:X6 p l with
 |none=>refine zY (by show¬((0:Nat):Int)≤ -1;omega) ?_;refine qJ ?_;exact qY ⟨by rw[MX.1 hi];rfl,H3⟩
 |some i=>obtain⟨h1,⟨x,h2,B6⟩,_⟩:=Mv hi;refine zy (by show((0:Nat):Int)≤(i:Int);omega) ?_;obtain⟨v,H4⟩:=da.E H3;refine qZ (qK (qQ (qX ‹_› .here rfl ?_)));refine y4 (x:=.int .u64 x) (H4.sl e_1) omQ h1 ?_ (qY ⟨by rw[B6];rfl,H3⟩);rw[JP (sz:=2) jT (λ_=>rfl) _ _ _ omQ,h2];rfl
theorem LA {n:Nat} (hn:4≤n) {w m:Nat} {l:List Cl} {p x:Int} (H:HS g h (da w m l::R)) (hl:l.length<1000000) :
  aA n 199 [.ptr w 0,.int .i64 p,.int .u64 x] h λv h'=>v=.int .i64 (Xj m l p x).1∧HS g h' (da w m (Xj m l p x).2::R):=by
 refine cL (S:=S199) rfl omQ λk hk=>?_;unfold S199;try simp only[iZ]
 unfold Xj;by_cases hp:p<1∨256≤p
 ·rw[iJ hp]
  repeat' (first |with_reducible refine qZ ?_ |with_reducible refine qJ ?_ |(with_reducible refine qR ?_;try dsimp only) |(with_reducible refine jZ ?_;try dsimp only) |(with_reducible refine qS ?_;try dsimp only) |(with_reducible refine qc ?_;try dsimp only) |(with_reducible refine zF ?_;try dsimp only) |with_reducible refine qC ?_ |with_reducible refine qF ?_ |(with_reducible refine qW ?_;try dsimp only) |with_reducible refine qx ?_ |with_reducible refine jA ?_ |with_reducible refine jF ?_ |with_reducible refine qU omQ ?_ |with_reducible refine zB omQ ?_ |with_reducible refine ya omQ ?_ |with_reducible refine vu omQ ?_ |with_reducible refine zz ?_ |with_reducible refine zh ?_ |with_reducible refine qk omQ ?_ |with_reducible refine qj omQ ?_ |with_reducible refine jQ omQ ?_ |with_reducible refine jJ omQ ?_ |with_reducible refine jH omQ ?_ |with_reducible refine jz omQ ?_ |with_reducible refine Qt omQ ?_ |with_reducible refine Jt omQ ?_ |with_reducible refine y8 omQ ?_ |with_reducible refine yU omQ ?_ |with_reducible refine zy omQ ?_ |with_reducible refine zY omQ ?_ |with_reducible refine xz (λhc=>?_) (λhc=>?_) |with_reducible refine wn (λhc=>?_) (λhc=>?_) |with_reducible refine QW (λhc=>?_) (λhc=>?_) |with_reducible refine yA (λhc=>?_) (λhc=>?_) |with_reducible refine vw (λhc=>?_) (λhc=>?_) |with_reducible refine yx (λhc=>?_) (λhc=>?_) |with_reducible refine gj (λhc=>?_) (λhc=>?_))
  all_goals exact qY ⟨rfl,H⟩
 rw[iQ hp];refine jz omQ ?_;refine qW ?_;(try dsimp only);refine qc ?_;(try dsimp only);refine zY omQ ?_;refine qF (qJ ?_)
 refine qG (ZM omQ H hl) ?_;rintro _ h3 ⟨rfl,H3⟩;cases hi:X6 p l with
 |none=>
  refine zY (by show¬((0:Nat):Int)≤ -1;omega) ?_;have hg:=MX.1 hi;obtain⟨v,H4⟩:=da.E H3;refine qJ (qK (qQ (qX ‹_› .here rfl ?_)));refine qm ‹_› e_1 ?_;refine qK (qQ (qX ‹_› .here rfl ?_));by_cases hf:m≤l.length
  ·rw[iJ ⟨hg,hf⟩];refine zy omQ ?_;refine qZ ?_;exact qY ⟨rfl,H3⟩
  ·rw[iQ (λh=>hf h.2)];refine zY omQ ?_;refine qJ (qK (qQ (qX ‹_› .here rfl ?_)));refine qL rfl ?_;refine qf (sz:=2) (l:=[.int .i64 p,.int .u64 x]) H4 rfl rfl rfl rfl λv5 h5 H5=>?_;refine ju (H5.aI e_2) (H5.sl .here) omQ omQ rfl λv6 h6 H6=>?_;refine qK (qQ (qw H6 e_2 (H6.one .here) aN λh7 H7=>qY ⟨rfl,da.I (v:=v6) ?_⟩));rw[J1 hg,List.flatMap_append,List.length_append];exact H7.sub (.cons .here (.cons .here (.drop (.refl))))
 |some i=>obtain⟨h1,⟨y,h2,B6⟩,h5⟩:=Mv hi;refine zy (by show((0:Nat):Int)≤(i:Int);omega) ?_;obtain⟨v,H4⟩:=da.E H3;refine qZ (qK (qQ (qX ‹_› .here rfl ?_)));rw[iQ (λh=>by rw[B6]at h;cases h.1)];refine qgF (H4.aI e_1) h1 omQ ⟨rfl,rfl⟩ λh6 H6=>qY ⟨rfl,da.I (v:=v) ?_⟩;rw[qYe h2]at H6;dsimp only;rw[h5,List.length_set];exact H6.sub (.cons e_1 (.refl))
theorem ZS {n:Nat} (hn:1≤n) {v:AV} {l:List Cl} (H:HS g h L) (s:bc L (qD 163 2 l.length v (l.flatMap jT)) R) (hl:l.length<1000000) :
  aA n 97 [v] h λv' h'=>HS g h' (qD 163 2 l.length v' (l.flatMap jT)::L):=by
 refine aB (S:=S97) rfl omQ λk hk=>?_;unfold S97;try simp only[iZ]
 refine Qh H s (λ_ h0=>qZ (qY ?_)) (qJ ?_)
 ·have:=iA h0;subst this;exact H.ak
 ·refine qf (n:=0) (l:=[]) (sz:=2) H rfl rfl rfl rfl λv2 h2 H2=>?_;refine ju H2 (H2.sl (.there s)) omQ omQ (ZO l) λv3 h3 H3=>qY ?_;rw[Nat.zero_add,List.nil_append]at H3;exact H3
theorem YE {n:Nat} (hn:2≤n) {w m:Nat} {l:List Cl} (H:HS g h (da w m l::R)) (hl:l.length<1000000) :
  aA n 168 [.ptr w 0] h λv h'=>HS g h' (qD 163 2 l.length v (l.flatMap jT)::da w m l::R):=by
 refine aB (S:=S168) rfl omQ λk hk=>?_;unfold S168;try simp only[iZ]
 obtain⟨v,H⟩:=da.E H;refine qK (qQ (qX ‹_› .here rfl ?_));refine qG (ZS omQ H e_1 hl) λv3 h3 H3=>qY ?_;have:=da.I (v:=v) (w:=w) (m:=m) (l:=l) (H3.sub (L':=_::_::qD 163 2 l.length v3 (l.flatMap jT)::R) (.cons e_1 (.cons e_1 .refl)));exact this.sub (.cons e_1 (.refl))
theorem qx2 {n:Nat} (hn:1≤n) {w m:Nat} {l:List Cl} (H:HS g h (da w m l::R)) :
  aA n 333 [.ptr w 0] h λv h'=>v=.int .i64 (l.length:Int)∧h'=h:=by
 refine aB (S:=S333) rfl omQ λk hk=>?_;unfold S333;try simp only[iZ]
 obtain⟨v,H⟩:=da.E H;refine qK (qQ (qX ‹_› .here rfl ?_));refine qm ‹_› e_1 ?_;exact qY ⟨rfl,rfl⟩
def wO (m:Nat) (l cs:List Cl):Int×List Cl:=if(Jd m l cs).1=0 then Jd m l cs else((Jd m l cs).1,l)
theorem Yq {n:Nat} (hn:5≤n) {w m:Nat} {l cs:List Cl} {c:AV} (H:HS g h (da w m l::R)) (S:Rd g R 2 cs.length c (cs.flatMap jT)) (hl:l.length<100000) (hc:cs.length<100000) :
  aA n 167 [.ptr w 0,c] h λv h'=>v=.int .i64 (wO m l cs).1∧HS g h' (da w m (wO m l cs).2::R):=by
 refine ba (S:=S167) rfl omQ λk hk=>?_;unfold S167;try simp only[iZ]
 refine qG (YE omQ H omQ) λv0 h1 H1=>?_;refine xS (S.sl H1.drop.drop) ?_
 refine jR (λk s h'=>∃(i:Nat) (l':List Cl),s=(.int .i64 (i:Int),.int .i64 (cs.length:Int),c,v0,.ptr w 0,())∧i≤cs.length∧k=cs.length-i∧l'.length≤l.length+i∧
  HS g h' (da w m l'::qD 163 2 l.length v0 (l.flatMap jT)::R)∧Jd m l cs=Jd m l' (cs.drop i)) ?_ (m:=cs.length) (by show _<1000000000;omega) ⟨0,l,rfl,by omega,by omega,by omega,H1.sub (.cons e_1 (.refl)),rfl⟩
 rintro k ih s h2 bF ⟨i,l',rfl,h1,rfl,dQ,H,hT⟩;dsimp only;refine xz (λap=>qZ ?_) λik=>qJ (qx (qY ?_))
 ·have hi:i<cs.length:=by omega
  have rz:cs[i]? =some cs[i]:=iW hi;refine zS (l:=jT cs[i]) (S.sl H.drop.drop) hi omQ (Yr rz) ?_;refine qI H rfl λb h3 H3=>qd H3 .here rfl (by show 0+2≤2;omega) rfl λh4 H4=>?_;have H5:HS g h4 (qy b (jT cs[i])::da w m l'::qD 163 2 l.length v0 (l.flatMap jT)::R):=H4;unfold jT at H5;refine qQ (qX ‹_› .here rfl ?_);refine qQ (qX ‹_› .here rfl ?_);refine qG (LA omQ H5.drop omQ) ?_;rintro _ h6 ⟨rfl,H6⟩;rw[List.drop_eq_getElem_cons hi,qJL]at hT;refine yx (λcx=>qZ ?_) λhe=>qJ (qU omQ ?_)
  ·have cx:¬(Xj m l' cs[i].1 cs[i].2).1=0:=by simpa using cx
   rw[iQ cx]at hT;obtain⟨v7,H7⟩:=da.E H6;refine qK (qQ (qw H7 .here (H7.one e_2) aN λh8 H8=>qx (qY ?_)));unfold wO;rw[hT,iQ cx];exact⟨rfl,da.I (v:=v0) (H8.sub (.cons .here (.cons e_1 (.drop .refl))))⟩
  ·have FM:(Xj m l' cs[i].1 cs[i].2).1=0:=by simpa using he
   rw[iJ FM]at hT;refine bF (cs.length-(i+1)) _ _ omQ ⟨i+1,_,rfl,by omega,rfl,?_,H6,hT⟩;have:=YO (p:=cs[i].1) (v:=cs[i].2) (l:=l');unfold Xj
   repeat' split
   all_goals dsimp only
   all_goals first |omega |(split at this<;>omega)
 ·rw[List.drop_of_length_le omQ]at hT;have hT:Jd m l cs=(0,l'):=hT;unfold wO;rw[hT,iJ rfl];exact⟨rfl,H.sub (.cons .here (.drop .refl))⟩
end
section
variable {g h:AH} {L R:List SP}
def cM (a:Nat) (x:bz):SP:=.ex λw=>.ex λfv=>.all [qy a [.ptr w 0,fv],da w 96 x.1,qD 3 1 x.2.length fv (x.2.map (.int .i64))]
theorem cM.E {a:Nat} {x:bz} (H:HS g h (cM a x::R)):∃w fv,HS g h (qy a [.ptr w 0,fv]::da w 96 x.1::qD 3 1 x.2.length fv (x.2.map (.int .i64))::R):=by obtain⟨w,H⟩:=H.dU;obtain⟨fv,H⟩:=H.dU;exact⟨w,fv,H.cq⟩
theorem cM.I {a w:Nat} {fv:AV} {x:bz} (H:HS g h (qy a [.ptr w 0,fv]::da w 96 x.1::qD 3 1 x.2.length fv (x.2.map (.int .i64))::R)):HS g h (cM a x::R) :=
 HS.en w (HS.en fv (HS.allI H))
def xm (ps:List Nat):List AV:=ps.reverse.map λa=>.ptr a 0
def bP (q most:Nat) (lv:List bz):SP:=.ex λv=>.ex λps:List Nat=>.all (.fa (ps.length=lv.length)::qy q [.int .i64 (most:Int),v]::qD 232 1 lv.length v (xm ps)::List.zipWith cM ps lv)
theorem bP.E {q most:Nat} {lv:List bz} (H:HS g h (bP q most lv::R)):∃v ps,ps.length=lv.length∧HS g h (qy q [.int .i64 (most:Int),v]::qD 232 1 lv.length v (xm ps)::(List.zipWith cM ps lv++R)):=by obtain⟨v,H⟩:=H.dU;obtain⟨ps,H⟩:=H.dU;obtain⟨e,H⟩:=HS.ed (H.cq);exact⟨v,ps,e,H⟩
theorem bP.I {q most:Nat} {lv:List bz} {v:AV} {ps:List Nat} (e:ps.length=lv.length) (H:HS g h (qy q [.int .i64 (most:Int),v]::qD 232 1 lv.length v (xm ps)::(List.zipWith cM ps lv++R))):HS g h (bP q most lv::R) :=
 HS.en v (HS.en ps (HS.allI (HS.eK e H)))
theorem bP.E1 {q most:Nat} {x:bz} {r:List bz} (H:HS g h (bP q most (x::r)::R)):∃v a ps,ps.length=r.length∧HS g h (qy q [.int .i64 (most:Int),v]::qD 232 1 (r.length+1) v (xm (a::ps))::cM a x::(List.zipWith cM ps r++R)):=by
 obtain⟨v,ps,e,H⟩:=bP.E H;cases ps with
 |nil=>simp at e
 |cons a ps=>exact⟨v,a,ps,by simpa using e,H⟩
theorem bP.I1 {q most:Nat} {x:bz} {r:List bz} {v:AV} {a:Nat} {ps:List Nat} (e:ps.length=r.length) (H:HS g h (qy q [.int .i64 (most:Int),v]::qD 232 1 (r.length+1) v (xm (a::ps))::cM a x::(List.zipWith cM ps r++R))):HS g h (bP q most (x::r)::R) :=
 bP.I (ps:=a::ps) (by simp[e]) H
theorem Zi (a:Nat) (ps:List Nat):(xm (a::ps))[ps.length]? =some (.ptr a 0):=by unfold xm;rw[List.reverse_cons,List.map_append,List.getElem?_append_right aN];simp
theorem Y3 {ps:List Nat} {i:Nat} (hi:i<ps.length):(xm ps)[i]? =(ps[ps.length-1-i]?).map λa=>.ptr a 0:=by unfold xm;rw[List.getElem?_map,List.getElem?_reverse hi]
theorem G7 {ps:List Nat}:∀{lv:List bz} {i a:Nat} {x:bz},ps[i]? =some a→lv[i]? =some x→∃T,bc (List.zipWith cM ps lv++R) (cM a x) T:=by
 induction ps with
 |nil=>intro lv i a x h;simp at h
 |cons b ps ih=>
  intro lv i a x h1 h2;cases lv with
  |nil=>simp at h2
  |cons y lv=>
   cases i with
   |zero=>simp at h1 h2;subst h1;subst h2;exact⟨_,.here⟩
   |succ i=>obtain⟨T,s⟩:=ih (lv:=lv) (i:=i) (by simpa using h1) (by simpa using h2);exact⟨_,.there s⟩
theorem Xh {n q:Nat} (hn:1≤n) {m v:AV} {a:Nat} {ps:List Nat} {R1 R2:List SP} {e:TypeId} (H:HS g h L) (s1:bc L (qy q [m,v]) R1) (s2:bc L (qD e 1 (ps.length+1) v (xm (a::ps))) R2) (hl:ps.length<1000000) :
  aA n 235 [.ptr q 0] h λr h'=>r=.ptr a 0∧h'=h:=by
 refine aB (S:=S235) rfl omQ λk hk=>?_;unfold S235;try simp only[iZ]
 refine qK (qQ (qX H s1 rfl (qK (qQ (qX H s1 rfl (qm H s2 (zB omQ ?_)))))));rw[show((ps.length+1:Nat):Int)-((1:Nat):Int)=((ps.length:Nat):Int) by omega];exact jb (H.sl s2) (Zi a ps) (qY ⟨rfl,rfl⟩)
theorem Mg {n:Nat} (hn:2≤n) (H:HS g h R):aA n 183 [] h λv h'=>∃a,v=.ptr a 0∧HS g h' (cM a ([],[])::R):=by
 refine ud (S:=S183) rfl omQ λk hk=>?_;unfold S183;try simp only[iZ]
 refine qG (Nw (m:=96) omQ omQ H) ?_;rintro _ h2 ⟨w,rfl,H2⟩;refine qL rfl (qI H2 rfl λa h3 H3=>qY ⟨a,rfl,?_⟩);exact cM.I (w:=w) (fv:=.ak) ((H3.ak (e:=3) (sz:=1)).sub (.cons e_1 (.cons e_1 (.cons .here (.refl)))))
theorem qzA {n:Nat} (hn:3≤n) {m:Int} (H:HS g h R):aA n 152 [.int .i64 m] h λv h'=>∃q,v=.ptr q 0∧HS g h' (bP q (max 0 (min m 96)).toNat [([],[])]::R):=by
 refine aB (S:=S152) rfl omQ λk hk=>?_;unfold S152;try simp only[iZ]
 refine zz (zh (qG (Mg omQ H) ?_));rintro _ h2 ⟨a,rfl,H2⟩;refine qf (n:=1) (l:=[.ptr a 0]) (sz:=1) H2 rfl rfl rfl rfl λv h3 H3=>?_;have h1:=H3.one .here;refine qL (l:=[.int .i64 (max ((0:Nat):Int) (min m ((96:Nat):Int))),v]) (by simp only[xT,h1.1];rfl) ?_;refine qI H3 (by show(true&&(v.one&&true))=true;rw[h1.2];rfl) λq h4 H4=>qY ⟨q,rfl,?_⟩;refine bP.I1 (v:=v) (a:=a) (ps:=[]) rfl ?_;rw[show(((max 0 (min m 96)).toNat:Nat):Int)=max ((0:Nat):Int) (min m ((96:Nat):Int)) by omega];exact H4
theorem qV0 {n q most:Nat} (hn:2≤n) {lv:List bz} {b:Int} (H:HS g h (bP q most lv::R)) (O:eM most lv) (hf:∀x∈lv,x.2.length<1000000) :
  aA n 331 [.ptr q 0,.int .i64 b] h λ_ h'=>HS g h' (bP q most (JD lv b)::R):=by
 cases lv with
 |nil=>have:=O.one;simp at this
 |cons x r=>
 refine ba (S:=S331) rfl omQ λk hk=>?_;unfold S331;try simp only[iZ]
 obtain⟨v,a,ps,e,H⟩:=bP.E1 H;rw[← e]at H;refine qG (Xh omQ H .here e_1 (by have:=O.deep;simp at this;omega)) ?_;rintro _ _ ⟨rfl,rfl⟩;obtain⟨w,fv,H2⟩:=cM.E (H.aI e_2);refine qK (qQ (qX ‹_› .here rfl ?_));refine qf (n:=1) (l:=[.int .i64 b]) (sz:=1) H2 rfl rfl rfl rfl λv3 h3 H3=>?_;have:=hf x (iK ..);refine ju (H3.aI (P:=qD 3 1 x.2.length fv (x.2.map (.int .i64))) e_3) (H3.sl .here) omQ omQ rfl λv4 h4 H4=>?_;refine qK (qQ (qw H4 e_2 (H4.one .here) aN λh5 H5=>qY ?_));refine bP.I1 (v:=v) (a:=a) (ps:=ps) e ?_;rw[← e];have:=cM.I (a:=a) (w:=w) (fv:=v4) (x:=(x.1,x.2++[b])) (R:=qy q [.int .i64 (most:Int),v]::qD 232 1 (ps.length+1) v (xm (a::ps))::(List.zipWith cM ps r++R))
  (by rw[List.map_append,List.length_append];exact H5.sub (.cons .here (.cons e_2 (.cons .here (.cons e_1 (.cons e_1 (.drop (.refl))))))))
 exact this.sub (.cons e_1 (.cons e_1 (.refl)))
theorem qVF {n q most:Nat} (hn:1≤n) {lv:List bz} (H:HS g h (bP q most lv::R)) (O:eM most lv) (hf:(xy lv).length<1000000) :
  aA n 149 [.ptr q 0] h λv h'=>HS g h' (qD 3 1 (xy lv).length v ((xy lv).map (.int .i64))::bP q most lv::R):=by
 refine aB (S:=S149) rfl omQ λk hk=>?_;unfold S149;try simp only[iZ]
 have hd:=O.deep;obtain⟨v,ps,e,H⟩:=bP.E H;refine qK (qQ (qX ‹_› .here rfl ?_));refine qm ‹_› e_1 ?_
 refine jR (λm s h'=>∃(i:Nat) (acc:AV),s=(.int .i64 (i:Int),.int .i64 (lv.length:Int),v,acc,())∧i≤lv.length∧m=lv.length-i∧
  HS g h' (qD 3 1 ((lv.reverse.take i).flatMap (·.2)).length acc (((lv.reverse.take i).flatMap (·.2)).map (.int .i64))::qy q [.int .i64 (most:Int),v]::qD 232 1 lv.length v (xm ps)::(List.zipWith cM ps lv++R)))
  ?_ (m:=lv.length) (by have:=O.deep;show _<1000000000;omega) ⟨0,.ak,rfl,by omega,by omega,H.ak⟩
 rintro m ih s h' bF ⟨i,acc,rfl,h1,rfl,H⟩;dsimp only;refine xz (λap=>qZ ?_) λik=>qJ (qx (qY ?_))
 ·have hi:i<lv.length:=by omega
  have ha:ps[ps.length-1-i]? =some (ps[ps.length-1-i]'omQ):=iW _;have hx:lv[ps.length-1-i]? =some (lv[ps.length-1-i]'omQ):=iW _;generalize ps[ps.length-1-i]'omQ=a at ha;have rp:lv.reverse[i]? =some (lv[ps.length-1-i]'omQ):=by rw[List.getElem?_reverse hi,← hx,e]
  generalize lv[ps.length-1-i]'omQ=x at hx rp;refine jb (H.sl e_2) (by rw[Y3 omQ,ha];rfl) ?_;obtain⟨T,s⟩:=G7 (R:=R) ha hx;have H2:=H.aI (.there (.there (.there s)));obtain⟨w,fv,H3⟩:=cM.E H2;refine qK (qQ (qX ‹_› .here rfl ?_));have hlen:((lv.reverse.take i).flatMap (·.2)).length+x.2.length≤(xy lv).length:=by
   have e1:lv.reverse.flatMap (·.2)=(lv.reverse.take (i+1)).flatMap (·.2)++(lv.reverse.drop (i+1)).flatMap (·.2):=by rw[← List.flatMap_append,List.take_append_drop]
   unfold xy;rw[e1,List.take_add_one,rp];simp
  refine ju (H3.aI (P:=qD 3 1 ((lv.reverse.take i).flatMap (·.2)).length acc (((lv.reverse.take i).flatMap (·.2)).map (.int .i64))) e_3) (H3.sl e_2) omQ omQ ?_ λv4 h4 H4=>qU omQ ?_
  ·simp[ql,AV.one]
  refine bF (lv.length-(i+1)) _ _ omQ ⟨i+1,v4,rfl,by omega,rfl,?_⟩;rw[List.take_add_one,rp,Option.toList_some,List.flatMap_append,List.map_append,List.length_append,List.flatMap_cons,List.flatMap_nil,List.append_nil];have H5:=cM.I (a:=a) (w:=w) (fv:=fv) (x:=x) (H4.sub (.cons e_1 (.cons e_1 (.cons e_1 .refl))));exact HS.cm (.there (.there (.there s))) (H5.sub (.refl))
 ·obtain rfl:i=lv.length:=by omega
  rw[List.take_of_length_le aN]at H;exact(bP.I (v:=v) (ps:=ps) e (HS.back (A:=_::_::List.zipWith cM ps lv) H)).sub (.cons e_1 (.refl))
theorem FN (l:List Nat):l.reverse.sum=l.sum:=by
 induction l with
 |nil=>rfl
 |cons a l ih=>rw[List.reverse_cons,List.sum_append,ih,List.sum_cons];simp[Nat.add_comm]
theorem qW4 {n q most:Nat} (hn:2≤n) {lv:List bz} (H:HS g h (bP q most lv::R)) (O:eM most lv) :
  aA n 301 [.ptr q 0] h λv h'=>v=.int .i64 ((most:Int)-(yT lv:Int))∧h'=h:=by
 refine aB (S:=S301) rfl omQ λk hk=>?_;unfold S301;try simp only[iZ]
 obtain⟨v,ps,e,H⟩:=bP.E H;have hh:=O.held;have hl:=O.le;have hd:=O.deep;refine qK (qQ (qX ‹_› .here rfl ?_));refine qK (qQ (qX ‹_› .here rfl ?_));refine qm ‹_› e_1 ?_;refine jR (λm s h'=>∃(i:Nat),s=(.int .i64 (i:Int),.int .i64 (lv.length:Int),v,.int .i64 ((most:Int)-(((lv.reverse.take i).map λx=>x.1.length).sum:Nat)),())∧i≤lv.length∧m=lv.length-i∧h'=h)
  ?_ (m:=lv.length) (by show _<1000000000;omega) ⟨0,by simp,by omega,by omega,rfl⟩
 rintro m ih s h' bF ⟨i,rfl,h1,rfl,rfl⟩;dsimp only;have um:∀j,((lv.reverse.take j).map λx=>x.1.length).sum+((lv.reverse.drop j).map λx=>x.1.length).sum=yT lv:=by intro j;rw[← List.sum_append,← List.map_append,List.take_append_drop,List.map_reverse,FN];rfl
 refine xz (λap=>qZ ?_) λik=>qJ (qx (qY ⟨?_,rfl⟩))
 ·have hi:i<lv.length:=by omega
  have ha:ps[ps.length-1-i]? =some (ps[ps.length-1-i]'omQ):=iW _;have hx:lv[ps.length-1-i]? =some (lv[ps.length-1-i]'omQ):=iW _;generalize ps[ps.length-1-i]'omQ=a at ha;have rp:lv.reverse[i]? =some (lv[ps.length-1-i]'omQ):=by rw[List.getElem?_reverse hi,← hx,e]
  generalize lv[ps.length-1-i]'omQ=x at hx rp;refine jb (H.sl e_1) (by rw[Y3 omQ,ha];rfl) ?_;obtain⟨T,s⟩:=G7 (R:=R) ha hx;obtain⟨w,fv,H3⟩:=cM.E (H.aI (.there (.there s)));refine qK (qQ (qX ‹_› .here rfl ?_));refine qG (qx2 omQ (H3.aI e_1)) ?_;rintro _ _ ⟨rfl,rfl⟩;have h2:=um i;have h3:=um (i+1);have h4:((lv.reverse.take (i+1)).map λx=>x.1.length).sum=((lv.reverse.take i).map λx=>x.1.length).sum+x.1.length:=by rw[List.take_add_one,rp,Option.toList_some,List.map_append,List.sum_append];simp
  refine zB omQ (qU omQ (bF (lv.length-(i+1)) _ _ omQ ⟨i+1,?_,by omega,rfl,rfl⟩));rw[h4];refine Prod.ext ?_ (Prod.ext rfl (Prod.ext rfl (Prod.ext ?_ rfl)))
  ·show AV.int _ _=AV.int _ _
   congr 1
  ·show AV.int _ _=AV.int _ _
   congr 1
   omega
 ·have h2:=um i;rw[List.drop_of_length_le (by simp;omega)]at h2;rw[show((lv.reverse.take i).map λx=>x.1.length).sum=yT lv by simpa using h2]
theorem LB {k b0 l:Nat} {v:AV} {ps:List Nat} {Inv:Nat→AH→Prop} {Fin:AH→Prop}
  (LC:∀i h,Inv i h→h.at b0 0=some v∧Sl (λ_=>True) h 1 ps.length v (xm ps))
  (hy:∀i a h,ps[i]? =some a→Inv i h→wp (callT tab qz k (.yield l) [.int .i64 ((ps.length-1-i:Nat):Int),.ptr a 0] h) λr h'=>(r=.bool true∧Inv (i+1) h')∨(r=.bool false∧Fin h'))
  (hl:ps.length<1000000) (h0:Inv 0 h):wp (callT tab qz (k+1) (.fn 198 [] [.ptr b0 0]) [.yield l] h) λ_ h'=>Inv ps.length h'∨Fin h':=by
 refine I7 (g:=(bB S198)) rfl omQ λk' hk=>?_;obtain rfl:k'=k:=by omega
 show wp (S198 _ _ _ _).1 _;unfold S198
 try simp only[iI,uU,iZ]
 obtain⟨r1,r2⟩:=LC 0 h h0;refine QS r1 (xS r2 (zB omQ ?_));refine jR (λm s h'=>∃i:Nat,s=(.int .i64 ((ps.length:Int)-((1:Nat):Int)-(i:Int)),.ptr b0 0,.yield l,())∧i≤ps.length∧m=ps.length-i∧Inv i h') ?_ (m:=ps.length) (by show _<1000000000;omega) ⟨0,by simp,by omega,by omega,h0⟩;rintro m ih s h' bF ⟨i,rfl,h1,rfl,hI⟩;dsimp only;obtain⟨r1,r2⟩:=LC i h' hI;refine yA (λap=>qZ ?_) λik=>qJ (qx (qY (.inl ?_)))
 ·have hi:i<ps.length:=by omega
  have ha:ps[i]? =some ps[i]:=iW hi;rw[show(ps.length:Int)-((1:Nat):Int)-(i:Int)=((ps.length-1-i:Nat):Int) by omega];refine QS r1 (jb r2 (by rw[Y3 omQ,show ps.length-1-(ps.length-1-i)=i by omega,ha];rfl) ?_);refine qG (hy i _ h' ha hI) ?_;rintro _ h2 (⟨rfl,hI2⟩ |⟨rfl,hF⟩)
  ·refine jA (qJ (zB omQ (bF (ps.length-(i+1)) _ _ omQ ⟨i+1,?_,by omega,rfl,hI2⟩)));refine Prod.ext ?_ rfl;show AV.int _ _=AV.int _ _
   congr 1
   omega
  ·exact jF (qZ (qx (qY (.inr hF))))
 ·obtain rfl:i=ps.length:=by omega
  exact hI
theorem qZl {p:Int}:∀{lv:List bz},(∀(j:Nat) x,lv[j]? =some x→zU p x.1=none)→YN p lv=none:=by
 intro lv
 induction lv with
 |nil=>intro _;rfl
 |cons x r ih=>intro h;unfold YN;rw[h 0 x rfl];exact ih λj y hy=>h (j+1) y (by simpa using hy)
theorem qK6 {p v:Int}:∀{lv:List bz} {i:Nat} {x:bz},(∀j,j<i→∀x,lv[j]? =some x→zU p x.1=none)→lv[i]? =some x→zU p x.1=some v→YN p lv=some v:=by
 intro lv
 induction lv with
 |nil=>intro i x _ h;simp at h
 |cons y r ih=>
  intro i x h1 h2 h3;unfold YN;cases i with
  |zero=>simp at h2;subst h2;rw[h3]
  |succ i=>rw[h1 0 omQ y rfl];exact ih (i:=i) (x:=x) (λj hj z hz=>h1 (j+1) omQ z (by simpa using hz)) (by simpa using h2) h3
theorem eM.len {most:Nat} {lv:List bz} (O:eM most lv) {x:bz} (hx:x∈lv):x.1.length≤96:=by
 have h1:=O.held;have h2:=O.le;have:x.1.length≤yT lv:=by
  clear h1 O
  induction lv with
  |nil=>cases hx
  |cons y r ih=>
   rw[zn];rcases List.mem_cons.1 hx with rfl |hx
   ·omega
   ·have:=ih hx;omega
 omega
theorem GC {n:Nat} (hn:1≤n) {v:AV} (h1:One v) (H:HS g h L):aA n 165 [v] h λr h'=>∃b,r=.fn 198 [] [.ptr b 0]∧HS g h' (qy b [v]::L):=by
 refine aB (S:=S165) rfl omQ λk hk=>?_;unfold S165;try simp only[iZ]
 exact J0 H h1 λb h2 H2=>qY ⟨b,rfl,H2⟩
theorem qz4 {n q most:Nat} (hn:8≤n) {lv:List bz} {p:Int} (H:HS g h (bP q most lv::R)) (O:eM most lv) :
  aA n 196 [.ptr q 0,.int .i64 p] h λv h'=>v=.bJ [.int .u64 ((YN p lv).getD 0),.bool (YN p lv).isSome]∧HS g h' (bP q most lv::R):=by
 (refine qA (g:=W196) rfl omQ λk hk=>?_;show wp (S196 (callT tab qz k) _ _ _) _;unfold S196;try simp only[iI,uU,iZ])
 obtain⟨v,ps,e,H⟩:=bP.E H;have hd:=O.deep;refine J0 H ⟨rfl,rfl⟩ λb1 h1 H=>J0 H ⟨rfl,rfl⟩ λb2 h2 H=>J0 H ⟨rfl,rfl⟩ λb3 h3 H=>?_;refine qK (qQ (qX ‹_› e_3 rfl ?_));refine qG (GC omQ (H.one e_4) H) ?_;rintro _ h4 ⟨b4,rfl,H⟩;have H5:=(H.iT .ij).iT (.loop .ready none 196 [1,0,1,0] [5,4,3] [.ptr b3 0,.ptr b2 0,.ptr b1 0] h4.nx);generalize(h4.new .ij).nx=l at H5 ⊢;generalize h4.nx=d at H5 ⊢;obtain⟨k2,rfl⟩:∃k2,k=k2+1:=⟨k-1,by omega⟩
 refine O6 (LB (b0:=b4) (v:=v) (ps:=ps)
  (Inv:=λi h'=>HS g h' (wb l (.loop .ready none 196 [1,0,1,0] [5,4,3] [.ptr b3 0,.ptr b2 0,.ptr b1 0] d)::wb d .ij::qy b4 [v]::qy b3 [.bool false]::qy b2 [.int .u64 ((0:Nat):Int)]::qy b1 [.int .i64 p]::
   qy q [.int .i64 (most:Int),v]::qD 232 1 lv.length v (xm ps)::(List.zipWith cM ps lv++R))∧∀j,j<i→∀x,lv[j]? =some x→zU p x.1=none)
  (Fin:=λh'=>∃x,YN p lv=some x∧HS g h' (wb l (.loop .done (some .ret) 196 [1,0,1,0] [5,4,3] [.ptr b3 0,.ptr b2 0,.ptr b1 0] d)::wb d .ij::qy b4 [v]::qy b3 [.bool true]::qy b2 [.int .u64 x]::qy b1 [.int .i64 p]::
   qy q [.int .i64 (most:Int),v]::qD 232 1 lv.length v (xm ps)::(List.zipWith cM ps lv++R)))
  ?_ ?_ omQ ⟨H5,λj hj=>by omega⟩) ?_
 ·rintro i h' ⟨H,_⟩;obtain⟨et,A⟩:=H.obj (b:=b4) e_2;exact⟨A.at 0,e▸H.sl e_7⟩
 ·rintro i a h' ha ⟨H,dx⟩;have hi:=(List.getElem?_eq_some_iff.1 ha).1;have hx:lv[i]? =some (lv[i]'omQ):=iW _;have hm:lv[i]'omQ∈lv:=List.getElem_mem _;generalize lv[i]'omQ=x at hx hm;have rj:=O.len hm;refine O1 (H.br .here) (w:=V1) rfl omQ λk3 DF=>?_;show wp (B1 _ _ _ _ _ (.int .i64 ((ps.length-1-i:Nat):Int)) _ _) _;unfold B1
  try simp only[iI,uU,iZ]
  refine OO H .here λh6 H=>?_;obtain⟨T,s⟩:=G7 (R:=R) ha hx;obtain⟨w,fv,H7⟩:=cM.E (H.aI (.there (.there (.there (.there (.there (.there (.there (.there s)))))))));refine qK (qQ (qX ‹_› .here rfl ?_));refine qX ‹_› e_8 rfl ?_;refine qG (Lz omQ (H7.aI e_1) omQ) ?_;rintro _ h8 ⟨rfl,H8⟩;refine qB rfl ?_;refine qB rfl ?_;cases hg:zU p x.1 with
  |none=>
   refine qJ (Li H8 e_3 λh9 H9=>.inl ⟨rfl,?_,λj hj y hy=>?_⟩)
   ·have fK:=cM.I (a:=a) (w:=w) (fv:=fv) (x:=x) (H9.sub (.cons e_2 (.cons e_1 (.cons e_1 .refl))));exact HS.cm (.there (.there (.there (.there (.there (.there (.there (.there s)))))))) (fK.sub (.refl))
   ·by_cases uo:j<i
    ·exact dx j uo y hy
    ·obtain rfl:j=i:=by omega
     rw[hx]at hy;cases hy;exact hg
  |some z=>refine qZ (qw H8 (b:=b2) e_7 ⟨rfl,rfl⟩ aN λh9 H9=>qw H9 (b:=b3) e_7 ⟨rfl,rfl⟩ aN λeu fK=>qxt fK e_5 λdq nk=>.inr ⟨rfl,z,qK6 dx hx hg,?_⟩);have bT:=cM.I (a:=a) (w:=w) (fv:=fv) (x:=x) (nk.sub (.cons e_4 (.cons e_3 (.cons e_3 .refl))));exact HS.cm (.there (.there (.there (.there (.there (.there (.there (.there s)))))))) (bT.sub (.cons .here (.cons .here (.cons e_2 (.cons e_2 (.cons .here (.cons .here (.refl))))))))
 ·rintro _ h6 (⟨H,dx⟩ |⟨x,hx,H⟩)
  ·have hg:YN p lv=none:=qZl λj x hj=>dx j (by have:=(List.getElem?_eq_some_iff.1 hj).1;omega) x hj;refine Mr H .here (λh=>by cases h) λh7 H=>OM (qw H (b:=b2) e_4 ⟨rfl,rfl⟩ aN λh8 H=>qw H (b:=b3) e_4 ⟨rfl,rfl⟩ aN λh9 H=>Y6 H e_3 λeu H=>?_);refine qX ‹_› e_2 rfl ?_;refine qX ‹_› e_1 rfl ?_;refine qY ⟨by rw[hg];rfl,?_⟩;exact bP.I (v:=v) (ps:=ps) e (H.sub (.cons e_6 (.cons e_6 (.drop (.drop (.drop (.drop (.drop (.drop (.refl))))))))))
  ·refine Mr H .here (λh=>by cases h) λh7 H=>qY8 (qv2 rfl (Y6 H e_1 λh8 H=>?_));refine qX ‹_› e_4 rfl ?_;refine qX ‹_› e_3 rfl ?_;refine qY ⟨by rw[hx];rfl,?_⟩;exact bP.I (v:=v) (ps:=ps) e (H.sub (.cons e_6 (.cons e_6 (.drop (.drop (.drop (.drop (.drop (.drop (.refl))))))))))
theorem qvi {x:bz} {r:List bz} {most:Nat} {p v:Int} (O:eM most (x::r)) (hp:¬(p<1∨256≤p)) (hf:¬(zU p x.1=none∧most≤yT (x::r))):Xj 96 x.1 p v=(0,yR p v x.1):=by have h1:=O.held;have h2:=O.le;rw[zn]at h1 hf;unfold Xj;rw[iQ hp,iQ (λh=>hf ⟨h.1,by omega⟩)]
theorem LD {n q most:Nat} (hn:5≤n) {lv:List bz} {p v:Int} (H:HS g h (bP q most lv::R)) (O:eM most lv) :
  aA n 236 [.ptr q 0,.int .i64 p,.int .u64 v] h λr h'=>r=.int .i64 (vF most lv p v).1∧HS g h' (bP q most (vF most lv p v).2::R):=by
 cases lv with
 |nil=>have:=O.one;simp at this
 |cons x r=>
 have rj:=O.len (x:=x) (iK ..);refine cL (S:=S236) rfl omQ λk hk=>?_;unfold S236;try simp only[iZ]
 unfold vF;by_cases hp:p<1∨256≤p
 ·simp only[iJ hp]
  repeat' (first |with_reducible refine qZ ?_ |with_reducible refine qJ ?_ |(with_reducible refine qR ?_;try dsimp only) |(with_reducible refine jZ ?_;try dsimp only) |(with_reducible refine qS ?_;try dsimp only) |(with_reducible refine qc ?_;try dsimp only) |(with_reducible refine zF ?_;try dsimp only) |with_reducible refine qC ?_ |with_reducible refine qF ?_ |(with_reducible refine qW ?_;try dsimp only) |with_reducible refine qx ?_ |with_reducible refine jA ?_ |with_reducible refine jF ?_ |with_reducible refine qU omQ ?_ |with_reducible refine zB omQ ?_ |with_reducible refine ya omQ ?_ |with_reducible refine vu omQ ?_ |with_reducible refine zz ?_ |with_reducible refine zh ?_ |with_reducible refine qk omQ ?_ |with_reducible refine qj omQ ?_ |with_reducible refine jQ omQ ?_ |with_reducible refine jJ omQ ?_ |with_reducible refine jH omQ ?_ |with_reducible refine jz omQ ?_ |with_reducible refine Qt omQ ?_ |with_reducible refine Jt omQ ?_ |with_reducible refine y8 omQ ?_ |with_reducible refine yU omQ ?_ |with_reducible refine zy omQ ?_ |with_reducible refine zY omQ ?_ |with_reducible refine xz (λhc=>?_) (λhc=>?_) |with_reducible refine wn (λhc=>?_) (λhc=>?_) |with_reducible refine QW (λhc=>?_) (λhc=>?_) |with_reducible refine yA (λhc=>?_) (λhc=>?_) |with_reducible refine vw (λhc=>?_) (λhc=>?_) |with_reducible refine yx (λhc=>?_) (λhc=>?_) |with_reducible refine gj (λhc=>?_) (λhc=>?_))
  all_goals exact qY ⟨rfl,H⟩
 simp only[iQ hp];refine jz omQ ?_;refine qW ?_;(try dsimp only);refine qc ?_;(try dsimp only);refine zY omQ ?_;refine qF (qJ ?_)
 have hH:=H;obtain⟨sv,a,ps,e,H⟩:=bP.E1 H;rw[← e]at H;refine qG (Xh omQ H .here e_1 (by have:=O.deep;simp at this;omega)) ?_;rintro _ _ ⟨rfl,rfl⟩;obtain⟨w,fv,H2⟩:=cM.E (H.aI e_2);refine qK (qQ (qX ‹_› .here rfl ?_));refine qG (Lz omQ (H2.aI e_1) omQ) ?_;rintro _ h3 ⟨rfl,H3⟩;refine qB rfl ?_;refine qB rfl ?_;have H4:HS g h3 (bP q most (x::r)::R):=by have H4:=cM.I (a:=a) (w:=w) (fv:=fv) (x:=x) (H3.sub (.cons e_1 (.cons .here .refl)));refine bP.I1 (v:=sv) (a:=a) (ps:=ps) e ?_;rw[← e];exact H4.sub (.cons e_1 (.cons e_1 (.refl)))
 have fin:¬(zU p x.1=none∧most≤yT (x::r))→∀h5,HS g h5 (da w 96 x.1::qy a [.ptr w 0,fv]::qD 3 1 x.2.length fv (x.2.map (.int .i64))::qy q [.int .i64 (most:Int),sv]::qD 232 1 (ps.length+1) sv (xm (a::ps))::(List.zipWith cM ps r++R))→
   aA k 199 [.ptr w 0,.int .i64 p,.int .u64 v] h5 λr' h'=>r'=.int .i64 0∧HS g h' (bP q most ((yR p v x.1,x.2)::r)::R):=by
  intro hf h5 H5;refine(LA omQ H5 omQ).mono ?_;rintro _ h6 ⟨rfl,H6⟩;rw[qvi O hp hf]at H6 ⊢;refine⟨rfl,bP.I1 (v:=sv) (a:=a) (ps:=ps) e ?_⟩;rw[← e];have H7:=cM.I (a:=a) (w:=w) (fv:=fv) (x:=(yR p v x.1,x.2)) (H6.sub (.cons e_1 (.cons .here .refl)));exact H7.sub (.cons e_1 (.cons e_1 (.refl)))
 cases hg:zU p x.1 with
 |some z=>
  simp only[Option.isSome_some];refine jA (qW ?_);(try dsimp only);refine qS ?_;(try dsimp only);refine qF (qJ ?_)
  rw[iQ (λh=>by cases h.1)];refine qG (fin (λh=>by rw[hg]at h;cases h.1) h3 (H3.sub (.refl))) ?_;rintro _ h6 ⟨rfl,H6⟩;exact qY ⟨rfl,H6⟩
 |none=>
  simp only[Option.isSome_none];refine jF (qW ?_);(try dsimp only);refine qR ?_;(try dsimp only)
  refine qG (qW4 omQ H4 O) ?_;rintro _ _ ⟨rfl,rfl⟩;have hh:=O.held;refine vw (λh0=>?_) λh0=>?_
  ·refine qC (qZ ?_);rw[iJ ⟨by trivial,by omega⟩];exact qY ⟨rfl,H4⟩
  ·refine qC (qJ ?_);rw[iQ (λh=>h0 omQ)];refine qG (fin (λh=>h0 omQ) _ (H3.sub (.refl))) ?_;rintro _ h6 ⟨rfl,H6⟩;exact qY ⟨rfl,H6⟩
theorem GV {most:Nat} {x:bz} {r:List bz} {p v:Int}:∃c,(vF most (x::r) p v).2=(c,x.2)::r:=by
 unfold vF;dsimp only
 split
 ·exact⟨x.1,rfl⟩
 ·split
  ·exact⟨x.1,rfl⟩
  ·exact⟨_,rfl⟩
theorem qWb {n q most:Nat} (hn:7≤n) {lv:List bz} {cs:List Cl} {c:AV} (H:HS g h (bP q most lv::R)) (O:eM most lv) (S:Rd g R 2 cs.length c (cs.flatMap jT)) (hc:cs.length<100000) :
  aA n 197 [.ptr q 0,c] h λr h'=>r=.int .i64 (vV most lv lv cs).1∧HS g h' (bP q most (vV most lv lv cs).2::R):=by
 cases lv with
 |nil=>have:=O.one;simp at this
 |cons x r=>
 have rj:=O.len (x:=x) (iK ..);have B7:=O.ins x (iK ..);have FO:=O.un x (iK ..);refine ba (S:=S197) rfl omQ λk hk=>?_;unfold S197;try simp only[iZ]
 refine qG (Nw (m:=96) omQ omQ H) ?_;rintro _ h1 ⟨w0,rfl,H1⟩;obtain⟨sv,a,ps,e,H2⟩:=bP.E1 (H1.aI e_1);rw[← e]at H2;refine qG (Xh omQ H2 .here e_1 (by have:=O.deep;simp at this;omega)) ?_;rintro _ _ ⟨rfl,rfl⟩;obtain⟨w,fv,H3⟩:=cM.E (H2.aI e_2);refine qK (qQ (qX ‹_› .here rfl ?_));refine qG (YE omQ (H3.aI (P:=da w 96 x.1) e_1) omQ) λva h4 H4=>?_;refine qG (Yq (cs:=x.1) (l:=[]) (m:=96) (w:=w0) omQ (H4.aI (.there (.there (.there (.there (.there (.there (bc.skip _ .here))))))))  (.own .here) aN omQ) ?_;rintro _ h5 ⟨_,H5⟩;have ht:wO 96 [] x.1=(0,x.1):=by unfold wO;rw[Yk B7 (by simpa using rj),Vb FO,iJ rfl]
 rw[ht]at H5;have H6:HS g h5 (bP q most (x::r)::da w0 96 x.1::R):=by have H7:=cM.I (a:=a) (w:=w) (fv:=fv) (x:=x) (H5.sub (.cons e_3 (.cons e_2 (.cons e_2 .refl))));refine bP.I1 (v:=sv) (a:=a) (ps:=ps) e ?_;rw[← e];have H8:HS g h5 (da w0 96 x.1::(qy q [.int .i64 (most:Int),sv]::qD 232 1 (ps.length+1) sv (xm (a::ps))::cM a x::List.zipWith cM ps r)++R):=H7.sub (.cons e_1 (.cons e_2 (.cons e_2 (.cons .here (.drop .refl)))));exact HS.back H8
 clear H1 H2 H3 H4 H5;refine xS (S.sl H6.drop.drop) ?_
 refine jR (λk s h'=>∃(i:Nat) (c':List Cl),s=(.int .i64 (i:Int),.int .i64 (cs.length:Int),c,.ptr w0 0,.ptr q 0,())∧i≤cs.length∧k=cs.length-i∧eM most ((c',x.2)::r)∧
  HS g h' (bP q most ((c',x.2)::r)::da w0 96 x.1::R)∧vV most (x::r) (x::r) cs=vV most (x::r) ((c',x.2)::r) (cs.drop i)) ?_ (m:=cs.length) (by show _<1000000000;omega) ⟨0,x.1,rfl,by omega,by omega,O,H6,rfl⟩
 rintro k2 ih s h2 bF ⟨i,c',rfl,h1,rfl,O',H,hT⟩;dsimp only;refine xz (λap=>qZ ?_) λik=>qJ (qx (qY ?_))
 ·have hi:i<cs.length:=by omega
  have rz:cs[i]? =some cs[i]:=iW hi;refine zS (l:=jT cs[i]) (S.sl H.drop.drop) hi omQ (Yr rz) ?_;refine qI H rfl λb h3 H3=>qd H3 .here rfl (by show 0+2≤2;omega) rfl λh4 H4=>?_;have H5:HS g h4 (qy b (jT cs[i])::bP q most ((c',x.2)::r)::da w0 96 x.1::R):=H4;unfold jT at H5;refine qQ (qX ‹_› .here rfl ?_);refine qQ (qX ‹_› .here rfl ?_);refine qG (LD omQ H5.drop O') ?_;rintro _ h6 ⟨rfl,H6⟩;rw[List.drop_eq_getElem_cons hi,vM]at hT;have O2:=(MP (p:=cs[i].1) (v:=cs[i].2) O').1;obtain⟨c2,oN⟩:=GV (most:=most) (x:=(c',x.2)) (r:=r) (p:=cs[i].1) (v:=cs[i].2);refine yx (λcx=>qZ ?_) λhe=>qJ (qU omQ ?_)
  ·have cx:¬(vF most ((c',x.2)::r) cs[i].1 cs[i].2).1=0:=by simpa using cx
   rw[iQ cx]at hT;rw[oN]at H6;obtain⟨sv,a,ps,e,H7⟩:=bP.E1 H6;rw[← e]at H7;refine qG (Xh omQ H7 .here e_1 (by have:=O.deep;simp at this;omega)) ?_;rintro _ _ ⟨rfl,rfl⟩;obtain⟨w,fv,H8⟩:=cM.E (H7.aI e_2);refine qK (qQ (qw H8 .here ⟨rfl,rfl⟩ aN λh9 H9=>qx (qY ?_)));rw[hT];refine⟨rfl,bP.I1 (v:=sv) (a:=a) (ps:=ps) e ?_⟩;rw[← e];obtain⟨T,sT,uT⟩:∃T,bc (List.zipWith cM ps r++da w0 96 x.1::R) (da w0 96 x.1) T∧T=List.zipWith cM ps r++R:=⟨_,bc.skip _ .here,rfl⟩;subst uT;have fK:=cM.I (a:=a) (w:=w0) (fv:=fv) (x:=x) (H9.sub (.cons .here (.cons (.there (.there (.there (.there sT)))) (.cons e_1 (.drop .refl)))));exact fK.sub (.cons e_1 (.cons e_1 (.refl)))
  ·have FM:(vF most ((c',x.2)::r) cs[i].1 cs[i].2).1=0:=by simpa using he
   rw[iJ FM,oN]at hT;rw[oN]at H6 O2;exact bF (cs.length-(i+1)) _ _ omQ ⟨i+1,c2,rfl,by omega,rfl,O2,H6,hT⟩
 ·rw[List.drop_of_length_le omQ]at hT;have hT:vV most (x::r) (x::r) cs=(0,(c',x.2)::r):=hT;rw[hT];exact⟨rfl,H.sub (.cons .here (.drop .refl))⟩
theorem UJ (a:Nat) (ps:List Nat):xm (a::ps)=xm ps++[.ptr a 0]:=by unfold xm;rw[List.reverse_cons,List.map_append];rfl
theorem VA (ps:List Nat):(xm ps).length=ps.length:=by simp[xm]
theorem qWp {n q most:Nat} (hn:3≤n) {lv:List bz} (H:HS g h (bP q most lv::R)) (O:eM most lv) :
  aA n 332 [.ptr q 0] h λv h'=>v=.int .i64 (kI lv).1∧HS g h' (bP q most (kI lv).2::R):=by
 refine aB (S:=S332) rfl omQ λk hk=>?_;unfold S332;try simp only[iZ]
 have hH:=H;obtain⟨v,ps,e,H⟩:=bP.E H;unfold kI;by_cases h6:6≤lv.length
 ·rw[iJ h6];refine qK (qQ (qX ‹_› .here rfl ?_));refine qm ‹_› e_1 ?_;refine zy omQ ?_;refine qZ ?_;exact qY ⟨rfl,hH⟩
 ·rw[iQ h6];refine qK (qQ (qX ‹_› .here rfl ?_));refine qm ‹_› e_1 ?_;refine zY omQ ?_;refine qJ (qW ?_);(try dsimp only);refine qK (qQ (qX ‹_› .here rfl ?_))
  refine qG (Mg omQ H) ?_;rintro _ h2 ⟨a,rfl,H2⟩;refine qf (n:=1) (l:=[.ptr a 0]) (sz:=1) H2 rfl rfl rfl rfl λv3 h3 H3=>?_;refine ju (H3.aI e_3) (H3.sl .here) omQ omQ rfl λv4 h4 H4=>?_;refine qK (qQ (qw H4 (b:=q) e_3 (H4.one .here) aN λh5 H5=>?_));refine qb ‹_› .here rfl ‹_› e_1 rfl (HS.lt ‹_› .here) ?_;refine qY ⟨rfl,bP.I1 (v:=v4) (a:=a) (ps:=ps) e ?_⟩;rw[UJ];exact H5.sub (.cons .here (.cons .here (.cons e_1 (.drop (.refl)))))
theorem ZN {n q:Nat} (hn:1≤n) {m v:AV} {a:Nat} {ps:List Nat} (h1:1≤ps.length) (hl:ps.length<1000) (H:HS g h (qy q [m,v]::qD 232 1 (ps.length+1) v (xm (a::ps))::R)) :
  aA n 300 [.ptr q 0] h λr h'=>r=.int .i64 0∧∃v',HS g h' (qy q [m,v']::qD 232 1 ps.length v' (xm ps)::R):=by
 refine aB (S:=S300) rfl omQ λk hk=>?_;unfold S300;try simp only[iZ]
 refine qK (qQ (qX ‹_› .here rfl ?_));refine qm ‹_› e_1 ?_;refine qj omQ ?_;refine qJ (qK (qQ (qX ‹_› .here rfl ?_)));refine qK (qQ (qX ‹_› .here rfl ?_));refine qm ‹_› e_1 ?_;refine zB omQ ?_;rw[show((ps.length+1:Nat):Int)-((1:Nat):Int)=((ps.length:Nat):Int) by omega];refine Gu (H.aI e_1) omQ omQ λv' H2=>?_;refine qK (qQ (qw H2 (b:=q) e_1 (H2.one .here) aN λh3 H3=>qY ⟨rfl,v',?_⟩));rw[UJ,Nat.mul_one,← VA ps,List.take_left,VA]at H3;exact H3.sub (.cons .here (.refl))
theorem Ow {n q most:Nat} (hn:1≤n) {lv:List bz} (H:HS g h (bP q most lv::R)) (O:eM most lv) :
  aA n 300 [.ptr q 0] h λv h'=>v=.int .i64 (kH lv).1∧HS g h' (bP q most (kH lv).2::R):=by
 unfold kH;by_cases h1:lv.length=1
 ·rw[iJ h1];refine aB (S:=S300) rfl omQ λk hk=>?_;unfold S300;try simp only[iZ]
  have hH:=H;obtain⟨v,ps,e,H⟩:=bP.E H;refine qK (qQ (qX ‹_› .here rfl ?_));refine qm ‹_› e_1 ?_;refine qk omQ ?_;refine qZ ?_;exact qY ⟨rfl,hH⟩
 ·rw[iQ h1];cases lv with
  |nil=>have:=O.one;simp at this
  |cons x r=>
  have hd:=O.deep;simp at h1 hd;have h1':1≤r.length:=by cases r with |nil=>simp at h1 |cons _ _=>simp
  obtain⟨v,a,ps,e,H⟩:=bP.E1 H;rw[← e]at H;refine(ZN hn omQ omQ H).mono ?_;rintro _ h2 ⟨rfl,v',H2⟩;refine⟨rfl,bP.I (v:=v') (ps:=ps) e ?_⟩;show HS g h2 (_::qD 232 1 r.length v' _::(List.zipWith cM ps r++R));rw[← e];exact H2.sub (.cons .here (.cons .here (.drop .refl)))
theorem qYn {n q most:Nat} (hn:6≤n) {lv:List bz} (H:HS g h (bP q most lv::R)) (O:eM most lv) (hf:∀x∈lv,x.2.length<1000000) :
  aA n 298 [.ptr q 0] h λv h'=>v=.int .i64 (QO lv).1∧HS g h' (bP q most (QO lv).2::R):=by
 rcases lv with _ |⟨x,_ |⟨y,r⟩⟩
 ·have:=O.one;simp at this
 ·
  refine aB (S:=S298) rfl omQ λk hk=>?_;unfold S298;try simp only[iZ]
  obtain⟨v,a,ps,e,H2⟩:=bP.E1 H;rw[← e]at H2;refine qG (Xh omQ H2 .here e_1 (by simp at e;simp[e])) ?_;rintro _ _ ⟨rfl,rfl⟩;refine qG (Ow omQ H O) ?_;rintro _ h3 ⟨rfl,H3⟩;rw[show kH [x]=(10,[x])from rfl]at H3 ⊢;refine jQ omQ ?_;refine qZ ?_;exact qY ⟨rfl,H3⟩
 ·
  have hx:=hf x aN;have hy:=hf y aN;have B7:=O.ins x aN;have hd:=O.deep;have hh:=O.held;have hle:=O.le;rw[zn,zn]at hh;simp at hd;refine aB (S:=S298) rfl omQ λk hk=>?_;unfold S298;try simp only[iZ]
  obtain⟨v,a,ps,e,H2⟩:=bP.E1 H;rw[← e]at H2;refine qG (Xh omQ H2 .here e_1 (by simp at e;omega)) ?_;rintro _ _ ⟨rfl,rfl⟩;simp at e;refine qG (ZN omQ omQ omQ H2) ?_;rintro _ h3 ⟨rfl,v',H3⟩;cases ps with
  |nil=>simp at e
  |cons b ps=>
  simp at e;refine jJ omQ ?_;refine qJ (qG (Xh omQ H3 .here e_1 omQ) ?_);rintro _ _ ⟨rfl,rfl⟩;have H4:HS g _ (cM b y::cM a x::qy q [.int .i64 (most:Int),v']::qD 232 1 (ps.length+1) v' (xm (b::ps))::(List.zipWith cM ps r++R)):=H3.sub (.cons e_3 (.cons e_2 (.cons .here (.cons .here .refl))));obtain⟨w1,f1,H4⟩:=cM.E H4;obtain⟨w2,f2,H5⟩:=cM.E (H4.aI e_3);refine qK (qQ (qX ‹_› e_3 rfl ?_));refine qK (qQ (qX ‹_› .here rfl ?_));refine ju (H5.aI e_5) (H5.sl e_2) omQ omQ ?_ λv6 h6 H6=>?_
  ·simp[ql,AV.one]
  refine qK (qQ (qw H6 (b:=b) e_4 (H6.one .here) aN λh7 H7=>?_));simp only[List.set_cons_zero,List.set_cons_succ]at H7;refine qW ?_;(try dsimp only);refine qK (qQ (qX ‹_› .here rfl ?_));refine qK (qQ (qX ‹_› e_2 rfl ?_))
  refine qG (YE omQ (H7.aI (P:=da w2 96 x.1) e_3) omQ) λv8 h8 H8=>?_;refine qG (Yq (cs:=x.1) (l:=y.1) (m:=96) (w:=w1) omQ (H8.aI (P:=da w1 96 y.1) e_6) (.own .here) omQ omQ) ?_;rintro _ h9 ⟨rfl,H9⟩;have ht:wO 96 y.1 x.1=(0,yM y.1 x.1):=by unfold wO;rw[Yk B7 omQ,iJ rfl]
  rw[ht]at H9 ⊢;refine qb ‹_› .here rfl ‹_› e_2 rfl (HS.lt ‹_› .here) ?_;refine qY ⟨rfl,bP.I1 (v:=v') (a:=b) (ps:=ps) omQ ?_⟩;show HS g h9 (_::qD 232 1 (r.length+1) v' _::_);rw[← e];have fK:=cM.I (a:=b) (w:=w1) (fv:=v6) (x:=(yM y.1 x.1,y.2++x.2)) (R:=qy q [.int .i64 (most:Int),v']::qD 232 1 (ps.length+1) v' (xm (b::ps))::(List.zipWith cM ps r++R))
   (by rw[List.map_append,List.length_append];exact H9.sub (.cons e_3 (.cons .here (.cons e_2 (.cons e_4 (.cons e_4 (.drop (.drop (.drop (.drop (.refl)))))))))))
  exact fK.sub (.cons e_1 (.cons e_1 (.refl)))
theorem K9:∀(lv:List bz) (out:List Cl),(lv.foldl (λout x=>yM x.1 out) out).length≤out.length+yT lv:=by
 intro lv
 induction lv with
 |nil=>intro out;simp
 |cons x r ih=>intro out;have h1:=ih (yM x.1 out);have h2:=Kv (cs:=out) (l:=x.1);rw[List.foldl_cons,zn];omega
theorem U5:∀(lv:List bz) (out:List Cl),nU out→(∀x∈lv,nU x.1)→nU (lv.foldl (λout x=>yM x.1 out) out):=by
 intro lv
 induction lv with
 |nil=>intro out h _;exact h
 |cons x r ih=>intro out h hx;exact ih _ ((hx x (iK ..)).nV h) λy hy=>hx y (iX _ hy)
theorem qKL (l1 l2:List bz):yT (l1++l2)=yT l1+yT l2:=by simp[yT]
theorem qXL {n q most:Nat} (hn:9≤n) {lv:List bz} (H:HS g h (bP q most lv::R)) (O:eM most lv) :
  aA n 139 [.ptr q 0] h λv h'=>HS g h' (qD 163 2 (jh lv).length v ((jh lv).flatMap jT)::bP q most lv::R):=by
 (refine qA (g:=W139) rfl omQ λk hk=>?_;show wp (S139 (callT tab qz k) _ _) _;unfold S139;try simp only[iI,uU,iZ])
 obtain⟨v,ps,e,H⟩:=bP.E H;have hd:=O.deep;have hle:=O.le;have hhe:=O.held;refine J0 (H.ak (e:=163) (sz:=2)) ⟨rfl,rfl⟩ λb1 h1 H=>?_;refine qK (qQ (qX ‹_› e_2 rfl ?_));refine qG (GC omQ (H.one e_3) H) ?_;rintro _ h4 ⟨b4,rfl,H⟩;have H5:=(H.iT .ij).iT (.loop .ready none 139 [1,1,0,1,0] [3] [.ptr b1 0] h4.nx);generalize(h4.new .ij).nx=l at H5 ⊢;generalize h4.nx=d at H5 ⊢;obtain⟨k2,rfl⟩:∃k2,k=k2+1:=⟨k-1,by omega⟩
 refine O6 (LB (b0:=b4) (v:=v) (ps:=ps)
  (Inv:=λi h'=>∃ov,HS g h' (wb l (.loop .ready none 139 [1,1,0,1,0] [3] [.ptr b1 0] d)::wb d .ij::qy b4 [v]::qy b1 [ov]::qD 163 2 (jh (lv.take i)).length ov ((jh (lv.take i)).flatMap jT)::
   qy q [.int .i64 (most:Int),v]::qD 232 1 lv.length v (xm ps)::(List.zipWith cM ps lv++R)))
  (Fin:=λ_=>False) ?_ ?_ omQ ⟨.ak,H5⟩) ?_
 ·rintro i h' ⟨ov,H⟩;obtain⟨et,A⟩:=H.obj (b:=b4) e_2;exact⟨A.at 0,e▸H.sl e_6⟩
 ·rintro i a h' ha ⟨ov,H⟩;have hi:=(List.getElem?_eq_some_iff.1 ha).1;have hx:lv[i]? =some (lv[i]'omQ):=iW _;have hm:lv[i]'omQ∈lv:=List.getElem_mem _;generalize lv[i]'omQ=x at hx hm;have rj:=O.len hm;have B7:=O.ins x hm;have FO:=O.un x hm;have mZ:(jh (lv.take i)).length+x.1.length≤96:=by
   have h1:=K9 (lv.take i) [];have h2:yT lv=yT (lv.take i)+(x.1.length+yT (lv.drop (i+1))):=by
    rw[← zn,← qKL]
    congr 1
    have h3:lv.drop i=x::lv.drop (i+1):=by
     have l9:i<lv.length:=by omega
     rw[List.drop_eq_getElem_cons l9];rw[iW l9]at hx;rw[Option.some.inj hx]
    rw[← h3,List.take_append_drop]
   unfold jh;simp at h1;omega
  have hmi:nU (jh (lv.take i)):=U5 _ _ (λc hc=>by cases hc) λy hy=>O.ins y (List.mem_of_mem_take hy);have Ej:jh (lv.take (i+1))=yM x.1 (jh (lv.take i)):=by unfold jh;rw[List.take_add_one,hx,Option.toList_some,List.foldl_append];rfl
  refine O1 (H.br .here) (w:=V0) rfl omQ λk3 DF=>?_;show wp (B0 _ _ _ (.int .i64 ((ps.length-1-i:Nat):Int)) _ _) _;unfold B0
  try simp only[iI,uU,iZ]
  refine OO H .here λh6 H=>?_;refine qG (Nw (m:=96) omQ omQ H) ?_;rintro _ h7 ⟨w0,rfl,H⟩;obtain⟨T,s⟩:=G7 (R:=R) ha hx;obtain⟨w,fv,H7⟩:=cM.E (H.aI (.there (.there (.there (.there (.there (.there (.there (.there s)))))))));refine qK (qQ (qX ‹_› .here rfl ?_));refine qG (YE omQ (H7.aI (P:=da w 96 x.1) e_1) omQ) λva h8 H8=>?_;refine qG (Yq (cs:=x.1) (l:=[]) (m:=96) (w:=w0) omQ (H8.aI (P:=da w0 96 []) e_4) (.own .here) aN omQ) ?_;rintro _ h9 ⟨_,H9⟩;have ht:wO 96 [] x.1=(0,x.1):=by unfold wO;rw[Yk B7 (by simpa using rj),Vb FO,iJ rfl]
  rw[ht]at H9;dsimp only at H9;refine qX ‹_› e_8 rfl ?_;have ht2:wO 96 x.1 (jh (lv.take i))=(0,yM x.1 (jh (lv.take i))):=by unfold wO;rw[Yk hmi omQ,iJ rfl]
  have S2:Rd g _ 2 (jh (lv.take i)).length ov ((jh (lv.take i)).flatMap jT):=H9.drop.rd (L:=qD 163 2 x.1.length va (x.1.flatMap jT)::da w 96 x.1::qy a [.ptr w 0,fv]::qD 3 1 x.2.length fv (x.2.map (.int .i64))::
   wb l (.loop .busy none 139 [1,1,0,1,0] [3] [.ptr b1 0] d)::wb d .ij::qy b4 [v]::qy b1 [ov]::qD 163 2 (jh (lv.take i)).length ov ((jh (lv.take i)).flatMap jT)::
   qy q [.int .i64 (most:Int),v]::qD 232 1 lv.length v (xm ps)::T) e_8
  refine qG (Yq omQ H9 S2 omQ omQ) ?_;rintro _ eu ⟨_,fK⟩;rw[ht2]at fK;dsimp only at fK;have nD:=Kv (cs:=jh (lv.take i)) (l:=x.1);refine qG (YE omQ fK omQ) λvb dq nk=>?_;refine qw nk (b:=b1) e_9 (nk.one .here) aN λnS bT=>Li bT e_7 λh13 H13=>.inl ⟨rfl,vb,?_⟩;rw[Ej]
  have H14:=cM.I (a:=a) (w:=w) (fv:=fv) (x:=x) (R:=wb l (.loop .ready none 139 [1,1,0,1,0] [3] [.ptr b1 0] d)::wb d .ij::qy b4 [v]::qy b1 [vb]::
   qD 163 2 (yM x.1 (jh (lv.take i))).length vb ((yM x.1 (jh (lv.take i))).flatMap jT)::qy q [.int .i64 (most:Int),v]::qD 232 1 lv.length v (xm ps)::T) (H13.sub (.cons e_6 (.cons e_5 (.cons e_5 (.cons .here (.cons e_4 (.cons e_4 (.cons .here (.cons .here (.cons e_3 (.cons e_3 (.drop (.drop (.drop (.refl)))))))))))))))
  exact HS.cm (.there (.there (.there (.there (.there (.there (.there s))))))) H14
 ·rintro _ h6 (⟨ov,H⟩ |hF)
  ·rw[List.take_of_length_le omQ]at H;refine Mr H .here (λh=>by cases h) λh7 H=>OM ?_;refine qX ‹_› e_3 rfl ?_;refine Y6 H e_1 λeu H=>qY ?_
   exact(bP.I (v:=v) (ps:=ps) e (HS.back (A:=_::_::List.zipWith cM ps lv) (H.sub (L':=qD 163 2 (jh lv).length ov ((jh lv).flatMap jT)::qy q [.int .i64 (most:Int),v]::
    qD 232 1 lv.length v (xm ps)::(List.zipWith cM ps lv++R)) (.cons e_4 (.cons e_4 (.cons e_4 (.drop (.drop (.drop (.drop (.refl))))))))))).sub (.cons e_1 (.refl))
  ·exact hF.elim
end
section
variable {g h:AH} {L R:List SP}
structure VM where
  sz:Nat
  K:List Cl
  most:Nat
  lv:List bz
  aC:Int
structure dz (M:VM):Prop where
  lo:32≤M.sz
  hi:M.sz≤256
  ic:eM M.most M.lv
  ins:∀c∈M.K,1≤c.1∧c.1<M.sz
  un:nh M.K
  fr:∀x∈M.lv,x.2.length<100000
def yK (M:VM) (p x:Int):Int×VM :=
 if 1≤p∧p<M.sz then match zU p M.K with
  |some y=>(if y=x then 0 else 14,M)
  |none=>(0,{ M with K:=M.K++[(p,x)] })
 else(2,M)
def qe (M:VM) (p:Int):(Int×Int)×VM :=
 if 1≤p∧p<M.sz then match YN p M.lv with
  |some x=>((x,0),M)
  |none=>match zU p M.K with
   |some x=>((x,0),M)
   |none=>((0,11),{ M with aC:=p })
 else((0,2),M)
def zV (M:VM) (cs:List Cl):Int×VM :=
 if∀c∈cs,1≤c.1∧c.1<M.sz then((vV M.most M.lv M.lv cs).1,{ M with lv:=(vV M.most M.lv M.lv cs).2 })else(2,M)
def eO (M:VM) (b:Int):VM:={ M with lv:=JD M.lv b }
def yc (M:VM):Int×VM:=((kI M.lv).1,{ M with lv:=(kI M.lv).2 })
def xC (M:VM):Int×VM:=((kH M.lv).1,{ M with lv:=(kH M.lv).2 })
def y9 (M:VM):Int×VM:=((QO M.lv).1,{ M with lv:=(QO M.lv).2 })
theorem KW:∀(n:Nat) (l:List Int),l.Nodup→(∀x∈l,0≤x∧x<n)→l.length≤n:=by
 intro n
 induction n with
 |zero=>
  intro l _ h;cases l with
  |nil=>exact Nat.le_refl _
  |cons x l=>have:=h x (iK ..);omega
 |succ n ih=>
  intro l hd h;by_cases hx:(n:Int)∈l
  ·have:=ih (l.erase n) (hd.erase _) (λx fo=>by
    have h1:=h x (List.mem_of_mem_erase fo);have h2:x≠n:=by rintro rfl;exact(List.Nodup.not_mem_erase hd) fo
    omega)
   rw[List.length_erase_of_mem hx]at this;omega
  ·have:=ih l hd (λx fo=>by
    have h1:=h x fo;have h2:x≠n:=by rintro rfl;exact hx fo
    omega)
   omega
theorem dz.B8 {M:VM} (O:dz M):M.K.length≤256:=by
 have hu:(M.K.map (·.1)).Nodup:=O.un
 have:=KW M.sz _ hu (λx hx=>by
  obtain⟨c,hc,rfl⟩:=List.mem_map.1 hx;have:=O.ins c hc
  omega)
 rw[List.length_map]at this;have:=O.hi;omega
def Qq (f:Int×Bool):List AV:=[.int .u64 f.1,.bool f.2]
def vn (K:List Cl) (i:Nat):Int×Bool:=match zU (i:Int) K with |some x=>(x,true) |none=>(0,false)
def yw (sz:Nat) (K:List Cl):List (Int×Bool):=(List.range sz).map (vn K)
theorem Q6 (sz:Nat) (K:List Cl):(yw sz K).length=sz:=by simp[yw]
theorem kN {sz:Nat} {K:List Cl} {i:Nat} (hi:i<sz):(yw sz K)[i]? =some (vn K i):=by simp[yw,List.getElem?_range hi]
theorem gJ {α:Type} {sz:Nat} {enc:α→List AV} (he:∀a,(enc a).length=sz) {l:List α} {i:Nat} {a:α} (h:l[i]? =some a):((l.flatMap enc).drop (i*sz)).take sz=enc a:=by obtain⟨hi,e⟩:=List.getElem?_eq_some_iff.1 h;rw[Jh (sz:=sz) enc he,List.drop_eq_getElem_cons hi,e,List.flatMap_cons,← he a,List.take_left]
theorem MT {α:Type} {sz:Nat} {enc:α→List AV} (he:∀a,(enc a).length=sz) {l:List α} {i:Nat} {a:α} (hi:i<l.length):wA (l.flatMap enc) (i*sz) (enc a)=(l.set i a).flatMap enc:=by
 have h1:(l.flatMap enc).take (i*sz)=(l.take i).flatMap enc:=by
  have e1:l.flatMap enc=(l.take i).flatMap enc++(l.drop i).flatMap enc:=by rw[← List.flatMap_append,List.take_append_drop]
  have e2:((l.take i).flatMap enc).length=i*sz:=by rw[YB (sz:=sz) enc he,List.length_take,Nat.min_eq_left omQ]
  rw[e1,← e2,List.take_left]
 have h2:(l.flatMap enc).drop (i*sz+sz)=(l.drop (i+1)).flatMap enc:=by rw[show i*sz+sz=(i+1)*sz by rw[Nat.add_mul,Nat.one_mul],Jh (sz:=sz) enc he]
 unfold wA;rw[he,h1,h2,List.set_eq_take_append_cons_drop,iJ hi,List.flatMap_append,List.flatMap_cons,List.append_assoc]
theorem qKB {α:Type} {enc:α→List AV} {a:α}:∀n,yI (enc a) n=(List.replicate n a).flatMap enc:=by
 intro n
 induction n with
 |zero=>rfl
 |succ n ih=>rw[yI,ih,List.replicate_succ,List.flatMap_cons]
theorem qQ5 (sz:Nat):yw sz []=List.replicate sz (0,false):=by unfold yw;rw[show vn []=λ_=>((0,false):Int×Bool)from rfl,List.map_const',List.length_range]
theorem qJN {sz:Nat} {K:List Cl} {i:Nat} {x:Int} (hi:i<sz) (hn:zU (i:Int) K=none):yw sz (K++[((i:Int),x)])=(yw sz K).set i (x,true):=by
 have e:∀j:Nat,zU (j:Int) (K++[((i:Int),x)])=if j=i then some x else zU (j:Int) K:=by
  intro j;rw[← J1 hn,Ok];by_cases h:j=i
  ·rw[iJ h,iJ (by rw[h])]
  ·rw[iQ h,iQ omQ]
 apply List.ext_getElem?;intro j;rw[List.getElem?_set,Q6];by_cases hj:j<sz
 ·rw[kN hj];by_cases h:i=j
  ·subst h;rw[iJ rfl,iJ hi];unfold vn;rw[e,iJ rfl]
  ·rw[iQ h,kN hj];unfold vn;rw[e,iQ omQ]
 ·rw[List.getElem?_eq_none (by rw[Q6];omega),iQ omQ,List.getElem?_eq_none (by rw[Q6];omega)]
def ab (v:Nat) (M:VM):SP:=.ex λfv=>.ex λov=>.ex λq=>.ex λe=>.all [qy v [fv,ov,.ptr q 0,.int .i64 M.aC],qD e 2 M.sz fv ((yw M.sz M.K).flatMap Qq),
 qD 3 1 M.K.length ov (M.K.map λc=>.int .i64 c.1),bP q M.most M.lv]
theorem ab.E {v:Nat} {M:VM} (H:HS g h (ab v M::R)):∃fv ov q e,HS g h (qy v [fv,ov,.ptr q 0,.int .i64 M.aC]::qD e 2 M.sz fv ((yw M.sz M.K).flatMap Qq)::
  qD 3 1 M.K.length ov (M.K.map λc=>.int .i64 c.1)::bP q M.most M.lv::R):=by
 obtain⟨fv,H⟩:=H.dU;obtain⟨ov,H⟩:=H.dU;obtain⟨q,H⟩:=H.dU;obtain⟨e,H⟩:=H.dU;exact⟨fv,ov,q,e,H.cq⟩
theorem ab.I {v:Nat} {M:VM} {fv ov:AV} {q:Nat} {e:TypeId} (H:HS g h (qy v [fv,ov,.ptr q 0,.int .i64 M.aC]::qD e 2 M.sz fv ((yw M.sz M.K).flatMap Qq)::
  qD 3 1 M.K.length ov (M.K.map λc=>.int .i64 c.1)::bP q M.most M.lv::R)):HS g h (ab v M::R) :=
 HS.en fv (HS.en ov (HS.en q (HS.en e (HS.allI H))))
def iF (n:Int):Nat:=(max 32 (min n 256)).toNat
theorem DG (n:Int):32≤iF n∧iF n≤256:=by unfold iF;omega
def U1 (words most:Int):VM:=⟨iF words,[],(max 0 (min most 96)).toNat,[([],[])],0⟩
theorem qkU {m:Nat} (hm:m≤96):eM m [([],[])]:=⟨by simp[yT],hm,by intro x hx;simp at hx;subst hx;intro c hc;simp at hc,by intro x hx;simp at hx;subst hx;exact List.nodup_nil,by simp,by simp⟩
theorem qju (words most:Int):dz (U1 words most) :=
 ⟨(DG _).1,(DG _).2,qkU (by show(max 0 (min most 96)).toNat≤96;omega),by intro c hc;simp[U1]at hc,List.nodup_nil,by intro x hx;simp[U1]at hx;subst hx;simp⟩
theorem qkD {n:Nat} (hn:4≤n) {w m:Int} (H:HS g h R):aA n 128 [.int .i64 w,.int .i64 m] h λr h'=>∃v,r=.ptr v 0∧HS g h' (ab v (U1 w m)::R):=by
 refine ba (S:=S128) rfl omQ λk hk=>?_;unfold S128;try simp only[iZ]
 refine zz (zh ?_);have hb:=DG w;rw[show max ((32:Nat):Int) (min w ((256:Nat):Int))=((iF w:Nat):Int) by unfold iF;omega];refine YA (sz:=2) H rfl (Nat.le_refl _) omQ λfv h2 H2=>?_;refine qG (qzA omQ H2) ?_;rintro _ h3 ⟨q,rfl,H3⟩;have h1:=H3.one e_1;refine qL (l:=[fv,.ak,.ptr q 0,.int .i64 0]) (by unfold xT;rw[h1.1];rfl) ?_;refine qI H3 (by show(fv.one&&(true&&(true&&(true&&true))))=true;rw[h1.2];rfl) λv h4 H4=>qY ⟨v,rfl,?_⟩;rw[List.take_of_length_le (by rw[wD];exact Nat.le_refl _),show yI [AV.int .u64 ((0:Nat):Int),AV.bool false] (iF w)=(yw (iF w) []).flatMap Qq by rw[qQ5,← qKB];rfl]at H4;exact ab.I (M:=U1 w m) ((H4.ak (e:=3) (sz:=1)).sub (.cons e_1 (.cons e_2 (.cons .here (.cons .here (.refl))))))
theorem K3 {n:Nat} (hn:1≤n) {v:Nat} {M:VM} (H:HS g h (ab v M::R)):aA n 193 [.ptr v 0] h λr h'=>r=.int .i64 (M.sz:Int)∧h'=h:=by
 refine aB (S:=S193) rfl omQ λk hk=>?_;unfold S193;try simp only[iZ]
 obtain⟨fv,ov,q,e,H⟩:=ab.E H;refine qK (qQ (qX ‹_› .here rfl ?_));refine qm ‹_› e_1 ?_;exact qY ⟨rfl,rfl⟩
theorem NT {n:Nat} (hn:1≤n) {v:Nat} {M:VM} {p:Int} (H:HS g h (ab v M::R)):aA n 195 [.ptr v 0,.int .i64 p] h λr h'=>r=.bool (decide (1≤p∧p<M.sz))∧h'=h:=by
 refine ba (S:=S195) rfl omQ λk hk=>?_;unfold S195;try simp only[iZ]
 obtain⟨fv,ov,q,e,H⟩:=ab.E H;by_cases h1:1≤p
 ·refine zy omQ ?_;refine qW ?_;(try dsimp only);refine qR ?_;(try dsimp only);refine qK (qQ (qX ‹_› .here rfl ?_));refine qm ‹_› e_1 ?_
  refine JG (qC (qY ⟨?_,rfl⟩))
  congr 1
  exact decide_eq_decide.2 ⟨λh2=>⟨h1,h2⟩,λh2=>h2.2⟩
 ·refine zY omQ ?_;refine qW ?_;(try dsimp only);refine qS ?_;(try dsimp only);refine qF ?_
  exact qY ⟨by rw[iV (λh2=>h1 h2.1)],rfl⟩
theorem ZT {M:VM} {p x:Int} (O:dz M):dz (yK M p x).2:=by
 unfold yK
 split
 ·rename_i hp
  split
  ·exact O
  ·rename_i hn;refine⟨O.lo,O.hi,O.ic,?_,?_,O.fr⟩
   ·intro c hc;rcases List.mem_append.1 hc with hc |hc
    ·exact O.ins c hc
    ·rw[List.mem_singleton]at hc;subst hc;exact hp
   ·have:=O.un.put (p:=p) (v:=x);rw[J1 hn]at this;exact this
 ·exact O
theorem qYC {n:Nat} (hn:2≤n) {v:Nat} {M:VM} {p x:Int} (H:HS g h (ab v M::R)) (O:dz M) :
  aA n 174 [.ptr v 0,.int .i64 p,.int .u64 x] h λr h'=>r=.int .i64 (yK M p x).1∧HS g h' (ab v (yK M p x).2::R):=by
 refine cL (S:=S174) rfl omQ λk hk=>?_;unfold S174;try simp only[iZ]
 refine qG (NT omQ H) ?_;rintro _ _ ⟨rfl,rfl⟩;have hO:=O.hi;unfold yK;by_cases hp:1≤p∧p<M.sz
 ·rw[iJ hp];rw[iG hp];obtain⟨i,rfl⟩:∃i:Nat,p=(i:Int):=⟨p.toNat,by omega⟩;have hi:i<M.sz:=by omega
  have hH:=H;obtain⟨fv,ov,q,e,H⟩:=ab.E H;refine jA (qJ (qK (qQ (qX ‹_› .here rfl ?_))));refine zS (l:=Qq (vn M.K i)) (H.sl e_1) hi omQ (gJ (enc:=Qq) (sz:=2) (λ_=>rfl) (kN hi)) ?_;refine qI H rfl λb h3 H3=>qd H3 .here rfl (by show 0+2≤2;omega) rfl λh4 H4=>?_
  have H5:HS g h4 (qy b (Qq (vn M.K i))::qy v [fv,ov,.ptr q 0,.int .i64 M.aC]::qD e 2 M.sz fv ((yw M.sz M.K).flatMap Qq)::
   qD 3 1 M.K.length ov (M.K.map λc=>.int .i64 c.1)::bP q M.most M.lv::R):=H4
  unfold Qq at H5;cases hg:zU (i:Int) M.K with
  |some y=>
   rw[show vn M.K i=(y,true) by unfold vn;rw[hg]]at H5;refine qQ (qX ‹_› .here rfl ?_);refine qZ (qQ (qX ‹_› .here rfl ?_));have H6:=ab.I (H5.drop);by_cases hy:y=x
   ·refine jJ omQ ?_;refine qJ (qY ⟨by dsimp only;rw[iJ hy];rfl,H6⟩)
   ·refine jQ omQ ?_;refine qZ (qY ⟨by dsimp only;rw[iQ hy];rfl,H6⟩)
  |none=>
   rw[show vn M.K i=(0,false) by unfold vn;rw[hg]]at H5;have FP:=O.B8;refine qQ (qX ‹_› .here rfl ?_);refine qJ (qK (qQ (qX ‹_› e_1 rfl ?_)));refine qL rfl ?_;refine Fl (l:=[.int .u64 x,.bool true]) (H5.drop.aI (P:=qD e 2 M.sz fv ((yw M.sz M.K).flatMap Qq)) e_1) hi rfl rfl λh6 H6=>?_
   rw[show wA ((yw M.sz M.K).flatMap Qq) (i*2) [AV.int .u64 x,AV.bool true]=(yw M.sz (M.K++[((i:Int),x)])).flatMap Qq by
    rw[qJN hi hg,← MT (enc:=Qq) (sz:=2) (λ_=>rfl) (by rw[Q6];exact hi)];rfl]at H6
   refine qK (qQ (qX ‹_› e_1 rfl ?_));refine qf (n:=1) (l:=[.int .i64 (i:Int)]) (sz:=1) H6 rfl rfl rfl rfl λv7 h7 H7=>?_;refine ju (H7.aI (P:=qD 3 1 M.K.length ov (M.K.map λc=>.int .i64 c.1)) e_3) (H7.sl .here) omQ omQ rfl λv8 h8 H8=>?_;refine qK (qQ (qw H8 e_3 (H8.one .here) aN λh9 H9=>qY ⟨rfl,ab.I (M:={ M with K:=M.K++[((i:Int),x)] }) (fv:=fv) (ov:=v8) (q:=q) (e:=e) ?_⟩));rw[List.map_append,List.length_append];exact H9.sub (.cons .here (.cons e_2 (.cons .here (.cons e_1 (.drop (.refl))))))
 ·rw[iQ hp,iV hp];refine jF (qZ ?_);exact qY ⟨rfl,H⟩
theorem xd {M:VM} {p:Int} (O:dz M):dz (qe M p).2:=by
 unfold qe
 repeat' split
 all_goals exact⟨O.lo,O.hi,O.ic,O.ins,O.un,O.fr⟩
theorem QU {n:Nat} (hn:9≤n) {v:Nat} {M:VM} {p:Int} (H:HS g h (ab v M::R)) (O:dz M) :
  aA n 162 [.ptr v 0,.int .i64 p] h λr h'=>r=.bJ [.int .u64 (qe M p).1.1,.int .i64 (qe M p).1.2]∧HS g h' (ab v (qe M p).2::R):=by
 refine ba (S:=S162) rfl omQ λk hk=>?_;unfold S162;try simp only[iZ]
 refine qG (NT omQ H) ?_;rintro _ _ ⟨rfl,rfl⟩;have hO:=O.hi;unfold qe;by_cases hp:1≤p∧p<M.sz
 ·rw[iJ hp];rw[iG hp];obtain⟨i,rfl⟩:∃i:Nat,p=(i:Int):=⟨p.toNat,by omega⟩;have hi:i<M.sz:=by omega
  obtain⟨fv,ov,q,e,H⟩:=ab.E H;refine jA (qJ (qK (qQ (qX ‹_› .here rfl ?_))));refine qG (qz4 omQ (H.aI (P:=bP q M.most M.lv) e_3) O.ic) ?_;rintro _ h2 ⟨rfl,H2⟩;refine qB rfl ?_;refine qB rfl ?_;cases hl:YN (i:Int) M.lv with
  |some y=>simp only[Option.isSome_some,Option.getD_some];refine qZ ?_;exact qY ⟨rfl,ab.I (H2.sub (.cons e_1 (.cons e_1 (.cons e_1 (.refl)))))⟩
  |none=>
   simp only[Option.isSome_none];refine qJ (qK (qQ (qX ‹_› e_1 rfl ?_)));refine zS (l:=Qq (vn M.K i)) (H2.sl e_2) hi omQ (gJ (enc:=Qq) (sz:=2) (λ_=>rfl) (kN hi)) ?_;refine qI H2 rfl λb h3 H3=>qd H3 .here rfl (by show 0+2≤2;omega) rfl λh4 H4=>?_
   have H5:HS g h4 (qy b (Qq (vn M.K i))::bP q M.most M.lv::qy v [fv,ov,.ptr q 0,.int .i64 M.aC]::qD e 2 M.sz fv ((yw M.sz M.K).flatMap Qq)::
    qD 3 1 M.K.length ov (M.K.map λc=>.int .i64 c.1)::R):=H4
   unfold Qq at H5;cases hg:zU (i:Int) M.K with
   |some y=>rw[show vn M.K i=(y,true) by unfold vn;rw[hg]]at H5;refine qQ (qX ‹_› .here rfl ?_);refine qZ (qQ (qX ‹_› .here rfl ?_));exact qY ⟨rfl,ab.I (H5.drop.sub (.cons e_1 (.cons e_1 (.cons e_1 (.refl)))))⟩
   |none=>rw[show vn M.K i=(0,false) by unfold vn;rw[hg]]at H5;refine qQ (qX ‹_› .here rfl ?_);refine qJ (qK (qQ ?_));refine qw H5 (b:=v) e_2 ⟨rfl,rfl⟩ aN λh9 H9=>qY ⟨rfl,ab.I (M:={ M with aC:=(i:Int) }) (fv:=fv) (ov:=ov) (q:=q) (e:=e) (H9.sub (.cons .here (.cons e_2 (.cons e_2 (.cons e_1 (.drop (.refl)))))))⟩
 ·rw[iQ hp,iV hp];refine jF (qZ ?_);exact qY ⟨rfl,H⟩
theorem qzh {most:Nat} {lv:List bz} {p v:Int} {n:Nat} (h:∀x∈lv,x.2.length<n):∀x∈(vF most lv p v).2,x.2.length<n:=by
 cases lv with
 |nil=>exact h
 |cons y r=>
  obtain⟨c,hc⟩:=GV (most:=most) (x:=y) (r:=r) (p:=p) (v:=v);rw[hc];intro x hx;rcases List.mem_cons.1 hx with rfl |hx
  ·exact h y (iK ..)
  ·exact h x (iX _ hx)
theorem qGn {most:Nat} {aZ:List bz} {n:Nat} (hw:∀x∈aZ,x.2.length<n):∀{cs:List Cl} {lv:List bz},(∀x∈lv,x.2.length<n)→∀x∈(vV most aZ lv cs).2,x.2.length<n:=by
 intro cs
 induction cs with
 |nil=>intro lv h;exact h
 |cons c cs ih=>
  intro lv h;rw[vM]
  split
  ·exact ih (qzh h)
  ·exact hw
theorem OV {M:VM} {cs:List Cl} (O:dz M):dz (zV M cs).2:=by
 unfold zV
 split
 ·exact⟨O.lo,O.hi,(ON O.ic O.ic rfl).1,O.ins,O.un,qGn O.fr O.fr⟩
 ·exact O
theorem Yd {n:Nat} (hn:8≤n) {v:Nat} {M:VM} {cs:List Cl} {c:AV} (H:HS g h (ab v M::R)) (O:dz M) (S:Rd g R 2 cs.length c (cs.flatMap jT)) (hc:cs.length<100000) :
  aA n 164 [.ptr v 0,c] h λr h'=>r=.int .i64 (zV M cs).1∧HS g h' (ab v (zV M cs).2::R):=by
 refine ba (S:=S164) rfl omQ λk hk=>?_;unfold S164;try simp only[iZ]
 refine xS (S.sl H.drop) ?_;refine jR (λk s h'=>∃i:Nat,s=(.int .i64 (i:Int),.int .i64 (cs.length:Int),c,c,.ptr v 0,())∧i≤cs.length∧k=cs.length-i∧HS g h' (ab v M::R)∧∀j,j<i→∀d,cs[j]? =some d→1≤d.1∧d.1<M.sz)
  ?_ (m:=cs.length) (by show _<1000000000;omega) ⟨0,rfl,by omega,by omega,H,λj hj=>by omega⟩
 rintro k2 ih s h2 bF ⟨i,rfl,h1,rfl,H,dx⟩;dsimp only;refine xz (λap=>qZ ?_) λik=>qJ ?_
 ·have hi:i<cs.length:=by omega
  have rz:cs[i]? =some cs[i]:=iW hi;refine zS (l:=jT cs[i]) (S.sl H.drop) hi omQ (Yr rz) ?_;refine qI H rfl λb h3 H3=>qd H3 .here rfl (by show 0+2≤2;omega) rfl λh4 H4=>?_;have H5:HS g h4 (qy b (jT cs[i])::ab v M::R):=H4;unfold jT at H5;refine qQ (qX ‹_› .here rfl ?_);refine qG (NT omQ H5.drop) ?_;rintro _ _ ⟨rfl,rfl⟩;by_cases dl:1≤cs[i].1∧cs[i].1<M.sz
  ·rw[iG dl];refine jA (qJ (qU omQ ?_));refine bF (cs.length-(i+1)) _ _ omQ ⟨i+1,rfl,by omega,rfl,H5.drop,λj hj d hd=>?_⟩;by_cases uo:j<i
   ·exact dx j uo d hd
   ·obtain rfl:j=i:=by omega
    rw[rz]at hd;cases hd;exact dl
  ·rw[iV dl];refine jF (qZ (qx ?_));unfold zV;rw[iQ (λh=>dl (h _ (List.getElem_mem hi)))];exact qY ⟨rfl,H5.drop⟩
 ·have cF:∀d∈cs,1≤d.1∧d.1<M.sz:=by
   intro d hd;obtain⟨j,hj⟩:=List.getElem?_of_mem hd;exact dx j (by have:=(List.getElem?_eq_some_iff.1 hj).1;omega) d hj
  obtain⟨fv,ov,q,e,H⟩:=ab.E H;refine qK (qQ (qX ‹_› .here rfl ?_));refine qG (qWb omQ (H.aI (P:=bP q M.most M.lv) e_3) O.ic (S.more.more.more) hc) ?_;rintro _ h4 ⟨rfl,H4⟩;unfold zV;rw[iJ cF];exact qx (qY ⟨rfl,ab.I (M:={ M with lv:=(vV M.most M.lv M.lv cs).2 }) (fv:=fv) (ov:=ov) (q:=q) (e:=e) (H4.sub (.cons e_1 (.cons e_1 (.cons e_1 (.refl)))))⟩)
theorem qWO {n:Nat} (hn:4≤n) {v:Nat} {M:VM} (H:HS g h (ab v M::R)) (O:dz M) :
  aA n 296 [.ptr v 0] h λr h'=>r=.int .i64 (yc M).1∧HS g h' (ab v (yc M).2::R):=by
 refine aB (S:=S296) rfl omQ λk hk=>?_;unfold S296;try simp only[iZ]
 obtain⟨fv,ov,q,e,H⟩:=ab.E H;refine qK (qQ (qX ‹_› .here rfl ?_));refine qG (qWp omQ (H.aI (P:=bP q M.most M.lv) e_3) O.ic) ?_;rintro _ h2 ⟨rfl,H2⟩;exact qY ⟨rfl,ab.I (M:=(yc M).2) (fv:=fv) (ov:=ov) (q:=q) (e:=e) (H2.sub (.cons e_1 (.cons e_1 (.cons e_1 (.cons .here (.refl))))))⟩
theorem Nd {n:Nat} (hn:2≤n) {v:Nat} {M:VM} (H:HS g h (ab v M::R)) (O:dz M) :
  aA n 232 [.ptr v 0] h λr h'=>r=.int .i64 (xC M).1∧HS g h' (ab v (xC M).2::R):=by
 refine aB (S:=S232) rfl omQ λk hk=>?_;unfold S232;try simp only[iZ]
 obtain⟨fv,ov,q,e,H⟩:=ab.E H;refine qK (qQ (qX ‹_› .here rfl ?_));refine qG (Ow omQ (H.aI (P:=bP q M.most M.lv) e_3) O.ic) ?_;rintro _ h2 ⟨rfl,H2⟩;exact qY ⟨rfl,ab.I (M:=(xC M).2) (fv:=fv) (ov:=ov) (q:=q) (e:=e) (H2.sub (.cons e_1 (.cons e_1 (.cons e_1 (.cons .here (.refl))))))⟩
theorem ZL {n:Nat} (hn:7≤n) {v:Nat} {M:VM} (H:HS g h (ab v M::R)) (O:dz M) :
  aA n 230 [.ptr v 0] h λr h'=>r=.int .i64 (y9 M).1∧HS g h' (ab v (y9 M).2::R):=by
 refine aB (S:=S230) rfl omQ λk hk=>?_;unfold S230;try simp only[iZ]
 obtain⟨fv,ov,q,e,H⟩:=ab.E H;refine qK (qQ (qX ‹_› .here rfl ?_));refine qG (qYn omQ (H.aI (P:=bP q M.most M.lv) e_3) O.ic λx hx=>Nat.lt_trans (O.fr x hx) omQ) ?_;rintro _ h2 ⟨rfl,H2⟩;exact qY ⟨rfl,ab.I (M:=(y9 M).2) (fv:=fv) (ov:=ov) (q:=q) (e:=e) (H2.sub (.cons e_1 (.cons e_1 (.cons e_1 (.cons .here (.refl))))))⟩
theorem qWC {n:Nat} (hn:3≤n) {v:Nat} {M:VM} {b:Int} (H:HS g h (ab v M::R)) (O:dz M) :
  aA n 295 [.ptr v 0,.int .i64 b] h λ_ h'=>HS g h' (ab v (eO M b)::R):=by
 refine ba (S:=S295) rfl omQ λk hk=>?_;unfold S295;try simp only[iZ]
 obtain⟨fv,ov,q,e,H⟩:=ab.E H;refine qK (qQ (qX ‹_› .here rfl ?_));refine qG (qV0 omQ (H.aI (P:=bP q M.most M.lv) e_3) O.ic λx hx=>Nat.lt_trans (O.fr x hx) omQ) ?_;intro _ h2 H2;exact qY (ab.I (M:=eO M b) (fv:=fv) (ov:=ov) (q:=q) (e:=e) (H2.sub (.cons e_1 (.cons e_1 (.cons e_1 (.cons .here (.refl)))))))
theorem Ua {n:Nat} (hn:1≤n) {v:Nat} {M:VM} (H:HS g h (ab v M::R)) :
  aA n 111 [.ptr v 0] h λr h'=>r=.int .i64 M.aC∧h'=h:=by
 refine aB (S:=S111) rfl omQ λk hk=>?_;unfold S111;try simp only[iZ]
 obtain⟨fv,ov,q,e,H⟩:=ab.E H;refine qK (qQ (qX ‹_› .here rfl ?_));exact qY ⟨rfl,rfl⟩
theorem VL {n:Nat} (hn:10≤n) {v:Nat} {M:VM} (H:HS g h (ab v M::R)) (O:dz M) :
  aA n 113 [.ptr v 0] h λr h'=>HS g h' (qD 163 2 (jh M.lv).length r ((jh M.lv).flatMap jT)::ab v M::R):=by
 refine aB (S:=S113) rfl omQ λk hk=>?_;unfold S113;try simp only[iZ]
 obtain⟨fv,ov,q,e,H⟩:=ab.E H;refine qK (qQ (qX ‹_› .here rfl ?_));refine qG (qXL omQ (H.aI (P:=bP q M.most M.lv) e_3) O.ic) ?_;intro r h2 H2;refine qY ?_;have H3:=ab.I (v:=v) (M:=M) (fv:=fv) (ov:=ov) (q:=q) (e:=e) (R:=qD 163 2 (jh M.lv).length r ((jh M.lv).flatMap jT)::R) (H2.sub (.cons e_2 (.cons e_2 (.cons e_2 (.cons e_1 (.refl))))));exact H3.sub (.cons e_1 (.refl))
theorem qVH {n:Nat}:∀{l:List bz},(∀x∈l,x.2.length<n)→(l.flatMap (·.2)).length≤l.length*n:=by
 intro l h
 induction l with
 |nil=>simp
 |cons x r ih=>have h1:=h x (iK ..);have h2:=ih λy hy=>h y (iX _ hy);rw[List.flatMap_cons,List.length_append,List.length_cons,Nat.add_mul,Nat.one_mul];omega
theorem qQM {n:Nat} {lv:List bz} (h:∀x∈lv,x.2.length<n):(xy lv).length≤lv.length*n:=by have:=qVH (l:=lv.reverse) (n:=n) λx hx=>h x (List.mem_reverse.1 hx);rw[List.length_reverse]at this;exact this
theorem qXb {n:Nat} (hn:2≤n) {v:Nat} {M:VM} (H:HS g h (ab v M::R)) (O:dz M) :
  aA n 121 [.ptr v 0] h λr h'=>HS g h' (qD 3 1 (xy M.lv).length r ((xy M.lv).map (.int .i64))::ab v M::R):=by
 refine aB (S:=S121) rfl omQ λk hk=>?_;unfold S121;try simp only[iZ]
 obtain⟨fv,ov,q,e,H⟩:=ab.E H;refine qK (qQ (qX ‹_› .here rfl ?_));have DH:=qQM O.fr;have hd:=O.ic.deep;refine qG (qVF omQ (H.aI (P:=bP q M.most M.lv) e_3) O.ic omQ) ?_;intro r h2 H2;refine qY ?_;have H3:=ab.I (v:=v) (M:=M) (fv:=fv) (ov:=ov) (q:=q) (e:=e) (R:=qD 3 1 (xy M.lv).length r ((xy M.lv).map (.int .i64))::R) (H2.sub (.cons e_2 (.cons e_2 (.cons e_2 (.cons e_1 (.refl))))));exact H3.sub (.cons e_1 (.refl))
def M8 (zs:List Int) (i:Nat):Int:=zs[i]?.getD 0
def kW (zs:List Int):List Cl:=(List.range (iF zs.length-1)).map λi=>(((i+1:Nat):Int),M8 zs (i+1))
def qgN (zs:List Int) (most:Int):VM:=⟨iF zs.length,kW zs,(max 0 (min most 96)).toNat,[([],[])],0⟩
end
section
abbrev qa:Type:=Int×Int×Int×Int×Int
def zD (x:qa):List AV:=[.int .i64 x.1,.int .i64 x.2.1,.int .i64 x.2.2.1,.int .i64 x.2.2.2.1,.int .u64 x.2.2.2.2]
theorem OC (l:List qa):ql (l.flatMap zD)=true:=by unfold ql;rw[List.all_eq_true];intro v hv;obtain⟨c,_,hc⟩:=List.mem_flatMap.1 hv;simp[zD]at hc;rcases hc with rfl |rfl |rfl |rfl |rfl<;>rfl
def ji (op:Int):(Int×Int)×(Int×Int)×(Int×Int) :=
 if op=1∨op=11∨op=21 then((0,7),(0,0),(0,0))
 else if op=2∨op=10 then((0,7),(0,7),(0,0))
 else if op=3∨op=4∨op=5∨op=6∨op=7 then((0,7),(0,7),(0,7))
 else if op=8∨op=9 then((0,7),(0,7),(0,15))
 else if op=12 then((0,0),(0,0),(0,40))
 else if op=13 then((0,7),(0,0),(0,40))
 else if op=23 then((1,12),(0,7),(0,6))
 else((0,0),(0,0),(0,0))
def QK (f:Int×Int) (n:Int):Bool:=decide (f.1≤n∧n≤f.2)
def Qy (x:qa):Bool:=decide (1≤x.1∧x.1≤23)&&QK (ji x.1).1 x.2.1&&QK (ji x.1).2.1 x.2.2.1&&QK (ji x.1).2.2 x.2.2.2.1&&decide (x.2.2.2.2=0∨x.1=1)
def z8 (op:Int):Bool:=decide (op=14∨op=17)
def jt (op:Int):Int:=if op=15 then 14 else if op=18 then 17 else if op=19 then 18 else 0
def jw (st:List Int):Int:=st.getLast?.getD (-1)
def qT (l:List qa) (i:Int):qa:=(l[i.toNat]?).getD (0,0,0,0,0)
def dh (l:List qa) (st:List Int):Int:=if st=[]then 0 else(qT l (jw st)).1
def zb (l:List qa) (st:List Int) (x:qa):Int :=
 if Qy x=false then 8
 else if 0<jt x.1∧dh l st≠jt x.1 then 12
 else if x.1=16∧dh l st≠14 then 12
 else if z8 x.1=true∧5≤st.length then 9
 else 0
def jk (st:List Int) (i op:Int):List Int :=
 if z8 op=true∨op=18 then(if 0<jt op then st.dropLast else st)++[i]else(if 0<jt op then st.dropLast else st)
def iU (l:List qa):List qa→Nat→List Int→(Int×Int) ⊕ List Int
 |[],_,st=>.inr st
 |x::r,i,st=>if zb l st x=0 then iU l r (i+1) (jk st i x.1)else .inl (i,zb l st x)
def vE:List qa→Nat→List Int→List Int
 |[],_,_=>[]
 |x::r,i,st=>jw st::vE r (i+1) (jk st i x.1)
def qO (a:List Int) (i:Int):Int:=(a[i.toNat]?).getD 0
def Qm (l:List qa) (a:List Int) (i:Nat) (x:qa):Prop :=
 (x.1=12∨x.1=13)∧((l.length:Int)<x.2.2.2.1∨(x.2.2.2.1=l.length∧qO a i≠ -1)∨(x.2.2.2.1<l.length∧qO a x.2.2.2.1≠qO a i))
instance {l:List qa} {a:List Int} {i:Nat} {x:qa}:Decidable (Qm l a i x):=by unfold Qm;infer_instance
def JC (l:List qa) (a:List Int):List qa→Nat→Int×Int
 |[],_=>(0,0)
 |x::r,i=>if Qm l a i x then((i:Int),2)else JC l a r (i+1)
def xZ (l:List qa):Int×Int :=
 if l.length=0∨40<l.length then(0,4)
 else match iU l l 0 []with
  | .inl r=>r
  | .inr st=>if st=[]then JC l (vE l 0 []) l 0 else(jw st,12)
def b9 (i:Nat) (st:List Int):Prop:=∀y∈st,0≤y∧y<(i:Int)
theorem b9.nil {i:Nat}:b9 i []:=λ_ h=>by cases h
theorem b9.dropLast {i:Nat} {st:List Int} (h:b9 i st):b9 i st.dropLast:=λy hy=>h y ((List.dropLast_sublist st).subset hy)
theorem b9.behind {i:Nat} {st:List Int} {op:Int} (h:b9 i st):b9 (i+1) (jk st i op):=by
 have h1:∀s,b9 i s→b9 (i+1) s:=λs hs y hy=>by have:=hs y hy;omega
 have h2:∀s,b9 i s→b9 (i+1) (s++[(i:Int)]):=by
  intro s hs y hy;rcases List.mem_append.1 hy with hy |hy
  ·exact h1 s hs y hy
  ·rw[List.mem_singleton]at hy;omega
 unfold jk
 repeat' split
 ·exact h2 _ h.dropLast
 ·exact h2 _ h
 ·exact h1 _ h.dropLast
 ·exact h1 _ h
theorem b9.dL {i:Nat} {st:List Int} (h:b9 i st) (hn:st≠[]):0≤jw st∧jw st<(i:Int):=by refine h _ ?_;unfold jw;rw[List.getLast?_eq_some_getLast hn];exact List.getLast_mem hn
theorem KI (st:List Int) (i op:Int):(jk st i op).length≤st.length+1:=by
 unfold jk
 repeat' split
 all_goals simp
 all_goals omega
theorem Ks:jw []= -1:=rfl
theorem xc {l:List qa} {st:List Int} {x:qa} (h:zb l st x=0):Qy x=true∧(0<jt x.1∨x.1=16→st≠[])∧(z8 x.1=true→st.length<5):=by
 unfold zb at h
 split at h
 ·cases h
 ·rename_i h1
  split at h
  ·cases h
  ·rename_i h2
   split at h
   ·cases h
   ·rename_i h3
    split at h
    ·cases h
    ·rename_i h4
     refine⟨by simpa using h1,?_,λhb=>by
      by_cases h5:5≤st.length
      ·exact absurd ⟨hb,h5⟩ h4
      ·omega⟩
     rintro ho rfl;have h0:dh l []=0:=rfl;rw[h0]at h2 h3;rcases ho with ho |ho
     ·exact h2 ⟨ho,by omega⟩
     ·exact h3 ⟨ho,by omega⟩
theorem Yj {l r:List qa} {x:qa} {i:Nat} {st:List Int}:iU l (x::r) i st=if zb l st x=0 then iU l r (i+1) (jk st i x.1)else .inl (i,zb l st x):=rfl
theorem Kz:∀{r:List qa} {i:Nat} {st:List Int},(vE r i st).length=r.length:=by
 intro r
 induction r with
 |nil=>intro i st;rfl
 |cons x r ih=>intro i st;show(vE r (i+1) _).length+1=_;rw[ih];rfl
theorem qWA:∀{r:List qa} {i j:Nat} {st:List Int},j<r.length→∃s,(vE r i st)[j]? =some (jw s)∧(∀{l:List qa} {st':List Int},iU l r i st=.inr st'→b9 i st→b9 (i+j) s∧∀x,r[j]? =some x→zb l s x=0):=by
 intro r
 induction r with
 |nil=>intro i j st h;simp at h
 |cons x r ih=>
  intro i j st h;cases j with
  |zero=>
   refine⟨st,rfl,λ{l st'} hg hs=>⟨hs,?_⟩⟩;intro y hy;simp at hy;subst hy;rw[Yj]at hg
   split at hg
   ·assumption
   ·cases hg
  |succ j=>
   obtain⟨s,h1,h2⟩:=ih (i:=i+1) (j:=j) (st:=jk st i x.1) (by simp at h;omega);refine⟨s,h1,λ{l st'} hg hs=>?_⟩;rw[Yj]at hg
   split at hg
   ·have:=h2 hg hs.behind;rw[show i+1+j=i+(j+1) by omega]at this;exact this
   ·cases hg
end
section
variable {g h:AH} {L R:List SP}
theorem km {D:Nat→Prop} {sz n:Nat} {v:AV} {xs:List AV} (S:Sl D h sz n v xs):One v:=by cases S<;>exact⟨rfl,rfl⟩
theorem yl {v:AV} (o:One v):ql [v]=true:=by simp[ql,o.2]
theorem zO {g' ha:AH} {b off n nx:Nat} {xs ys l:List AV} {L2 R2:List SP} {K0:Go.Ae.R} {Q:AV→AH→Prop} (H:HS g h L) (s:bc L (qy b xs) R) (hx:(xs.drop off).take n=l) (H2:HS g' ha L2) (s2:bc L2 (qy b ys) R2) (rp:(ys.drop off).take n=l) (hl:l.length=n) (h0:0<n) (ap:b<nx)
  (w:wp K0 Q):wp (Xk (.ptr b off) (some n) (.agg l) h ha nx K0) Q:=by
 obtain⟨e,A⟩:=H.obj s;obtain⟨e2,A2⟩:=H2.obj s2;exact qjn hl h0 (λi hi=>by rw[A.at,← hx,List.getElem?_take_of_lt hi,List.getElem?_drop]) (λi hi=>by rw[A2.at,← rp,List.getElem?_take_of_lt hi,List.getElem?_drop]) ap w
theorem Zz {u x:Bool} {r:AV} {K:AV→Go.Ae.R} {Q:AV→AH→Prop} (hr:u=true→r=.bool x) (w:wp (K (.bool (u&&x))) Q):wp (kV (.bool u) r (.bool false) K) Q:=by
 cases u
 ·exact w
 ·rw[hr rfl];exact w
end
section
variable {g h:AH} {L R:List SP}
theorem qkR {s:List UInt8} {K:AV→Go.Ae.R} {Q:AV→AH→Prop} {t:Bool} (ht:OH .neq s []=some (.bool t)) (w:wp (K (.bool t)) Q):wp (M6 .neq (.str s) (.str []) K) Q:=by show wp (ob (OH .neq s []) K) Q;rw[ht];exact w
theorem Yb {n:Nat} (hn:1≤n) {x:Int}:aA n 158 [.int .i64 x] h λv h'=>v=.int .i64 (jt x)∧h'=h:=by
 refine aB (S:=S158) rfl omQ λk hk=>?_;unfold S158;try simp only[iZ]
 repeat' (first |with_reducible refine qZ ?_ |with_reducible refine qJ ?_ |(with_reducible refine qR ?_;try dsimp only) |(with_reducible refine jZ ?_;try dsimp only) |(with_reducible refine qS ?_;try dsimp only) |(with_reducible refine qc ?_;try dsimp only) |(with_reducible refine zF ?_;try dsimp only) |with_reducible refine qC ?_ |with_reducible refine qF ?_ |(with_reducible refine qW ?_;try dsimp only) |with_reducible refine qx ?_ |with_reducible refine jA ?_ |with_reducible refine jF ?_ |with_reducible refine qU omQ ?_ |with_reducible refine zB omQ ?_ |with_reducible refine ya omQ ?_ |with_reducible refine vu omQ ?_ |with_reducible refine zz ?_ |with_reducible refine zh ?_ |with_reducible refine xz (λhc=>?_) (λhc=>?_) |with_reducible refine wn (λhc=>?_) (λhc=>?_) |with_reducible refine QW (λhc=>?_) (λhc=>?_) |with_reducible refine yA (λhc=>?_) (λhc=>?_) |with_reducible refine vw (λhc=>?_) (λhc=>?_) |with_reducible refine yx (λhc=>?_) (λhc=>?_) |with_reducible refine gj (λhc=>?_) (λhc=>?_))
 all_goals refine qY ⟨?_,rfl⟩
 all_goals unfold jt
 all_goals congr 1
 all_goals (repeat' split)
 all_goals omega
theorem KE {n:Nat} (hn:1≤n) {x:Int}:aA n 186 [.int .i64 x] h λv h'=>v=.bool (z8 x)∧h'=h:=by
 refine aB (S:=S186) rfl omQ λk hk=>?_;unfold S186;try simp only[iZ]
 unfold z8;by_cases h1:x=14
 ·refine qk omQ ?_;refine qW ?_;(try dsimp only);refine jZ ?_;(try dsimp only);refine qC ?_
  exact qY ⟨by rw[iG (.inl h1)],rfl⟩
 ·refine qj omQ ?_;refine qW ?_;(try dsimp only);refine qc ?_;(try dsimp only)
  refine JR (qF ?_);exact qY ⟨by congr 1;exact decide_eq_decide.2 ⟨.inr,λh=>h.resolve_left h1⟩,rfl⟩
theorem qqr {n:Nat} (hn:1≤n) {x:Int}:aA n 187 [.int .i64 x] h λv h'=>v=.bool (decide (x=12∨x=13))∧h'=h:=by
 refine aB (S:=S187) rfl omQ λk hk=>?_;unfold S187;try simp only[iZ]
 by_cases h1:x=12
 ·refine qk omQ ?_;refine qW ?_;(try dsimp only);refine jZ ?_;(try dsimp only);refine qC ?_
  exact qY ⟨by rw[iG (.inl h1)],rfl⟩
 ·refine qj omQ ?_;refine qW ?_;(try dsimp only);refine qc ?_;(try dsimp only)
  refine JR (qF ?_);exact qY ⟨by congr 1;exact decide_eq_decide.2 ⟨.inr,λh=>h.resolve_left h1⟩,rfl⟩
theorem Xd {D:Nat→Prop} {n:Nat} (hn:1≤n) {st:List Int} {v:AV} (S:Sl D h 1 st.length v (st.map (.int .i64))) (hl:st.length<1000) :
  aA n 155 [v] h λr h'=>r=.int .i64 (jw st)∧h'=h:=by
 refine aB (S:=S155) rfl omQ λk hk=>?_;unfold S155;try simp only[iZ]
 refine xS S ?_;by_cases h0:st.length=0
 ·obtain rfl:=iA h0;refine qk omQ ?_;refine qZ ?_;exact qY ⟨rfl,rfl⟩
 ·refine qj omQ ?_;refine qJ (xS S ?_);refine zB omQ ?_;rw[show(st.length:Int)-((1:Nat):Int)=((st.length-1:Nat):Int) by omega];have cx:st≠[]:=by rintro rfl;exact h0 rfl
  refine jb S (x:=.int .i64 (jw st)) ?_ (qY ⟨rfl,rfl⟩);unfold jw;rw[List.getElem?_map,← List.getLast?_eq_getElem?,List.getLast?_eq_some_getLast cx];rfl
theorem KM {n:Nat} (hn:1≤n) {f:Int×Int} {x:Int} (H:HS g h R):aA n 208 [.agg [.int .i64 f.1,.int .i64 f.2],.int .i64 x] h λv h'=>v=.bool (QK f x)∧HS g h' R:=by
 refine ba (S:=S208) rfl omQ λk hk=>?_;unfold S208;try simp only[iZ]
 refine qI H rfl λb h1 H1=>?_;unfold QK;by_cases c1:f.1≤x
 ·refine qQ (qX ‹_› .here rfl ?_);refine zy omQ ?_;refine qW ?_;(try dsimp only);refine qR ?_;(try dsimp only);refine qQ (qX ‹_› .here rfl ?_)
  refine ME (qC ?_);exact qY ⟨by congr 1;exact decide_eq_decide.2 ⟨λh=>⟨c1,h⟩,λh=>h.2⟩,H1.drop⟩
 ·refine qQ (qX ‹_› .here rfl ?_);refine zY omQ ?_;refine qW ?_;(try dsimp only);refine qS ?_;(try dsimp only);refine qF ?_
  exact qY ⟨by rw[iV (λh=>c1 h.1)],H1.drop⟩
def vQ (f:Int×Int):List AV:=[.int .i64 f.1,.int .i64 f.2]
theorem Zl {n:Nat} (hn:1≤n) {x:Int} (H:HS g h R):aA n 206 [.int .i64 x] h λv h'=>v=.bJ [.agg (vQ (ji x).1),.agg (vQ (ji x).2.1),.agg (vQ (ji x).2.2)]∧HS g h' R:=by
 refine aB (S:=S206) rfl omQ λk hk=>?_;unfold S206;try simp only[iZ]
 refine qI H rfl λb0 h1 H1=>?_;refine qI H1 rfl λb2 h2 H2=>?_;refine qI H2 rfl λb4 h3 H3=>?_;refine qL (l:=[.int .i64 ((0:Nat):Int),.int .i64 ((7:Nat):Int)]) rfl ?_;refine qI H3 rfl λb7 h4 H4=>?_;refine qd H4 (b:=b7) .here rfl aN rfl λh5 H5=>?_;have H5:HS g h5 (qy b7 (vQ (0,7))::qy b4 (vQ (0,0))::qy b2 (vQ (0,0))::qy b0 (vQ (0,0))::R):=H5;clear H H1 H2 H3 H4;refine jm [] (λs h'=>s=(.ptr b4 0,.ptr b2 0,.ptr b0 0,())∧HS g h' (qy b0 (vQ (ji x).1)::qy b2 (vQ (ji x).2.1)::qy b4 (vQ (ji x).2.2)::R)) ?_ ?_
 ·intro j hj;by_cases ha:x=1∨x=11∨x=21
  ·have e:ji x=((0,7),(0,0),(0,0)):=by unfold ji;rw[iJ ha]
   rw[e]at hj;rcases ha with rfl |rfl |rfl
   all_goals (first |with_reducible (refine qW ?_;(try dsimp only);refine qj omQ ?_;refine qJ ?_;refine qj omQ ?_;refine qJ ?_;refine qk omQ ?_;refine qZ ?_) |with_reducible (refine qW ?_;(try dsimp only);refine qj omQ ?_;refine qJ ?_;refine qk omQ ?_;refine qZ ?_;refine qZ ?_) |with_reducible (refine qW ?_;(try dsimp only);refine qk omQ ?_;refine qZ ?_;refine qZ ?_))
   all_goals refine qE H5 (b:=b7) (off:=0) .here rfl omQ rfl ?_
   all_goals refine qd H5 (b:=b0) e_3 rfl (by simp[vQ]) rfl λh6 H6=>?_
   all_goals exact hj _ _ ⟨rfl,H6.sub (.cons .here (.cons e_2 (.cons e_1 (.drop .refl))))⟩
  by_cases hb:x=2∨x=10
  ·have e:ji x=((0,7),(0,7),(0,0)):=by unfold ji;rw[iQ ha,iJ hb]
   rw[e]at hj;rcases hb with rfl |rfl
   all_goals (first |with_reducible (refine qW ?_;(try dsimp only);refine qj omQ ?_;refine qJ ?_;refine qj omQ ?_;refine qJ ?_;refine qj omQ ?_;refine qJ ?_;refine qW ?_;(try dsimp only);refine qj omQ ?_;refine qJ ?_;refine qk omQ ?_;refine qZ ?_;refine qW ?_;(try dsimp only)) |with_reducible (refine qW ?_;(try dsimp only);refine qj omQ ?_;refine qJ ?_;refine qj omQ ?_;refine qJ ?_;refine qj omQ ?_;refine qJ ?_;refine qW ?_;(try dsimp only);refine qk omQ ?_;refine qZ ?_;refine qZ ?_;refine qW ?_;(try dsimp only)))
   all_goals refine qE H5 (b:=b7) (off:=0) .here rfl omQ rfl ?_
   all_goals refine qE H5 (b:=b7) (off:=0) .here rfl omQ rfl ?_
   all_goals refine qd H5 (b:=b0) e_3 rfl (by simp[vQ]) rfl λh6 H6=>?_
   all_goals refine qd H6 (b:=b2) e_3 rfl (by simp[vQ]) rfl λh7 H7=>?_
   all_goals refine zO H5 (b:=b7) .here rfl H6 e_1 rfl rfl omQ (HS.lt H5 .here) ?_
   all_goals exact hj _ _ ⟨rfl,H7.sub (.cons e_1 (.cons .here (.cons e_1 (.drop .refl))))⟩
  by_cases hc:x=3∨x=4∨x=5∨x=6∨x=7
  ·have e:ji x=((0,7),(0,7),(0,7)):=by unfold ji;rw[iQ ha,iQ hb,iJ hc]
   rw[e]at hj;rcases hc with rfl |rfl |rfl |rfl |rfl
   all_goals (first |with_reducible (refine qW ?_;(try dsimp only);refine qj omQ ?_;refine qJ ?_;refine qj omQ ?_;refine qJ ?_;refine qj omQ ?_;refine qJ ?_;refine qW ?_;(try dsimp only);refine qj omQ ?_;refine qJ ?_;refine qj omQ ?_;refine qJ ?_;refine qW ?_;(try dsimp only);refine qj omQ ?_;refine qJ ?_;refine qj omQ ?_;refine qJ ?_;refine qj omQ ?_;refine qJ ?_;refine qj omQ ?_;refine qJ ?_;refine qk omQ ?_;refine qZ ?_;refine qW ?_;(try dsimp only)) |with_reducible (refine qW ?_;(try dsimp only);refine qj omQ ?_;refine qJ ?_;refine qj omQ ?_;refine qJ ?_;refine qj omQ ?_;refine qJ ?_;refine qW ?_;(try dsimp only);refine qj omQ ?_;refine qJ ?_;refine qj omQ ?_;refine qJ ?_;refine qW ?_;(try dsimp only);refine qj omQ ?_;refine qJ ?_;refine qj omQ ?_;refine qJ ?_;refine qj omQ ?_;refine qJ ?_;refine qk omQ ?_;refine qZ ?_;refine qZ ?_;refine qW ?_;(try dsimp only)) |with_reducible (refine qW ?_;(try dsimp only);refine qj omQ ?_;refine qJ ?_;refine qj omQ ?_;refine qJ ?_;refine qj omQ ?_;refine qJ ?_;refine qW ?_;(try dsimp only);refine qj omQ ?_;refine qJ ?_;refine qj omQ ?_;refine qJ ?_;refine qW ?_;(try dsimp only);refine qj omQ ?_;refine qJ ?_;refine qj omQ ?_;refine qJ ?_;refine qk omQ ?_;refine qZ ?_;refine qZ ?_;refine qW ?_;(try dsimp only)) |with_reducible (refine qW ?_;(try dsimp only);refine qj omQ ?_;refine qJ ?_;refine qj omQ ?_;refine qJ ?_;refine qj omQ ?_;refine qJ ?_;refine qW ?_;(try dsimp only);refine qj omQ ?_;refine qJ ?_;refine qj omQ ?_;refine qJ ?_;refine qW ?_;(try dsimp only);refine qj omQ ?_;refine qJ ?_;refine qk omQ ?_;refine qZ ?_;refine qZ ?_;refine qW ?_;(try dsimp only)) |with_reducible (refine qW ?_;(try dsimp only);refine qj omQ ?_;refine qJ ?_;refine qj omQ ?_;refine qJ ?_;refine qj omQ ?_;refine qJ ?_;refine qW ?_;(try dsimp only);refine qj omQ ?_;refine qJ ?_;refine qj omQ ?_;refine qJ ?_;refine qW ?_;(try dsimp only);refine qk omQ ?_;refine qZ ?_;refine qZ ?_;refine qW ?_;(try dsimp only)))
   all_goals refine qE H5 (b:=b7) (off:=0) .here rfl omQ rfl ?_
   all_goals refine qE H5 (b:=b7) (off:=0) .here rfl omQ rfl ?_
   all_goals refine qE H5 (b:=b7) (off:=0) .here rfl omQ rfl ?_
   all_goals refine qd H5 (b:=b0) e_3 rfl (by simp[vQ]) rfl λh6 H6=>?_
   all_goals refine qd H6 (b:=b2) e_3 rfl (by simp[vQ]) rfl λh7 H7=>?_
   all_goals refine qd H7 (b:=b4) e_3 rfl (by simp[vQ]) rfl λh8 H8=>?_
   all_goals refine zO H6 (b:=b7) e_1 rfl H7 e_2 rfl rfl omQ (HS.lt H5 .here) ?_
   all_goals refine zO H5 (b:=b7) .here rfl H6 e_1 rfl rfl omQ (HS.lt H5 .here) ?_
   all_goals refine zO H5 (b:=b7) .here rfl H6 e_1 rfl rfl omQ (HS.lt H5 .here) ?_
   all_goals exact hj _ _ ⟨rfl,H8.sub (.cons e_2 (.cons e_1 (.cons .here (.drop .refl))))⟩
  by_cases hd:x=8∨x=9
  ·have e:ji x=((0,7),(0,7),(0,15)):=by unfold ji;rw[iQ ha,iQ hb,iQ hc,iJ hd]
   rw[e]at hj;rcases hd with rfl |rfl
   all_goals (first |with_reducible (refine qW ?_;(try dsimp only);refine qj omQ ?_;refine qJ ?_;refine qj omQ ?_;refine qJ ?_;refine qj omQ ?_;refine qJ ?_;refine qW ?_;(try dsimp only);refine qj omQ ?_;refine qJ ?_;refine qj omQ ?_;refine qJ ?_;refine qW ?_;(try dsimp only);refine qj omQ ?_;refine qJ ?_;refine qj omQ ?_;refine qJ ?_;refine qj omQ ?_;refine qJ ?_;refine qj omQ ?_;refine qJ ?_;refine qj omQ ?_;refine qJ ?_;refine qW ?_;(try dsimp only);refine qj omQ ?_;refine qJ ?_;refine qk omQ ?_;refine qZ ?_;refine qW ?_;(try dsimp only)) |with_reducible (refine qW ?_;(try dsimp only);refine qj omQ ?_;refine qJ ?_;refine qj omQ ?_;refine qJ ?_;refine qj omQ ?_;refine qJ ?_;refine qW ?_;(try dsimp only);refine qj omQ ?_;refine qJ ?_;refine qj omQ ?_;refine qJ ?_;refine qW ?_;(try dsimp only);refine qj omQ ?_;refine qJ ?_;refine qj omQ ?_;refine qJ ?_;refine qj omQ ?_;refine qJ ?_;refine qj omQ ?_;refine qJ ?_;refine qj omQ ?_;refine qJ ?_;refine qW ?_;(try dsimp only);refine qk omQ ?_;refine qZ ?_;refine qZ ?_;refine qW ?_;(try dsimp only)))
   all_goals refine qE H5 (b:=b7) (off:=0) .here rfl omQ rfl ?_
   all_goals refine qE H5 (b:=b7) (off:=0) .here rfl omQ rfl ?_
   all_goals refine qL (l:=vQ (0,15)) rfl ?_
   all_goals refine qd H5 (b:=b0) e_3 rfl (by simp[vQ]) rfl λh6 H6=>?_
   all_goals refine qd H6 (b:=b2) e_3 rfl (by simp[vQ]) rfl λh7 H7=>?_
   all_goals refine qd H7 (b:=b4) e_3 rfl (by simp[vQ]) rfl λh8 H8=>?_
   all_goals refine zO H5 (b:=b7) .here rfl H6 e_1 rfl rfl omQ (HS.lt H5 .here) ?_
   all_goals exact hj _ _ ⟨rfl,H8.sub (.cons e_2 (.cons e_1 (.cons .here (.drop .refl))))⟩
  by_cases he:x=12
  ·have e:ji x=((0,0),(0,0),(0,40)):=by unfold ji;rw[iQ ha,iQ hb,iQ hc,iQ hd,iJ he]
   rw[e]at hj;subst he;refine qW ?_;(try dsimp only);refine qj omQ ?_;refine qJ (qj omQ ?_);refine qJ (qj omQ ?_);refine qJ (qW ?_);(try dsimp only);refine qj omQ ?_;refine qJ (qj omQ ?_);refine qJ (qW ?_);(try dsimp only);refine qj omQ ?_;refine qJ (qj omQ ?_);refine qJ (qj omQ ?_);refine qJ (qj omQ ?_);refine qJ (qj omQ ?_);refine qJ (qW ?_);(try dsimp only);refine qj omQ ?_;refine qJ (qj omQ ?_);refine qJ (qk omQ ?_);refine qZ (qL rfl ?_)
   refine qd H5 (b:=b4) e_1 rfl (by simp[vQ]) rfl λh6 H6=>?_;exact hj _ _ ⟨rfl,H6.sub (.cons e_3 (.cons e_2 (.cons .here (.drop .refl))))⟩
  by_cases hf:x=13
  ·have e:ji x=((0,7),(0,0),(0,40)):=by unfold ji;rw[iQ ha,iQ hb,iQ hc,iQ hd,iQ he,iJ hf]
   rw[e]at hj;subst hf;refine qW ?_;(try dsimp only);refine qj omQ ?_;refine qJ (qj omQ ?_);refine qJ (qj omQ ?_);refine qJ (qW ?_);(try dsimp only);refine qj omQ ?_;refine qJ (qj omQ ?_);refine qJ (qW ?_);(try dsimp only);refine qj omQ ?_;refine qJ (qj omQ ?_);refine qJ (qj omQ ?_);refine qJ (qj omQ ?_);refine qJ (qj omQ ?_);refine qJ (qW ?_);(try dsimp only);refine qj omQ ?_;refine qJ (qj omQ ?_);refine qJ (qj omQ ?_);refine qJ (qk omQ ?_);refine qZ ?_
   refine qE H5 (b:=b7) (off:=0) .here rfl omQ rfl ?_;refine qL (l:=vQ (0,40)) rfl ?_;refine qd H5 (b:=b0) e_3 rfl (by simp[vQ]) rfl λh6 H6=>?_;refine qd H6 (b:=b4) e_2 rfl (by simp[vQ]) rfl λh7 H7=>?_;exact hj _ _ ⟨rfl,H7.sub (.cons e_1 (.cons e_2 (.cons .here (.drop .refl))))⟩
  by_cases hg:x=23
  ·have e:ji x=((1,12),(0,7),(0,6)):=by unfold ji;rw[iQ ha,iQ hb,iQ hc,iQ hd,iQ he,iQ hf,iJ hg]
   rw[e]at hj;subst hg;refine qW ?_;(try dsimp only);refine qj omQ ?_;refine qJ (qj omQ ?_);refine qJ (qj omQ ?_);refine qJ (qW ?_);(try dsimp only);refine qj omQ ?_;refine qJ (qj omQ ?_);refine qJ (qW ?_);(try dsimp only);refine qj omQ ?_;refine qJ (qj omQ ?_);refine qJ (qj omQ ?_);refine qJ (qj omQ ?_);refine qJ (qj omQ ?_);refine qJ (qW ?_);(try dsimp only);refine qj omQ ?_;refine qJ (qj omQ ?_);refine qJ (qj omQ ?_);refine qJ (qj omQ ?_);refine qJ (qk omQ ?_);refine qZ (qL rfl ?_);refine qL rfl ?_;refine qL rfl ?_
   refine qd H5 (b:=b0) e_3 rfl (by simp[vQ]) rfl λh6 H6=>?_;refine qd H6 (b:=b2) e_3 rfl (by simp[vQ]) rfl λh7 H7=>?_;refine qd H7 (b:=b4) e_3 rfl (by simp[vQ]) rfl λh8 H8=>?_;exact hj _ _ ⟨rfl,H8.sub (.cons e_2 (.cons e_1 (.cons .here (.drop .refl))))⟩
  ·have e:ji x=((0,0),(0,0),(0,0)):=by unfold ji;rw[iQ ha,iQ hb,iQ hc,iQ hd,iQ he,iQ hf,iQ hg]
   rw[e]at hj ⊢;refine qW ?_;(try dsimp only);refine qj omQ ?_;refine qJ (qj omQ ?_);refine qJ (qj omQ ?_);refine qJ (qW ?_);(try dsimp only);refine qj omQ ?_;refine qJ (qj omQ ?_);refine qJ (qW ?_);(try dsimp only);refine qj omQ ?_;refine qJ (qj omQ ?_);refine qJ (qj omQ ?_);refine qJ (qj omQ ?_);refine qJ (qj omQ ?_);refine qJ (qW ?_);(try dsimp only);refine qj omQ ?_;refine qJ (qj omQ ?_);refine qJ (qj omQ ?_);refine qJ (qj omQ ?_);refine qJ (qj omQ ?_);refine qJ ?_
   exact hj _ _ ⟨rfl,H5.sub (.cons e_3 (.cons e_2 (.cons e_1 (.drop .refl))))⟩
 ·rintro s h6 ⟨rfl,H6⟩;dsimp only;generalize ji x=F at*;refine qW (qE H6 (b:=b0) (off:=0) .here rfl omQ rfl ?_);refine qE H6 (b:=b2) (off:=0) e_1 rfl omQ rfl ?_;refine qE H6 (b:=b4) (off:=0) e_2 rfl omQ rfl ?_;refine qd H6 (b:=b0) .here rfl (by simp[vQ]) rfl λh7 H7=>?_;refine qd H7 (b:=b2) e_1 rfl (by simp[vQ]) rfl λh8 H8=>?_;refine qd H8 (b:=b4) e_2 rfl (by simp[vQ]) rfl λh9 H9=>?_;refine zO H7 (b:=b4) e_2 rfl H8 e_2 rfl rfl omQ (HS.lt H6 e_2) ?_;refine zO H6 (b:=b4) e_2 rfl H7 e_2 rfl rfl omQ (HS.lt H6 e_2) ?_;refine zO H6 (b:=b2) e_1 rfl H7 e_1 rfl rfl omQ (HS.lt H6 e_1) ?_;refine qx (qE H9 (b:=b0) (off:=0) e_2 rfl omQ rfl ?_);refine qE H9 (b:=b2) (off:=0) e_1 rfl omQ rfl ?_;refine qE H9 (b:=b4) (off:=0) .here rfl omQ rfl ?_;exact qY ⟨rfl,H9.drop.drop.drop⟩
def pE:List (List UInt8):=[[],[115,101,116],[109,111,118,101],[97,100,100],[115,117,98],[109,117,108],[108,101,115,115],[101,113,117,97,108],[108,111,97,100],[115,116,111,114,101],[97,108,108,111,99],[102,114,101,101],[106,117,109,112],[122,101,114,111],[111,112,101,110],[99,108,111,115,101],[117,110,100,111],[101,105,116,104,101,114],[111,114],[100,111,110,101],[114,101,116,114,121],[101,109,105,116],[102,97,105,108],[99,97,108,108]]
theorem qj5 {p:Nat} (hp:p<24):∃s,pE[p]? =some s∧OH .neq s []=some (.bool (decide (1≤(p:Int)∧(p:Int)≤23))):=by
 match p,hp with
 | 0,_=>exact⟨_,rfl,rfl⟩
 | 1,_=>exact⟨_,rfl,rfl⟩
 | 2,_=>exact⟨_,rfl,rfl⟩
 | 3,_=>exact⟨_,rfl,rfl⟩
 | 4,_=>exact⟨_,rfl,rfl⟩
 | 5,_=>exact⟨_,rfl,rfl⟩
 | 6,_=>exact⟨_,rfl,rfl⟩
 | 7,_=>exact⟨_,rfl,rfl⟩
 | 8,_=>exact⟨_,rfl,rfl⟩
 | 9,_=>exact⟨_,rfl,rfl⟩
 | 10,_=>exact⟨_,rfl,rfl⟩
 | 11,_=>exact⟨_,rfl,rfl⟩
 | 12,_=>exact⟨_,rfl,rfl⟩
 | 13,_=>exact⟨_,rfl,rfl⟩
 | 14,_=>exact⟨_,rfl,rfl⟩
 | 15,_=>exact⟨_,rfl,rfl⟩
 | 16,_=>exact⟨_,rfl,rfl⟩
 | 17,_=>exact⟨_,rfl,rfl⟩
 | 18,_=>exact⟨_,rfl,rfl⟩
 | 19,_=>exact⟨_,rfl,rfl⟩
 | 20,_=>exact⟨_,rfl,rfl⟩
 | 21,_=>exact⟨_,rfl,rfl⟩
 | 22,_=>exact⟨_,rfl,rfl⟩
 | 23,_=>exact⟨_,rfl,rfl⟩
 |k+24,h=>exact absurd h omQ
theorem qWM {n:Nat} (hn:2≤n) {x:Int} (H:HS g h R):aA n 207 [.int .i64 x] h λv h'=>∃s,v=.str s∧OH .neq s []=some (.bool (decide (1≤x∧x≤23)))∧HS g h' R:=by
 refine aB (S:=S207) rfl omQ λk hk=>?_;unfold S207;try simp only[iZ]
 refine qG (Q':=λv h'=>∃e,HS g h' (qD e 1 24 v (pE.map .str)::R)) ?_ ?_
 ·(refine qA (g:=W256) rfl omQ λk hk=>?_;show wp (S256 (callT tab qz k) _) _;unfold S256;try simp only[iI,uU,iZ])
  exact qf (n:=24) (l:=pE.map .str) (sz:=1) H rfl rfl rfl rfl λv h1 H1=>qY ⟨_,H1⟩
 rintro v h1 ⟨e,H1⟩;refine qG (Q':=λw h'=>∃s,w=.str s∧OH .neq s []=some (.bool (decide (1≤x∧x≤23)))∧h'=h1) ?_ ?_
 ·refine ba (S:=S255) rfl omQ λk hk=>?_;unfold S255;try simp only[iZ]
  by_cases c0:x<0
  ·refine jH omQ ?_;refine qW ?_;(try dsimp only);refine jZ ?_;(try dsimp only);refine qC (qZ ?_)
   exact qY ⟨[],rfl,by rw[iV omQ];rfl,rfl⟩
  ·refine jz omQ ?_;refine qW ?_;(try dsimp only);refine qc ?_;(try dsimp only);refine qm ‹_› .here ?_
   by_cases c1:x<24
   ·obtain⟨p,rfl⟩:∃p:Nat,x=(p:Int):=⟨x.toNat,by omega⟩;obtain⟨s,hs,ht⟩:=qj5 (show p<24 by omega);refine zY omQ ?_;refine qF (qJ (jb (H1.sl .here) (x:=.str s) (by rw[List.getElem?_map,hs];rfl) (qY ⟨s,rfl,ht,rfl⟩)))
   ·refine zy omQ ?_;refine qF (qZ ?_);exact qY ⟨[],rfl,by rw[iV omQ];rfl,rfl⟩
 ·rintro _ h2 ⟨s,rfl,ht,rfl⟩;exact qY ⟨s,rfl,ht,H1.drop⟩
theorem qq8 {n:Nat} (hn:3≤n) {x:qa} (H:HS g h R):aA n 184 [.agg (zD x)] h λv h'=>v=.bool (Qy x)∧HS g h' R:=by
 refine aB (S:=S184) rfl omQ λk hk=>?_;unfold S184;try simp only[iZ]
 obtain⟨op,a,b,c,q⟩:=x;refine qI H rfl λb0 h1 H1=>?_;have H1:HS g h1 (qy b0 [.int .i64 op,.int .i64 a,.int .i64 b,.int .i64 c,.int .u64 q]::R):=H1;refine qQ (qX ‹_› .here rfl ?_);refine qG (Zl omQ H1) ?_;rintro _ h2 ⟨rfl,H2⟩;have hM:Qy (op,a,b,c,q)=(decide (1≤op∧op≤23)&&QK (ji op).1 a&&QK (ji op).2.1 b&&QK (ji op).2.2 c&&decide (q=0∨op=1)):=rfl;rw[hM];generalize ji op=F at*;obtain⟨f1,f2,f3⟩:=F;dsimp only;refine qB rfl ?_;refine qB rfl ?_;refine qB rfl ?_;refine qI H2 rfl λb1 h3 H3=>?_;refine qI H3 rfl λb2 h4 H4=>?_;refine qI H4 rfl λb3 h5 H5=>?_;refine qd H5 (b:=b1) e_2 rfl aN rfl λh6 H6=>?_;refine qd H6 (b:=b2) e_2 rfl aN rfl λh7 H7=>?_;refine qd H7 (b:=b3) e_2 rfl aN rfl λh8 H8=>?_;have H8:HS g h8 (qy b3 (vQ f3)::qy b2 (vQ f2)::qy b1 (vQ f1)::qy b0 [.int .i64 op,.int .i64 a,.int .i64 b,.int .i64 c,.int .u64 q]::R):=H8;clear H H1 H2 H3 H4 H5 H6 H7;refine qQ (qX ‹_› e_3 rfl ?_);refine qG (qWM omQ H8) ?_;rintro _ h9 ⟨s,rfl,ht,H⟩;refine qkR ht ?_;clear H8;by_cases c1:1≤op∧op≤23
 rotate_left
 ·rw[iV c1];refine qW ?_;(try dsimp only);refine qS ?_;(try dsimp only);refine qF (qW ?_);(try dsimp only);refine qS ?_;(try dsimp only);refine qF (qW ?_);(try dsimp only);refine qS ?_;(try dsimp only);refine qF (qW ?_);(try dsimp only);refine qS ?_;(try dsimp only);refine qW ?_;(try dsimp only);refine zF ?_;(try dsimp only);refine qW ?_;(try dsimp only);refine qS ?_;(try dsimp only);refine qF ?_
  exact qY ⟨rfl,H.drop.drop.drop.drop⟩
 rw[iG c1];refine qW ?_;(try dsimp only);refine qR ?_;(try dsimp only)
 refine qE H (b:=b1) (off:=0) e_2 rfl omQ rfl ?_;refine qQ (qX ‹_› e_3 rfl ?_);refine qG (KM omQ H) ?_;rintro _ eu ⟨rfl,fK⟩;cases Iw:QK f1 a
 ·refine qC (qW ?_);(try dsimp only);refine qS ?_;(try dsimp only);refine qF (qW ?_);(try dsimp only);refine qS ?_;(try dsimp only);refine qF (qW ?_);(try dsimp only);refine qS ?_;(try dsimp only);refine qW ?_;(try dsimp only);refine zF ?_;(try dsimp only);refine qW ?_;(try dsimp only);refine qS ?_;(try dsimp only);refine qF ?_
  exact qY ⟨rfl,fK.drop.drop.drop.drop⟩
 refine qC (qW ?_);(try dsimp only);refine qR ?_;(try dsimp only)
 refine qE fK (b:=b2) (off:=0) e_1 rfl omQ rfl ?_;refine qQ (qX ‹_› e_3 rfl ?_);refine qG (KM omQ fK) ?_;rintro _ dq ⟨rfl,nk⟩;cases Ix:QK f2 b
 ·refine qC (qW ?_);(try dsimp only);refine qS ?_;(try dsimp only);refine qF (qW ?_);(try dsimp only);refine qS ?_;(try dsimp only);refine qW ?_;(try dsimp only);refine zF ?_;(try dsimp only);refine qW ?_;(try dsimp only);refine qS ?_;(try dsimp only);refine qF ?_
  exact qY ⟨rfl,nk.drop.drop.drop.drop⟩
 refine qC (qW ?_);(try dsimp only);refine qR ?_;(try dsimp only)
 refine qE nk (b:=b3) (off:=0) .here rfl omQ rfl ?_;refine qQ (qX ‹_› e_3 rfl ?_);refine qG (KM omQ nk) ?_;rintro _ nS ⟨rfl,bT⟩;cases Iy:QK f3 c
 ·refine qC (qW ?_);(try dsimp only);refine qS ?_;(try dsimp only);refine qW ?_;(try dsimp only);refine zF ?_;(try dsimp only);refine qW ?_;(try dsimp only);refine qS ?_;(try dsimp only);refine qF ?_
  exact qY ⟨rfl,bT.drop.drop.drop.drop⟩
 by_cases c2:q=0
 ·refine qC (qW ?_);(try dsimp only);refine qR ?_;(try dsimp only);refine qQ (qX ‹_› e_3 rfl ?_);refine qk omQ ?_;refine qW ?_;(try dsimp only);refine jZ ?_;(try dsimp only);refine qW ?_;(try dsimp only);refine qR ?_;(try dsimp only);refine qC (qC ?_)
  exact qY ⟨by rw[iG (.inl c2)];rfl,bT.drop.drop.drop.drop⟩
 by_cases c3:op=1
 ·refine qC (qW ?_);(try dsimp only);refine qR ?_;(try dsimp only);refine qQ (qX ‹_› e_3 rfl ?_);refine qj omQ ?_;refine qW ?_;(try dsimp only);refine qc ?_;(try dsimp only);refine qQ (qX ‹_› e_3 rfl ?_);refine qk omQ ?_;refine qW ?_;(try dsimp only);refine qR ?_;(try dsimp only);refine qF (qC ?_)
  exact qY ⟨by rw[iG (.inr c3)];rfl,bT.drop.drop.drop.drop⟩
 ·refine qC (qW ?_);(try dsimp only);refine qR ?_;(try dsimp only);refine qQ (qX ‹_› e_3 rfl ?_);refine qj omQ ?_;refine qW ?_;(try dsimp only);refine qc ?_;(try dsimp only);refine qQ (qX ‹_› e_3 rfl ?_);refine qj omQ ?_;refine qW ?_;(try dsimp only);refine qR ?_;(try dsimp only);refine qF (qC ?_)
  exact qY ⟨by rw[iV (λh=>h.elim c2 c3)];rfl,bT.drop.drop.drop.drop⟩
end
section
variable {g h:AH} {L R:List SP}
theorem qzi {l:List qa} {i:Nat} (hi:i<l.length):qT l (i:Int)=l[i]:=by unfold qT;rw[show((i:Int)).toNat=i by omega,iW hi];rfl
theorem LF {n:Nat} (hn:2≤n) {l:List qa} {st:List Int} {sv tv:AV} (H:HS g h R) (S:Rd g R 5 l.length sv (l.flatMap zD)) (T:Rd g R 1 st.length tv (st.map (.int .i64))) (hs:b9 l.length st) (hl:st.length<1000) :
  aA n 185 [tv,.agg [sv]] h λv h'=>v=.int .i64 (dh l st)∧HS g h' R:=by
 refine ba (S:=S185) rfl omQ λk hk=>?_;unfold S185;try simp only[iZ]
 refine qI H (yl (km (S.sl H))) λb h1 H1=>?_;refine xS (T.sl H1.drop) ?_;unfold dh;by_cases h0:st=[]
 ·subst h0;rw[iJ rfl]
  skip
  exact qY ⟨rfl,H1.drop⟩
 ·have lI:st.length≠0:=λh=>h0 (iA h);rw[iQ h0];refine qj omQ ?_;refine qJ (qW ?_);(try dsimp only);refine qQ (qX ‹_› .here rfl ?_)
  refine qG (Xd omQ (T.sl H1.drop) hl) ?_;rintro _ h1 ⟨rfl,rfl⟩;have hi:=hs.dL h0;generalize jw st=p at*;obtain⟨p,rfl⟩:∃q:Nat,p=(q:Int):=⟨p.toNat,by omega⟩;have hp:p<l.length:=by omega
  refine y4 (x:=.int .i64 l[p].1) (S.sl H1.drop) omQ hp (by rw[JP (sz:=5) zD (λ_=>rfl) _ _ _ omQ,iW hp];rfl) ?_;refine qb ‹_› .here rfl ‹_› .here rfl (HS.lt ‹_› .here) ?_;exact qY ⟨by rw[qzi hp],H1.drop⟩
theorem qZ8 {n:Nat} (hn:4≤n) {l:List qa} {st:List Int} {sv tv:AV} {x:qa} (H:HS g h R) (S:Rd g R 5 l.length sv (l.flatMap zD)) (T:Rd g R 1 st.length tv (st.map (.int .i64))) (hs:b9 l.length st) (hl:st.length<1000) :
  aA n 153 [.agg [sv],tv,.agg (zD x)] h λv h'=>v=.int .i64 (zb l st x)∧HS g h' R:=by
 refine cL (S:=S153) rfl omQ λk hk=>?_;unfold S153;try simp only[iZ]
 refine qI H (yl (km (S.sl H))) λb0 h1 H1=>?_;refine qI H1 rfl λb2 h2 H2=>?_;refine qE H2 (b:=b2) (off:=0) .here rfl omQ rfl ?_;refine qG (qq8 omQ H2) ?_;rintro _ h3 ⟨rfl,H3⟩;clear H H1 H2;obtain⟨op,a,b,c,q⟩:=x;have hW:zb l st (op,a,b,c,q)=if Qy (op,a,b,c,q)=false then 8 else if 0<jt op∧dh l st≠jt op then 12 else if op=16∧dh l st≠14 then 12 else if z8 op=true∧5≤st.length then 9 else 0:=rfl
 rw[hW];have H3:HS g h3 (qy b2 [.int .i64 op,.int .i64 a,.int .i64 b,.int .i64 c,.int .u64 q]::qy b0 [sv]::R):=H3;cases Qy (op,a,b,c,q)
 ·refine jF (qZ ?_);exact qY ⟨rfl,H3.drop.drop⟩
 rw[iQ aN]
 (first |with_reducible refine qZ ?_ |with_reducible refine qJ ?_ |(with_reducible refine qR ?_;try dsimp only) |(with_reducible refine jZ ?_;try dsimp only) |(with_reducible refine qS ?_;try dsimp only) |(with_reducible refine qc ?_;try dsimp only) |(with_reducible refine zF ?_;try dsimp only) |with_reducible refine qC ?_ |with_reducible refine qF ?_ |(with_reducible refine qW ?_;try dsimp only) |with_reducible refine qx ?_ |with_reducible refine jA ?_ |with_reducible refine jF ?_ |with_reducible refine qU omQ ?_ |with_reducible refine zB omQ ?_ |with_reducible refine ya omQ ?_ |with_reducible refine vu omQ ?_ |with_reducible refine zz ?_ |with_reducible refine zh ?_)
 (first |with_reducible refine qZ ?_ |with_reducible refine qJ ?_ |(with_reducible refine qR ?_;try dsimp only) |(with_reducible refine jZ ?_;try dsimp only) |(with_reducible refine qS ?_;try dsimp only) |(with_reducible refine qc ?_;try dsimp only) |(with_reducible refine zF ?_;try dsimp only) |with_reducible refine qC ?_ |with_reducible refine qF ?_ |(with_reducible refine qW ?_;try dsimp only) |with_reducible refine qx ?_ |with_reducible refine jA ?_ |with_reducible refine jF ?_ |with_reducible refine qU omQ ?_ |with_reducible refine zB omQ ?_ |with_reducible refine ya omQ ?_ |with_reducible refine vu omQ ?_ |with_reducible refine zz ?_ |with_reducible refine zh ?_)
 refine KZ (λs h'=>s=(.bool (decide (0<jt op∧dh l st≠jt op)),.ptr b2 0,.ptr b0 0,tv,())∧HS g h' (qy b2 [.int .i64 op,.int .i64 a,.int .i64 b,.int .i64 c,.int .u64 q]::qy b0 [sv]::R)) ?_ ?_
 ·intro j hj;refine qQ (qX ‹_› .here rfl ?_);refine qG (Yb omQ) ?_;rintro _ h3 ⟨rfl,rfl⟩;by_cases h1:0<jt op
  ·refine y8 omQ ?_;refine qR ?_;(try dsimp only)
   refine qE H3 (b:=b0) (off:=0) e_1 rfl omQ rfl ?_;refine qG (LF omQ H3 S.more.more T.more.more hs hl) ?_;rintro _ h4 ⟨rfl,H4⟩;refine qQ (qX ‹_› .here rfl ?_);refine qG (Yb omQ) ?_;rintro _ h4 ⟨rfl,rfl⟩;refine UN (qC (qb ‹_› .here rfl ‹_› .here rfl (HS.lt ‹_› .here) ?_));refine hj _ _ ⟨?_,H4⟩
   congr 2
   exact decide_eq_decide.2 ⟨λh=>⟨h1,h⟩,λh=>h.2⟩
  ·refine yU omQ ?_;refine qS ?_;(try dsimp only);refine qF ?_
   refine hj _ _ ⟨?_,H3⟩;rw[iV (λh=>h1 h.1)]
 clear H3;rintro s h4 ⟨rfl,H⟩;dsimp only;by_cases hA:0<jt op∧dh l st≠jt op
 ·rw[iG hA,iJ hA];refine qZ ?_;exact qY ⟨rfl,H.drop.drop⟩
 rw[iV hA,iQ hA];refine qJ (qQ (qX ‹_› .here rfl ?_));refine JR (KZ (λs h'=>∃(r:AV) (u x:Bool),s=(r,.bool u,.ptr b2 0,tv,())∧(u=true→r=.bool x)∧((u&&x)=decide (op=16∧dh l st≠14))∧HS g h' (qy b2 [.int .i64 op,.int .i64 a,.int .i64 b,.int .i64 c,.int .u64 q]::qy b0 [sv]::R)) ?_ ?_)
 ·intro j hj;by_cases h1:op=16
  ·rw[iG (show op=((16:Nat):Int)from h1)];refine qR ?_;(try dsimp only)
   refine qE H (b:=b0) (off:=0) e_1 rfl omQ rfl ?_;refine qG (LF omQ H S.more.more T.more.more hs hl) ?_;rintro _ h4 ⟨rfl,H4⟩;refine UN (hj _ _ ⟨_,true,decide (¬dh l st=14),rfl,λ_=>rfl,?_,H4⟩);rw[Bool.true_and];exact decide_eq_decide.2 ⟨λh=>⟨h1,h⟩,λh=>h.2⟩
  ·rw[iV (show¬op=((16:Nat):Int)from h1)];refine qS ?_;(try dsimp only)
   refine hj _ _ ⟨_,false,false,rfl,(λh=>by cases h),?_,H⟩;rw[iV (λh=>h1 h.1)];rfl
 clear H;rintro s h4 ⟨r,u,y,rfl,hr,hu,H⟩;dsimp only;refine Zz hr ?_;rw[hu];by_cases hB:op=16∧dh l st≠14
 ·rw[iG hB,iJ hB];refine qZ ?_;exact qY ⟨rfl,H.drop.drop⟩
 rw[iV hB,iQ hB];refine qJ (qQ (qX ‹_› .here rfl ?_));refine qG (KE omQ) ?_;rintro _ h4 ⟨rfl,rfl⟩;cases hb:z8 op
 ·rw[iQ aN];refine qW ?_;(try dsimp only);refine qS ?_;(try dsimp only);refine qF (qJ ?_)
  exact qY ⟨rfl,H.drop.drop⟩
 ·refine qW ?_;(try dsimp only);refine qR ?_;(try dsimp only)
  refine xS (T.sl H.drop.drop) ?_;by_cases h5:5≤st.length
  ·rw[iJ ⟨rfl,h5⟩];refine zy omQ ?_;refine qC (qZ ?_);exact qY ⟨rfl,H.drop.drop⟩
  ·rw[iQ (λh=>h5 h.2)];refine zY omQ ?_;refine qC (qJ ?_);exact qY ⟨rfl,H.drop.drop⟩
def pF (v:AV) (st:List Int):SP:=qD 3 1 st.length v (st.map (.int .i64))
theorem Uk {n:Nat} (hn:2≤n) {st:List Int} {tv:AV} {i op:Int} (H:HS g h (pF tv st::R)) (hs:0<jt op→st≠[]) (hl:st.length<1000) :
  aA n 154 [tv,.int .i64 i,.int .i64 op] h λv h'=>HS g h' (pF v (jk st i op)::R):=by
 refine cL (S:=S154) rfl omQ λk hk=>?_;unfold S154;try simp only[iZ]
 refine jm [] (λs h'=>∃v,s=(.int .i64 op,.int .i64 i,v,())∧HS g h' (pF v (if 0<jt op then st.dropLast else st)::R)) ?_ ?_
 ·intro j hj;refine qG (Yb omQ) ?_;rintro _ h ⟨rfl,rfl⟩;by_cases h1:0<jt op
  ·have cx:=hs h1;have lI:st.length≠0:=λh=>cx (iA h);rw[iJ h1]at hj;refine y8 h1 (qZ ?_);refine xS (H.sl (e:=3) .here) ?_;refine zB omQ ?_;rw[show(st.length:Int)-((1:Nat):Int)=((st.length-1:Nat):Int) by omega];refine Gu H omQ omQ λv H1=>?_;refine hj _ _ ⟨v,rfl,?_⟩;unfold pF;rw[List.length_dropLast,List.dropLast_eq_take,List.map_take];rw[Nat.mul_one]at H1;exact H1
  ·rw[iQ h1]at hj;refine yU h1 (qJ ?_);exact hj _ _ ⟨tv,rfl,H⟩
 clear H;rintro s h1 ⟨v,rfl,H⟩;unfold jk;have lF:(if 0<jt op then st.dropLast else st).length<1000:=by
  split
  ·rw[List.length_dropLast];omega
  ·exact hl
 generalize(if 0<jt op then st.dropLast else st)=st at*;dsimp only;refine qW ?_;(try dsimp only)
 refine qG (KE omQ) ?_;rintro _ h1 ⟨rfl,rfl⟩;have push:∀{K:AV→AH→Go.Ae.R} {Q:AV→AH→Prop},(∀v' h',HS g h' (pF v' (st++[i])::R)→wp (K v' h') Q)→
   wp (yC h1 3 [.int .i64 ((0:Nat):Int)] 1 [(0,1,.int .i64 i)] λrS sZ=>vB sZ 3 1 v rS K) Q:=by
  intro K Q w;refine qf (n:=1) (l:=[.int .i64 i]) (sz:=1) H rfl rfl rfl rfl λv5 h5 H5=>?_;refine ju (H5.aI e_1) (H5.sl .here) omQ omQ rfl λv6 h6 H6=>w v6 h6 ?_;unfold pF;rw[List.map_append,List.length_append];exact H6.sub (.cons .here (.drop .refl))
 cases hb:z8 op
 ·by_cases Ag:op=18
  ·rw[iJ (.inr Ag)];refine qW ?_;(try dsimp only);refine qc ?_;(try dsimp only);refine qk omQ ?_;refine qF (qZ ?_)
   exact push λv' h' H'=>qx (qY H')
  ·rw[iQ (by simp;exact Ag)];refine qW ?_;(try dsimp only);refine qc ?_;(try dsimp only);refine qj omQ ?_;refine qF (qJ (qx ?_))
   exact qY H
 ·rw[iJ (.inl rfl)];refine qW ?_;(try dsimp only);refine jZ ?_;(try dsimp only);refine qC (qZ ?_)
  exact push λv' h' H'=>qx (qY H')
theorem Kt {l:List qa} {i:Nat} {st:List Int} (hi:i<l.length):iU l (l.drop i) i st=if zb l st l[i]=0 then iU l (l.drop (i+1)) (i+1) (jk st i l[i].1)else .inl ((i:Int),zb l st l[i]):=by rw[List.drop_eq_getElem_cons hi];rfl
theorem VD {l:List qa} {i:Nat} {st:List Int} (hi:i<l.length):vE (l.drop i) i st=jw st::vE (l.drop (i+1)) (i+1) (jk st i l[i].1):=by rw[List.drop_eq_getElem_cons hi];rfl
theorem Kn {l:List qa} {a:List Int} {i:Nat} (hi:i<l.length):JC l a (l.drop i) i=if Qm l a i l[i]then((i:Int),2)else JC l a (l.drop (i+1)) (i+1):=by rw[List.drop_eq_getElem_cons hi];rfl
theorem Xq {l:List qa} {i:Nat} (hi:i<l.length):((l.flatMap zD).drop (i*5)).take 5=zD l[i]:=gJ (sz:=5) (λ_=>rfl) (iW hi)
theorem GF {n:Nat} (hn:3≤n) {l:List qa} {st':List Int} {sv:AV} (H:HS g h R) (S:Rd g R 5 l.length sv (l.flatMap zD)) (hg:iU l l 0 []=.inr st') (hl:l.length≤100) :
  aA n 157 [.agg [sv]] h λv h'=>HS g h' (qD 3 1 l.length v ((vE l 0 []).map (.int .i64))::R):=by
 refine aB (S:=S157) rfl omQ λk hk=>?_;unfold S157;try simp only[iZ]
 refine qI H (yl (km (S.sl H))) λb0 h1 H1=>?_;refine qQ (qX ‹_› .here rfl ?_);refine xS (S.sl H1.drop) ?_;refine JO (n:=l.length) H1 omQ λov h2 H2=>?_;refine qQ (qX ‹_› e_1 rfl ?_);refine xS (S.sl H2.drop.drop) ?_
 refine jR (λm s h'=>∃(i:Nat) (st A:List Int) (tv:AV),s=(.int .i64 (i:Int),.int .i64 (l.length:Int),sv,tv,ov,())∧i≤l.length∧m=l.length-i∧b9 i st∧st.length≤i∧iU l (l.drop i) i st=.inr st'∧A.length=i∧vE l 0 []=A++vE (l.drop i) i st∧
  HS g h' (qD 3 1 l.length ov ((A++List.replicate (l.length-i) 0).map (.int .i64))::pF tv st::R))
  ?_ (m:=l.length) (by show _<1000000000;omega) ⟨0,[],[],.ak,rfl,by omega,by omega,b9.nil,by simp,hg,rfl,rfl,by
   rw[List.nil_append,List.map_replicate]
   exact(H2.ak (e:=3) (sz:=1)).sub (.cons e_1 (.cons .here (.drop .refl)))⟩
 clear H H1 H2;rintro m ih s h3 bF ⟨i,st,A,tv,rfl,hi,rfl,hs,mV,eG,hA,hR,H⟩;dsimp only;by_cases ap:i<l.length
 ·rw[Kt ap]at eG;rw[VD ap]at hR;have fC:=Xq ap;generalize l[i]=x at*;by_cases hw:zb l st x=0
  rotate_left
  ·rw[iQ hw]at eG;cases eG
  rw[iJ hw]at eG;have ho:=xc hw;refine jH omQ ?_;refine qZ (zS (S.sl H.drop.drop) ap omQ fC ?_);refine qI H rfl λb h4 H4=>?_;refine qd H4 (b:=b) .here rfl (by simp[zD]) rfl λh5 H5=>?_;have H5:HS g h5 (qy b (zD x)::qD 3 1 l.length ov ((A++List.replicate (l.length-i) 0).map (.int .i64))::pF tv st::R):=H5;unfold zD at H5;refine qG (Xd omQ (H5.sl (e:=3) e_2) omQ) ?_;rintro _ h5 ⟨rfl,rfl⟩;refine XR (H5.aI e_1) omQ ⟨rfl,rfl⟩ λh6 H6=>?_;have mz:((A++List.replicate (l.length-i) 0).map (AV.int .i64)).set i (.int .i64 (jw st))=((A++[jw st])++List.replicate (l.length-(i+1)) 0).map (.int .i64):=by
   rw[← List.map_set]
   congr 1
   rw[List.set_append_right _ _ omQ,hA,Nat.sub_self,show l.length-i=(l.length-(i+1))+1 by omega,List.replicate_succ];simp
  rw[mz]at H6;refine qQ (qX ‹_› e_1 rfl ?_);refine qG (Uk omQ (H6.sub (L':=pF tv st::qy b [.int .i64 x.1,.int .i64 x.2.1,.int .i64 x.2.2.1,.int .i64 x.2.2.2.1,.int .u64 x.2.2.2.2]::qD 3 1 l.length ov (((A++[jw st])++List.replicate (l.length-(i+1)) 0).map (.int .i64))::R) (.cons e_2 (.cons e_1 (.cons .here .refl)))) (λh=>ho.2.1 (.inl h)) omQ) ?_;intro FQ h8 H8;refine qU omQ ?_;have FR:=KI st i x.1;exact bF (l.length-(i+1)) _ _ omQ ⟨i+1,jk st i x.1,A++[jw st],FQ,rfl,by omega,rfl,hs.behind,by omega,eG,by simp[hA],by rw[hR];simp,H8.sub (.cons e_2 (.cons .here (.drop .refl)))⟩
 ·obtain rfl:i=l.length:=by omega
  refine jz omQ ?_;refine qJ (qx (qY ?_));rw[hR];rw[Nat.sub_self,List.replicate_zero,List.append_nil]at H;rw[List.drop_length];show HS g h3 (qD _ 1 l.length ov ((A++[]).map _)::R);rw[List.append_nil];exact H.sub (.cons .here (.drop .refl))
theorem qGD {x:qa} (h:Qy x=true) (hj:x.1=12∨x.1=13):0≤x.2.2.2.1∧x.2.2.2.1≤40:=by
 have e:(ji x.1).2.2=(0,40):=by
  rcases hj with e |e<;>rw[e]<;>rfl
 unfold Qy at h;rw[e]at h;simp only[Bool.and_eq_true,QK,decide_eq_true_eq]at h;exact h.1.2
theorem qZc {n:Nat} (hn:2≤n) {l:List qa} {a:List Int} {sv av:AV} (H:HS g h R) (S:Rd g R 5 l.length sv (l.flatMap zD)) (T:Rd g R 1 a.length av (a.map (.int .i64))) (ha:a.length=l.length) (hm:∀x∈l,Qy x=true) (hl:l.length≤100) :
  aA n 156 [.agg [sv],av] h λv h'=>v=.bJ [.int .i64 (JC l a l 0).1,.int .i64 (JC l a l 0).2]∧HS g h' R:=by
 refine ba (S:=S156) rfl omQ λk hk=>?_;unfold S156;try simp only[iZ]
 refine qI H (yl (km (S.sl H))) λb0 h1 H1=>?_;have DI:=(S.sl H).rR;clear H;refine qQ (qX ‹_› .here rfl ?_);refine x9 ‹_› ?_;refine jR (λm s h'=>∃i:Nat,s=(.int .i64 (i:Int),.int .i64 (l.length:Int),sv,.ptr b0 0,av,())∧i≤l.length∧m=l.length-i∧JC l a l 0=JC l a (l.drop i) i∧HS g h' (qy b0 [sv]::R))
  ?_ (m:=l.length) (by show _<1000000000;omega) ⟨0,rfl,by omega,by omega,rfl,H1⟩
 clear H1;rintro m ih s h2 bF ⟨i,rfl,hi,rfl,hJ,H⟩;dsimp only;by_cases ap:i<l.length
 rotate_left
 ·obtain rfl:i=l.length:=by omega
  rw[List.drop_length]at hJ;rw[hJ];refine jz omQ ?_;refine qJ (qx ?_);exact qY ⟨rfl,H.drop⟩
 rw[Kn ap]at hJ;have fC:=Xq ap;have hmx:=hm l[i] (List.getElem_mem ap);generalize l[i]=x at*;obtain⟨op,xa,xb,c,q⟩:=x;unfold zD at fC;refine jH omQ (qZ ?_);refine jm [] (λs h'=>s=(.int .i64 (i:Int),.int .i64 (l.length:Int),sv,.ptr b0 0,av,())∧¬Qm l a i (op,xa,xb,c,q)∧HS g h' (qy b0 [sv]::R)) ?_ ?_
 rotate_left
 ·rintro s h3 ⟨rfl,dx,H3⟩;rw[iQ dx]at hJ;refine qU omQ ?_;exact bF (l.length-(i+1)) _ _ omQ ⟨i+1,rfl,by omega,rfl,hJ,H3⟩
 intro j hj;clear bF;refine zS (S.sl H.drop) ap omQ fC ?_;refine qI H rfl λb h4 H4=>?_;refine qd H4 (b:=b) .here rfl aN rfl λh5 H5=>?_;have H5:HS g h5 (qy b [.int .i64 op,.int .i64 xa,.int .i64 xb,.int .i64 c,.int .u64 q]::qy b0 [sv]::R):=H5;clear H H4;refine qQ (qX ‹_› .here rfl ?_);refine qG (qqr omQ) ?_;rintro _ h5 ⟨rfl,rfl⟩;by_cases fR:op=12∨op=13
 rotate_left
 ·rw[iV fR];refine jF (qZ ?_);exact hj _ _ ⟨rfl,λh=>fR h.1,H5.drop⟩
 rw[iG fR];have hc:=qGD hmx fR;dsimp only at hc;obtain⟨p,rfl⟩:∃p:Nat,c=(p:Int):=⟨c.toNat,by omega⟩;have pG:∀k:Nat,k<l.length→(a.map (AV.int .i64))[k]? =some (.int .i64 (qO a (k:Int))):=by intro k hk;unfold qO;rw[List.getElem?_map,show((k:Int)).toNat=k by omega,iW omQ];rfl
 have Ta:Sl (λ_=>True) h5 1 a.length av (a.map (.int .i64)):=T.sl H5.drop.drop;by_cases c1:l.length<p
 ·rw[iJ ⟨fR,.inl (by dsimp only;omega)⟩]at hJ;rw[hJ];refine jA (qJ (qQ (qX ‹_› .here rfl ?_)));refine qQ (qX ‹_› e_1 rfl ?_);refine x9 ‹_› ?_;refine y8 omQ ?_;refine qW ?_;(try dsimp only);refine jZ ?_;(try dsimp only);refine qW ?_;(try dsimp only);refine zF ?_;(try dsimp only);refine qW ?_;(try dsimp only);refine jZ ?_;(try dsimp only);refine qC (qW ?_);(try dsimp only);refine jZ ?_;(try dsimp only);refine qW ?_;(try dsimp only);refine zF ?_;(try dsimp only);refine qW ?_;(try dsimp only);refine jZ ?_;(try dsimp only);refine qC (qZ (qx ?_))
  exact qY ⟨rfl,H5.drop.drop⟩
 by_cases c2:p=l.length
 ·subst c2;refine jA (qJ (qQ (qX ‹_› .here rfl ?_)));refine qQ (qX ‹_› e_1 rfl ?_);refine x9 ‹_› ?_;refine yU omQ ?_;refine qW ?_;(try dsimp only);refine qc ?_;(try dsimp only);refine qQ (qX ‹_› .here rfl ?_);refine qQ (qX ‹_› e_1 rfl ?_);refine x9 ‹_› ?_;refine qk omQ ?_;refine qW ?_;(try dsimp only);refine qR ?_;(try dsimp only)
  refine jb Ta (pG i ap) ?_;by_cases c3:qO a i= -1
  ·refine jJ (by rw[c3];decide) ?_;refine qW ?_;(try dsimp only);refine qc ?_;(try dsimp only);refine qC (qF (qW ?_));(try dsimp only);refine qc ?_;(try dsimp only);refine qQ (qX ‹_› .here rfl ?_);refine qQ (qX ‹_› e_1 rfl ?_);refine x9 ‹_› ?_;refine jz omQ ?_;refine qW ?_;(try dsimp only);refine qS ?_;(try dsimp only);refine qW ?_;(try dsimp only);refine qc ?_;(try dsimp only);refine qF (qF (qJ ?_))
   exact hj _ _ ⟨rfl,λh=>by
    rcases h.2 with h |h |h
    ·dsimp only at h;omega
    ·exact h.2 c3
    ·dsimp only at h;omega,H5.drop⟩
  ·refine jQ (λh=>c3 (by rw[h];decide)) ?_;rw[iJ ⟨fR,.inr (.inl ⟨rfl,c3⟩)⟩]at hJ;rw[hJ];refine qW ?_;(try dsimp only);refine qc ?_;(try dsimp only);refine qC (qF (qW ?_));(try dsimp only);refine jZ ?_;(try dsimp only);refine qW ?_;(try dsimp only);refine zF ?_;(try dsimp only);refine qW ?_;(try dsimp only);refine jZ ?_;(try dsimp only);refine qC (qZ (qx ?_))
   exact qY ⟨rfl,H5.drop.drop⟩
 ·refine jA (qJ (qQ (qX ‹_› .here rfl ?_)));refine qQ (qX ‹_› e_1 rfl ?_);refine x9 ‹_› ?_;refine yU omQ ?_;refine qW ?_;(try dsimp only);refine qc ?_;(try dsimp only);refine qQ (qX ‹_› .here rfl ?_);refine qQ (qX ‹_› e_1 rfl ?_);refine x9 ‹_› ?_;refine qj omQ ?_;refine qW ?_;(try dsimp only);refine qS ?_;(try dsimp only);refine qW ?_;(try dsimp only);refine qc ?_;(try dsimp only);refine qF (qF (qW ?_));(try dsimp only);refine qc ?_;(try dsimp only);refine qQ (qX ‹_› .here rfl ?_);refine qQ (qX ‹_› e_1 rfl ?_);refine x9 ‹_› ?_;refine jH omQ ?_;refine qW ?_;(try dsimp only);refine qR ?_;(try dsimp only);refine qQ (qX ‹_› .here rfl ?_)
  refine jb Ta (pG p omQ) ?_;refine jb Ta (pG i ap) ?_;by_cases c3:qO a p=qO a i
  ·refine jJ c3 ?_;refine qW ?_;(try dsimp only);refine qc ?_;(try dsimp only);refine qC (qF (qJ ?_))
   exact hj _ _ ⟨rfl,λh=>by
    rcases h.2 with h |h |h
    ·dsimp only at h;omega
    ·have:=h.1;dsimp only at this;omega
    ·exact h.2 c3,H5.drop⟩
  ·refine jQ c3 ?_;rw[iJ ⟨fR,.inr (.inr ⟨by dsimp only;omega,c3⟩)⟩]at hJ;rw[hJ];refine qW ?_;(try dsimp only);refine qc ?_;(try dsimp only);refine qC (qF (qZ (qx ?_)))
   exact qY ⟨rfl,H5.drop.drop⟩
theorem qzo {l:List qa}:∀{r:List qa} {i:Nat} {st st':List Int},iU l r i st=.inr st'→∀x∈r,Qy x=true:=by
 intro r
 induction r with
 |nil=>intro i st st' _ x hx;cases hx
 |cons y r ih=>
  intro i st st' h x hx;rw[Yj]at h
  split at h
  ·rename_i hw;rcases List.mem_cons.1 hx with rfl |hx
   ·exact(xc hw).1
   ·exact ih h x hx
  ·cases h
theorem qjb {l:List qa}:∀{r:List qa} {i:Nat} {st:List Int} {q:Int×Int},iU l r i st=.inl q→q.2≠0:=by
 intro r
 induction r with
 |nil=>intro i st q h;cases h
 |cons y r ih=>
  intro i st q h;rw[Yj]at h
  split at h
  ·exact ih h
  ·rename_i hw;cases h;exact hw
theorem UY {l:List qa} (h:(xZ l).2=0):iU l l 0 []=.inr []:=by
 unfold xZ at h
 split at h
 ·cases h
 ·cases hg:iU l l 0 []with
  |inl q=>rw[hg]at h;exact absurd h (qjb hg)
  |inr st=>
   rw[hg]at h;dsimp only at h
   split at h
   ·rename_i h0;rw[h0]
   ·cases h
theorem MY {n:Nat} (hn:6≤n) {l:List qa} {sv:AV} (H:HS g h R) (S:Rd g R 5 l.length sv (l.flatMap zD)) (hl:l.length≤100) :
  aA n 130 [.agg [sv]] h λv h'=>v=.bJ [.int .i64 (xZ l).1,.int .i64 (xZ l).2]∧HS g h' R:=by
 refine aB (S:=S130) rfl omQ λk hk=>?_;unfold S130;try simp only[iZ]
 refine qI H (yl (km (S.sl H))) λb0 h1 H1=>?_;have DI:=(S.sl H).rR;clear H;have hC:xZ l=if l.length=0∨40<l.length then(0,4)else match iU l l 0 []with
  | .inl r=>r
  | .inr st=>if st=[]then JC l (vE l 0 []) l 0 else(jw st,12):=rfl
 generalize xZ l=C at*;refine qQ (qX ‹_› .here rfl ?_);refine x9 ‹_› ?_;by_cases c0:l.length=0
 ·rw[iJ (.inl c0)]at hC;subst hC;refine qk omQ ?_;refine qW ?_;(try dsimp only);refine jZ ?_;(try dsimp only);refine qC (qZ ?_)
  exact qY ⟨rfl,H1.drop⟩
 by_cases c1:40<l.length
 ·rw[iJ (.inr c1)]at hC;subst hC;refine qj omQ ?_;refine qW ?_;(try dsimp only);refine qc ?_;(try dsimp only);refine qQ (qX ‹_› .here rfl ?_);refine x9 ‹_› ?_;refine y8 omQ ?_;refine qF (qZ ?_)
  exact qY ⟨rfl,H1.drop⟩
 rw[iQ omQ]at hC;refine qj omQ ?_;refine qW ?_;(try dsimp only);refine qc ?_;(try dsimp only);refine qQ (qX ‹_› .here rfl ?_);refine x9 ‹_› ?_;refine yU omQ ?_;refine qF (qJ (qQ (qX ‹_› .here rfl ?_)));refine x9 ‹_› ?_
 generalize hG:iU l l 0 []=G at hC;refine jR (λm s h'=>∃(i:Nat) (st:List Int) (tv:AV),s=(.int .i64 (i:Int),.int .i64 (l.length:Int),sv,tv,.ptr b0 0,())∧i≤l.length∧m=l.length-i∧b9 i st∧st.length≤i∧iU l (l.drop i) i st=G∧HS g h' (pF tv st::qy b0 [sv]::R))
  ?_ (m:=l.length) (by show _<1000000000;omega) ⟨0,[],.ak,rfl,by omega,by omega,b9.nil,by simp,hG,H1.ak (e:=3) (sz:=1)⟩
 clear H1;rintro m ih s h2 bF ⟨i,st,tv,rfl,hi,rfl,hs,mV,eG,H⟩;dsimp only;by_cases ap:i<l.length
 ·rw[Kt ap]at eG;have fC:=Xq ap;generalize l[i]=x at*;refine jH omQ ?_;refine qZ (zS (S.sl H.drop.drop) ap omQ fC ?_);refine qI H rfl λb h4 H4=>?_;refine qd H4 (b:=b) .here rfl (by simp[zD]) rfl λh5 H5=>?_;have H5:HS g h5 (qy b (zD x)::pF tv st::qy b0 [sv]::R):=H5;clear H H4;refine qE H5 (b:=b0) (off:=0) e_2 rfl omQ rfl ?_;refine qE H5 (b:=b) (off:=0) .here rfl omQ rfl ?_;refine qG (qZ8 omQ H5 S.more.more.more (Rd.own (e:=3) e_1) (λy hy=>by have:=hs y hy;omega) omQ) ?_;rintro _ h6 ⟨rfl,H6⟩;by_cases hw:zb l st x=0
  ·rw[iJ hw]at eG;have ho:=xc hw;refine jJ hw ?_;unfold zD at H6;refine qJ (qQ (qX ‹_› .here rfl ?_));refine qG (Uk omQ (H6.aI e_1) (λh=>ho.2.1 (.inl h)) omQ) ?_;intro FQ h8 H8;have FR:=KI st i x.1;refine qU omQ ?_;exact bF (l.length-(i+1)) _ _ omQ ⟨i+1,jk st i x.1,FQ,rfl,by omega,rfl,hs.behind,by omega,eG,H8.sub (.cons .here (.drop .refl))⟩
  ·rw[iQ hw]at eG;subst eG;rw[hC];refine jQ hw ?_;refine qZ (qx ?_);exact qY ⟨rfl,H6.drop.drop.drop⟩
 ·obtain rfl:i=l.length:=by omega
  rw[List.drop_length]at eG;have eG:(Sum.inr st:(Int×Int) ⊕ List Int)=G:=eG;subst eG;dsimp only at hC;refine jz omQ (qJ ?_);refine xS (H.sl (e:=3) .here) ?_;by_cases h0:st=[]
  ·subst h0;rw[iJ rfl]at hC;rw[show([]:List Int).length=0 from rfl];refine yU omQ ?_;refine qJ (qW ?_);(try dsimp only)
   refine qE H (b:=b0) (off:=0) e_1 rfl omQ rfl ?_;refine qE H (b:=b0) (off:=0) e_1 rfl omQ rfl ?_;refine qG (GF omQ H S.more.more hG hl) ?_;intro av h3 H3;refine qG (qZc (a:=vE l 0 []) omQ H3 S.more.more.more (by rw[Kz];exact Rd.own .here) Kz (qzo hG) hl) ?_;rintro _ h4 ⟨rfl,H4⟩;rw[← hC];refine qB rfl ?_;refine qB rfl ?_;refine zO H (b:=b0) e_1 rfl H3 e_2 rfl rfl omQ (HS.lt H e_1) ?_;refine qx ?_;exact qY ⟨rfl,H4.drop.drop.drop⟩
  ·rw[iQ h0]at hC;subst hC;have lI:st.length≠0:=λh=>h0 (iA h);refine y8 omQ ?_;refine qZ (qG (Xd omQ (H.sl (e:=3) .here) omQ) ?_);rintro _ h3 ⟨rfl,rfl⟩;refine qx ?_;exact qY ⟨rfl,H.drop.drop⟩
theorem qgL {l:List qa} {st':List Int} (hg:iU l l 0 []=.inr st') {i:Nat} (hi:i<l.length) (ho:0<jt l[i].1∨l[i].1=16):∃p:Nat,(vE l 0 [])[i]? =some (p:Int)∧p<l.length:=by
 obtain⟨s,h1,h2⟩:=qWA (r:=l) (i:=0) (j:=i) (st:=[]) hi;obtain⟨h3,h4⟩:=h2 hg b9.nil;have hw:=h4 l[i] (iW hi);have cx:=(xc hw).2.1 ho;have dl:=h3.dL cx;refine⟨(jw s).toNat,?_,by omega⟩;rw[h1]
 congr 1
 omega
end
section
variable {g h:AH} {L R:List SP}
theorem bc.fN {A A':List SP} {P:SP} (s:bc A P A') (R:List SP):bc (A++R) P (A'++R):=by
 induction s with
 |here=>exact .here
 |there s ih=>exact .there ih
theorem HS.pH {A A':List SP} {P:SP} (s:bc A P A') (H:HS g h (.all A::R)):HS g h (P:: .all A'::R):=by have H1:=(H.cq).aI (bc.fN s R);have H2:=HS.allI (HS.back (A:=A') H1);exact H2.sub (.cons e_1 (.refl))
theorem HS.pJ {A A':List SP} {P:SP} (s:bc A P A') (H:HS g h (P:: .all A'::R)):HS g h (.all A::R):=by have H1:HS g h (.all A'::P::R):=H.sub (.cons e_1 (.refl));have H2:=(H1.cq).aI (bc.skip A' .here);exact HS.allI (HS.cm (bc.fN s R) H2)
def DJ (p:AV×AV) (x:bz):SP:=.all [qD 163 2 x.1.length p.1 (x.1.flatMap jT),qD 3 1 x.2.length p.2 (x.2.map (.int .i64))]
theorem DJ.E {p:AV×AV} {x:bz} (H:HS g h (DJ p x::R)):HS g h (qD 163 2 x.1.length p.1 (x.1.flatMap jT)::qD 3 1 x.2.length p.2 (x.2.map (.int .i64))::R):=H.cq
theorem DJ.I {p:AV×AV} {x:bz} (H:HS g h (qD 163 2 x.1.length p.1 (x.1.flatMap jT)::qD 3 1 x.2.length p.2 (x.2.map (.int .i64))::R)):HS g h (DJ p x::R):=H.allI
def MN (ps:List (AV×AV)):List AV:=ps.reverse.flatMap λp=>[p.1,p.2]
end
section
variable {g h:AH} {L R:List SP}
def bK (lv:List bz):Nat:=(lv.map λx=>x.2.length).sum
theorem kF (x:bz) (r:List bz):bK (x::r)=x.2.length+bK r:=by simp[bK]
theorem qGA {x y:bz} {r:List bz}:bK (QO (x::y::r)).2=bK (x::y::r):=by unfold bK QO;simp;omega
end
end Go.Proofs.YthmopakmcboghaaGreatDoor
