/- Lemmas for 'quietus/quietustop.TopAgain': What a transaction knows and writes, as plain data: cells, levels, views;Write sets: by the program;Levels of cells and frees: by the program;Views: by the ... No condition. -/
import Derived.Test.YtefichdddddacaaGreatDoorTopAgainAe7
import Derived.Test.YtefichdddddacaaGreatDoorTopAgainT
import Derived.KernelRfl
namespace Go.Proofs.YtefichdddddacaaGreatDoor
open Go Go.Ae
set_option maxRecDepth 100000
section
abbrev Cl:Type:=Int×Int
def jI (c:Int×Int):List AV:=[.int .i64 c.1,.int .u64 c.2]
def Yv (p:Int):List Cl→Option Nat
 |[]=>none
 |c::l=>if c.1=p then some 0 else(Yv p l).map (· +1)
def zW (p:Int):List Cl→Option Int
 |[]=>none
 |c::l=>if c.1=p then some c.2 else zW p l
def yP (p v:Int):List Cl→List Cl
 |[]=>[(p,v)]
 |c::l=>if c.1=p then(p,v)::l else c::yP p v l
def yF (l cs:List Cl):List Cl:=cs.foldl (λl c=>yP c.1 c.2 l) l
theorem MP {p:Int} {l:List Cl}:Yv p l=none↔zW p l=none:=by
 induction l with
 |nil=>simp[Yv,zW]
 |cons c l ih=>
  unfold Yv zW
  split
  ·simp
  ·simp[ih]
theorem Mm {p:Int}:∀{l:List Cl} {i:Nat},Yv p l=some i→i<l.length∧(∃x,l[i]? =some (p,x)∧zW p l=some x)∧∀v,yP p v l=l.set i (p,v):=by
 intro l
 induction l with
 |nil=>intro i h;cases h
 |cons c l ih=>
  intro i h;unfold Yv at h;unfold zW
  split at h
  ·rename_i hc;cases h;rw[iJ hc];refine⟨by simp,⟨c.2,by rw[← hc];rfl,rfl⟩,λv=>?_⟩;unfold yP;rw[iJ hc];rfl
  ·rename_i hc;rw[iQ hc];cases hi:Yv p l with
   |none=>rw[hi]at h;cases h
   |some j=>rw[hi]at h;cases h;obtain⟨h1,⟨x,h2,B9⟩,h3⟩:=ih hi;refine⟨by simp;omega,⟨x,by simpa using h2,B9⟩,λv=>?_⟩;unfold yP;rw[iQ hc,h3];rfl
theorem Qf {p v:Int} {l:List Cl} (h:zW p l=none):yP p v l=l++[(p,v)]:=by
 induction l with
 |nil=>rfl
 |cons c l ih=>
  unfold zW at h
  split at h
  ·cases h
  ·rename_i hc;unfold yP;rw[iQ hc,ih h];rfl
theorem qQd {p:Int}:∀{l:List Cl} {i:Nat},i<l.length→(∀j,j<i→∀c,l[j]? =some c→c.1≠p)→(∃x,l[i]? =some (p,x))→Yv p l=some i:=by
 intro l
 induction l with
 |nil=>intro i h;simp at h
 |cons c l ih=>
  intro i hi h1 ⟨x,h2⟩;unfold Yv;cases i with
  |zero=>simp at h2;rw[iJ (by rw[h2])]
  |succ i=>rw[iQ (h1 0 omQ c rfl),ih (by simpa using hi) (λj hj c' mw=>h1 (j+1) omQ c' (by simpa using mw)) ⟨x,by simpa using h2⟩];rfl
theorem qG7 {p:Int}:∀{l:List Cl},(∀c∈l,c.1≠p)→Yv p l=none:=by
 intro l
 induction l with
 |nil=>intro _;rfl
 |cons c l ih=>intro h;unfold Yv;rw[iQ (h c (iK ..)),ih λc' mw=>h c' (iX _ mw)];rfl
theorem Yr {p v:Int} {l:List Cl}:(yP p v l).length=if zW p l=none then l.length+1 else l.length:=by
 induction l with
 |nil=>simp[yP,zW]
 |cons c l ih=>
  unfold yP zW
  split
  ·simp
  ·rw[List.length_cons,ih]
   split<;>simp
theorem K7 {p q v:Int} {l:List Cl}:zW q (yP p v l)=if q=p then some v else zW q l:=by
 induction l with
 |nil=>
  simp only[yP,zW];by_cases h:p=q
  ·simp[h]
  ·rw[iQ h,iQ (λh'=>h h'.symm)]
 |cons c l ih=>
  unfold yP
  split
  ·rename_i hc;simp only[zW];by_cases h:p=q
   ·simp[h]
   ·rw[iQ h,iQ (λh'=>h h'.symm),iQ (by rw[hc];exact h)]
  ·rename_i hc;simp only[zW,ih];by_cases h:c.1=q
   ·rw[iJ h,iJ h,iQ (by rintro rfl;exact hc h)]
   ·rw[iQ h,iQ h]
def nP (l:List Cl):Prop:=∀c∈l,1≤c.1∧c.1<256
theorem nP.put {l:List Cl} {p v:Int} (h:nP l) (hp:1≤p∧p<256):nP (yP p v l):=by
 induction l with
 |nil=>intro c hc;simp[yP]at hc;subst hc;exact hp
 |cons a l ih=>
  unfold yP
  split
  ·intro c hc;rcases List.mem_cons.1 hc with rfl |hc
   ·exact hp
   ·exact h c (iX _ hc)
  ·intro c hc;rcases List.mem_cons.1 hc with rfl |hc
   ·exact h _ (iK ..)
   ·exact ih (λc hc=>h c (iX _ hc)) c hc
def nk (l:List Cl):Prop:=(l.map (·.1)).Nodup
theorem Of {p:Int} {l:List Cl}:zW p l=none↔p∉l.map (·.1):=by
 induction l with
 |nil=>simp[zW]
 |cons c l ih=>
  unfold zW
  split
  ·rename_i h;simp[h]
  ·rename_i h;rw[ih,List.map_cons,List.mem_cons,not_or];exact⟨λh'=>⟨λh2=>h h2.symm,h'⟩,λh'=>h'.2⟩
theorem qGd {p v:Int} {l:List Cl}:(yP p v l).map (·.1)=if zW p l=none then l.map (·.1)++[p]else l.map (·.1):=by
 induction l with
 |nil=>simp[yP,zW]
 |cons c l ih=>
  unfold yP zW
  split
  ·rename_i h;simp[h]
  ·rw[List.map_cons,ih]
   split<;>simp
theorem nk.put {l:List Cl} {p v:Int} (h:nk l):nk (yP p v l):=by
 unfold nk;rw[qGd]
 split
 ·rename_i hp;rw[Of]at hp;rw[List.nodup_append];exact⟨h,by simp,λa ha b hb=>by rw[List.mem_singleton]at hb;subst hb;rintro rfl;exact hp ha⟩
 ·exact h
theorem qWl {l:List Cl}:∀{cs:List Cl},nk cs→(∀c∈cs,zW c.1 l=none)→yF l cs=l++cs:=by
 intro cs
 induction cs generalizing l with
 |nil=>intro _ _;simp[yF]
 |cons c cs ih=>
  intro hu hn;have uX:nk cs:=(List.nodup_cons.1 hu).2;have hc:c.1∉cs.map (·.1):=(List.nodup_cons.1 hu).1;show yF (yP c.1 c.2 l) cs=_
  rw[ih uX (λd hd=>by
   rw[K7,iQ (by rintro h;exact hc (by rw[← h];exact List.mem_map_of_mem hd))]
   exact hn d (iX _ hd)),Qf (hn c (iK ..)),List.append_assoc]
  rfl
theorem MZ {cs:List Cl} (h:nk cs):yF [] cs=cs:=by rw[qWl h (λ_ _=>rfl),List.nil_append]
def Xc (m:Nat) (l:List Cl) (p v:Int):Int×List Cl :=
 if p<1∨256≤p then(2,l)else if zW p l=none∧m≤l.length then(5,l)else(0,yP p v l)
def XK (m:Nat) (l:List Cl):List Cl→Int×List Cl
 |[]=>(0,l)
 |c::cs=>if(Xc m l c.1 c.2).1=0 then XK m (Xc m l c.1 c.2).2 cs else Xc m l c.1 c.2
theorem qZI {m:Nat} {l:List Cl} {c:Cl} {cs:List Cl}:XK m l (c::cs)=if(Xc m l c.1 c.2).1=0 then XK m (Xc m l c.1 c.2).2 cs else Xc m l c.1 c.2:=rfl
theorem YP {m:Nat}:∀{cs l:List Cl},nP cs→l.length+cs.length≤m→XK m l cs=(0,yF l cs):=by
 intro cs
 induction cs with
 |nil=>intro l _ _;rfl
 |cons c cs ih=>
  intro l hi hl;have hc:=hi c (iK ..);have hp:Xc m l c.1 c.2=(0,yP c.1 c.2 l):=by unfold Xc;rw[iQ omQ,iQ (by simp at hl;omega)]
  unfold XK
  rw[hp,iJ rfl,ih (λd hd=>hi d (iX _ hd)) (by
   have:=Yr (p:=c.1) (v:=c.2) (l:=l);simp at hl;show(yP c.1 c.2 l).length+cs.length≤m
   split at this<;>omega)]
  rfl
abbrev bz:Type:=List Cl×List Int
def Yp (p:Int):List bz→Option Int
 |[]=>none
 |x::r=>match zW p x.1 with |some v=>some v |none=>Yp p r
def yU (lv:List bz):Nat:=(lv.map λx=>x.1.length).sum
def jA (lv:List bz):List Cl:=lv.foldl (λout x=>yF x.1 out) []
def vK (lv:List bz):List Int:=lv.reverse.flatMap (·.2)
structure eJ (most:Nat) (lv:List bz):Prop where
  held:yU lv≤most
  le:most≤96
  ins:∀x∈lv,nP x.1
  un:∀x∈lv,nk x.1
  one:1≤lv.length
  deep:lv.length≤6
def vL (most:Nat) (lv:List bz) (p v:Int):Int×List bz :=
 match lv with
 |[]=>(0,[])
 |x::r=>if p<1∨256≤p then(2,lv)else if zW p x.1=none∧most≤yU lv then(5,lv)else(0,(yP p v x.1,x.2)::r)
def vq (most:Nat) (aR lv:List bz):List Cl→Int×List bz
 |[]=>(0,lv)
 |c::cs=>if(vL most lv c.1 c.2).1=0 then vq most aR (vL most lv c.1 c.2).2 cs else((vL most lv c.1 c.2).1,aR)
def km (lv:List bz):Int×List bz:=if 6≤lv.length then(9,lv)else(0,([],[])::lv)
def ki (lv:List bz):Int×List bz:=if lv.length=1 then(10,lv)else(0,lv.tail)
def Qh (lv:List bz):Int×List bz:=match lv with
 |x::y::r=>(0,(yF y.1 x.1,y.2++x.2)::r)
 |_=>(10,lv)
def Ji (lv:List bz) (b:Int):List bz:=match lv with
 |x::r=>(x.1,x.2++[b])::r
 |[]=>[]
theorem vP {most:Nat} {aR lv:List bz} {c:Cl} {cs:List Cl}:vq most aR lv (c::cs)=if(vL most lv c.1 c.2).1=0 then vq most aR (vL most lv c.1 c.2).2 cs else((vL most lv c.1 c.2).1,aR):=rfl
theorem zr {x:bz} {r:List bz}:yU (x::r)=x.1.length+yU r:=by simp[yU]
theorem NQ {most:Nat} {lv:List bz} {p v:Int} (O:eJ most lv):eJ most (vL most lv p v).2∧(vL most lv p v).2.length=lv.length:=by
 cases lv with
 |nil=>have:=O.one;simp at this
 |cons x r=>
  unfold vL;dsimp only
  split
  ·exact⟨O,rfl⟩
  ·rename_i hp
   split
   ·exact⟨O,rfl⟩
   ·rename_i h1;have hh:=O.held;rw[zr]at hh;refine⟨⟨?_,O.le,?_,?_,by simp,O.deep⟩,rfl⟩
    ·show yU ((yP p v x.1,x.2)::r)≤most;rw[zr,Yr]
     split
     ·rename_i h2;rw[zr]at h1;have:¬most≤x.1.length+yU r:=λh3=>h1 ⟨h2,h3⟩;omega
     ·exact hh
    ·intro y hy;rcases List.mem_cons.1 hy with rfl |hy
     ·exact(O.ins x (iK ..)).put omQ
     ·exact O.ins y (iX _ hy)
    ·intro y hy;rcases List.mem_cons.1 hy with rfl |hy
     ·exact(O.un x (iK ..)).put
     ·exact O.un y (iX _ hy)
theorem O9 {most:Nat} {aR:List bz} (W:eJ most aR):∀{cs:List Cl} {lv:List bz},eJ most lv→lv.length=aR.length→eJ most (vq most aR lv cs).2∧(vq most aR lv cs).2.length=aR.length:=by
 intro cs
 induction cs with
 |nil=>intro lv O hl;exact⟨O,hl⟩
 |cons c cs ih=>
  intro lv O hl;unfold vq
  split
  ·exact ih (NQ O).1 ((NQ O).2.trans hl)
  ·exact⟨W,rfl⟩
theorem qjp {most:Nat} {lv:List bz} (O:eJ most lv):eJ most (km lv).2:=by
 unfold km
 split
 ·exact O
 ·refine⟨by rw[zr];have:=O.held;simpa using this,O.le,?_,?_,by simp,by simp;omega⟩
  ·intro y hy;rcases List.mem_cons.1 hy with rfl |hy
   ·intro c hc;cases hc
   ·exact O.ins y hy
  ·intro y hy;rcases List.mem_cons.1 hy with rfl |hy
   ·exact List.nodup_nil
   ·exact O.un y hy
theorem qqc {most:Nat} {lv:List bz} (O:eJ most lv):eJ most (ki lv).2:=by
 unfold ki
 split
 ·exact O
 ·rename_i h1;cases lv with
  |nil=>have:=O.one;simp at this
  |cons x r=>
   have hh:=O.held;have h2:=O.deep;rw[zr]at hh;simp at h1 h2;refine⟨by show yU r≤most;omega,O.le,λy hy=>O.ins y (iX _ hy),λy hy=>O.un y (iX _ hy),?_,by show r.length≤6;omega⟩;show 1≤r.length;cases r with
   |nil=>simp at h1
   |cons _ _=>simp
theorem Kd:∀{cs l:List Cl},(yF l cs).length≤l.length+cs.length:=by
 intro cs
 induction cs with
 |nil=>intro l;exact Nat.le_refl _
 |cons c cs ih=>
  intro l;have:=ih (l:=yP c.1 c.2 l);have h2:=Yr (p:=c.1) (v:=c.2) (l:=l);show(yF (yP c.1 c.2 l) cs).length≤_;rw[List.length_cons]
  split at h2<;>omega
theorem nP.nQ:∀{cs l:List Cl},nP l→nP cs→nP (yF l cs):=by
 intro cs
 induction cs with
 |nil=>intro l h _;exact h
 |cons c cs ih=>intro l h hc;exact ih (h.put (hc c (iK ..))) λd hd=>hc d (iX _ hd)
theorem nk.nQ:∀{cs l:List Cl},nk l→nk (yF l cs):=by
 intro cs
 induction cs with
 |nil=>intro l h;exact h
 |cons c cs ih=>intro l h;exact ih h.put
theorem qjd {most:Nat} {lv:List bz} (O:eJ most lv):eJ most (Qh lv).2:=by
 match lv,O with
 |[],O=>exact O
 |[x],O=>exact O
 |x::y::r,O=>
  have hh:=O.held;have h2:=O.deep;rw[zr,zr]at hh;have:=Kd (cs:=x.1) (l:=y.1);refine⟨by show yU ((yF y.1 x.1,y.2++x.2)::r)≤most;rw[zr];dsimp only;omega,O.le,?_,?_,by simp[Qh],by simp[Qh]at h2 ⊢;omega⟩
  ·intro z hz;rcases List.mem_cons.1 hz with rfl |hz
   ·exact(O.ins y aN).nQ (O.ins x aN)
   ·exact O.ins z (by simp[hz])
  ·intro z hz;rcases List.mem_cons.1 hz with rfl |hz
   ·exact(O.un y aN).nQ
   ·exact O.un z (by simp[hz])
theorem qYf {most:Nat} {lv:List bz} {b:Int} (O:eJ most lv):eJ most (Ji lv b):=by
 cases lv with
 |nil=>exact O
 |cons x r=>
  refine⟨O.held,O.le,?_,?_,by simp[Ji],O.deep⟩
  ·intro z hz;rcases List.mem_cons.1 hz with rfl |hz
   ·exact O.ins x aN
   ·exact O.ins z (by simp[hz])
  ·intro z hz;rcases List.mem_cons.1 hz with rfl |hz
   ·exact O.un x aN
   ·exact O.un z (by simp[hz])
end
section
variable {g h:AH} {L R:List SP}
def dc (w m:Nat) (l:List Cl):SP:=.ex λv=>.all [qA w [.int .i64 (m:Int),v],qB 164 2 l.length v (l.flatMap jI)]
theorem dc.E {w m:Nat} {l:List Cl} (H:HS g h (dc w m l::R)):∃v,HS g h (qA w [.int .i64 (m:Int),v]::qB 164 2 l.length v (l.flatMap jI)::R):=by obtain⟨v,H⟩:=H.dU;exact⟨v,H.b9⟩
theorem dc.I {w m:Nat} {l:List Cl} {v:AV} (H:HS g h (qA w [.int .i64 (m:Int),v]::qB 164 2 l.length v (l.flatMap jI)::R)):HS g h (dc w m l::R) :=
 HS.ei v (HS.allI H)
theorem qQA (l:List Cl):qn (l.flatMap jI)=true:=by unfold qn;rw[List.all_eq_true];intro v hv;obtain⟨c,_,hc⟩:=List.mem_flatMap.1 hv;simp[jI]at hc;rcases hc with rfl |rfl<;>rfl
theorem GZ {l:List Cl} {i:Nat} {c:Cl} (h:l[i]? =some c):((l.flatMap jI).drop (i*2)).take 2=jI c:=by obtain⟨hi,e⟩:=List.getElem?_eq_some_iff.1 h;rw[XW (sz:=2) jI (λ_=>rfl),List.drop_eq_getElem_cons hi,e,List.flatMap_cons];rfl
theorem qq7 {l:List Cl} {i:Nat} {p x v:Int} (h:l[i]? =some (p,x)):(l.flatMap jI).set (i*2+1) (.int .u64 v)=(l.set i (p,v)).flatMap jI:=by
 have hi:=(List.getElem?_eq_some_iff.1 h).1;apply List.ext_getElem?;intro j;have hd:j=j/2*2+j%2:=by omega
 have hm:j%2<2:=by omega
 rw[List.getElem?_set,Ye (sz:=2) jI (λ_=>rfl)];have e1:=J6 (sz:=2) jI (λ_=>rfl) l (j/2) (j%2) hm;have e2:=J6 (sz:=2) jI (λ_=>rfl) (l.set i (p,v)) (j/2) (j%2) hm;rw[← hd]at e1 e2;rw[e1,e2,List.getElem?_set];by_cases h1:i*2+1=j
 ·have:j/2=i:=by omega
  have h3:j%2=1:=by omega
  rw[iJ h1,iJ omQ,iJ this.symm,iJ hi,h3];rfl
 ·rw[iQ h1];by_cases h2:i=j/2
  ·have h3:j%2=0:=by omega
   rw[iJ h2,iJ hi,h3,← h2,h];rfl
  ·rw[iQ h2]
def zI (o:Option Nat):Int:=match o with |some i=>(i:Int) |none=>-1
theorem Nc {n:Nat} (hn:1≤n) {m:Nat} (hm:m≤96) (H:HS g h R):aA n 156 [.int .i64 (m:Int)] h λv h'=>∃w,v=.ptr w 0∧HS g h' (dc w m []::R):=by
 refine ay (S:=S156) rfl omQ λk hk=>?_;unfold S156;try simp only[iZ]
 refine zk (zn (qM rfl (qO H rfl λw h2 H2=>qG ⟨w,rfl,?_⟩)));rw[show max ((0:Nat):Int) (min (m:Int) ((96:Nat):Int))=(m:Int) by omega]at H2;exact dc.I ((H2.ak (e:=164) (sz:=2)).aG (P:=qA w [.int .i64 (m:Int),.ak]) e_1 :)
theorem qK7 {n:Nat} (hn:2≤n) {p:Int} {v:AV} {c0:Nat} {l:List Cl} (H:HS g h L) (S:Rd g L 2 l.length v (l.flatMap jI)) (s:aZ L (qA c0 [.int .i64 p]) R) (hl:l.length<1000000) :
  aA n 291 [v,.fn 292 [] [.ptr c0 0]] h λv h'=>v=.int .i64 (zI (Yv p l))∧HS g h' L:=by
 refine ba (S:=S291) rfl omQ λk hk=>?_;unfold S291;try simp only[iZ]
 refine x5 (S.sl H) ?_
 refine(jL (λm s h'=>∃i:Nat,s=(.int .i64 (i:Int),.int .i64 (l.length:Int),.fn 292 [] [.ptr c0 0],v,())∧i≤l.length∧m=l.length-i∧HS g h' L∧
  (∀j,j<i→∀c,l[j]? =some c→c.1≠p)) ?_ (m:=l.length) (by show _<1000000000;omega) ⟨0,rfl,by omega,by omega,H,λj hj=>by omega⟩)
 rintro m ih s' h' bG ⟨i,rfl,h1,rfl,H,h2⟩;dsimp only;refine xw (λau=>qX ?_) λiu=>qJ (qk (qG ⟨?_,H⟩))
 ·have hi:i<l.length:=by omega
  have hc:l[i]? =some l[i]:=iW hi;refine zd (l:=jI l[i]) (S.sl H) hi omQ (GZ hc) ?_;refine qV (Q':=λv h2=>v=.bool (decide (l[i].1=p))∧HS g h2 L) (LN (g:=(bC S292)) rfl omQ λk hk=>?_) ?_
  ·show wp (S292 (callT tab qx k) _ _ _).1 _;unfold S292;try simp only[]
   refine qO H rfl λb h3 H3=>?_;refine qQ (qZ ‹_› .here rfl ?_);refine qZ H3 (.there s) rfl (J7 (qG ⟨rfl,H3.drop⟩))
  ·rintro _ h3 ⟨rfl,H3⟩;refine qk0 (λhe=>qk (qG ⟨?_,H3⟩)) λcS=>qb omQ ?_
   ·rw[qQd hi h2 ⟨l[i].2,by rw[hc,← he]⟩];rfl
   ·refine bG (l.length-(i+1)) _ _ omQ ⟨i+1,rfl,by omega,rfl,H3,λj hj c mw=>?_⟩;by_cases h4:j<i
    ·exact h2 j h4 c mw
    ·obtain rfl:j=i:=by omega
     rw[hc]at mw;cases mw;exact cS
 ·rw[qG7 λc hc=>?_]
  ·rfl
  ·obtain⟨j,hj⟩:=List.getElem?_of_mem hc;exact h2 j (by have:=(List.getElem?_eq_some_iff.1 hj).1;omega) c hj
theorem Z7 {n:Nat} (hn:3≤n) {w m:Nat} {l:List Cl} {p:Int} (H:HS g h (dc w m l::R)) (hl:l.length<1000000) :
  aA n 227 [.ptr w 0,.int .i64 p] h λv h'=>v=.int .i64 (zI (Yv p l))∧HS g h' (dc w m l::R):=by
 refine ba (S:=S227) rfl omQ λk hk=>?_;unfold S227;try simp only
 obtain⟨v,H⟩:=dc.E H;refine XB H ⟨rfl,rfl⟩ λc0 h2 H2=>?_;refine qK (qQ (qZ ‹_› e_1 rfl ?_));refine qV (qK7 (p:=p) omQ H2 (H2.rd e_2) .here hl) ?_;rintro _ h3 ⟨rfl,H3⟩;exact qG ⟨rfl,dc.I H3.drop⟩
theorem Pk {n:Nat} (hn:4≤n) {w m:Nat} {l:List Cl} {p:Int} (H:HS g h (dc w m l::R)) (hl:l.length<1000000) :
  aA n 224 [.ptr w 0,.int .i64 p] h λv h'=>v=.bM [.int .u64 ((zW p l).getD 0),.bool (zW p l).isSome]∧HS g h' (dc w m l::R):=by
 refine ba (S:=S224) rfl omQ λk hk=>?_;unfold S224;try simp only[iZ]
 refine qV (Z7 omQ H hl) ?_;rintro _ h3 ⟨rfl,H3⟩;cases hi:Yv p l with
 |none=>refine zK (by show¬((0:Nat):Int)≤ -1;omega) ?_;refine qJ ?_;exact qG ⟨by rw[MP.1 hi];rfl,H3⟩
 |some i=>obtain⟨h1,⟨x,h2,B9⟩,_⟩:=Mm hi;refine zx (by show((0:Nat):Int)≤(i:Int);omega) ?_;obtain⟨v,H4⟩:=dc.E H3;refine qX (qK (qQ (qZ ‹_› .here rfl ?_)));refine y4 (x:=.int .u64 x) (H4.sl e_1) omQ h1 ?_ (qG ⟨by rw[B9];rfl,H3⟩);rw[J6 (sz:=2) jI (λ_=>rfl) _ _ _ omQ,h2];rfl
theorem Pm {n:Nat} (hn:4≤n) {w m:Nat} {l:List Cl} {p x:Int} (H:HS g h (dc w m l::R)) (hl:l.length<1000000) :
  aA n 189 [.ptr w 0,.int .i64 p,.int .u64 x] h λv h'=>v=.int .i64 (Xc m l p x).1∧HS g h' (dc w m (Xc m l p x).2::R):=by
 refine cL (S:=S189) rfl omQ λk hk=>?_;unfold S189;try simp only[iZ]
 unfold Xc;by_cases hp:p<1∨256≤p
 ·rw[iJ hp]
  repeat' (first |with_reducible refine qX ?_ |with_reducible refine qJ ?_ |(with_reducible refine qa ?_;try dsimp only) |(with_reducible refine jJ ?_;try dsimp only) |(with_reducible refine qU ?_;try dsimp only) |(with_reducible refine qd ?_;try dsimp only) |(with_reducible refine zF ?_;try dsimp only) |with_reducible refine qH ?_ |with_reducible refine qI ?_ |(with_reducible refine qW ?_;try dsimp only) |with_reducible refine qk ?_ |with_reducible refine jY ?_ |with_reducible refine jB ?_ |with_reducible refine qb omQ ?_ |with_reducible refine zD omQ ?_ |with_reducible refine yv omQ ?_ |with_reducible refine gV omQ ?_ |with_reducible refine zk ?_ |with_reducible refine zn ?_ |with_reducible refine qg omQ ?_ |with_reducible refine qj omQ ?_ |with_reducible refine jQ omQ ?_ |with_reducible refine qs omQ ?_ |with_reducible refine jF omQ ?_ |with_reducible refine jV omQ ?_ |with_reducible refine JK omQ ?_ |with_reducible refine Xw omQ ?_ |with_reducible refine vQ omQ ?_ |with_reducible refine yQ omQ ?_ |with_reducible refine zx omQ ?_ |with_reducible refine zK omQ ?_ |with_reducible refine xw (λhc=>?_) (λhc=>?_) |with_reducible refine kj (λhc=>?_) (λhc=>?_) |with_reducible refine QD (λhc=>?_) (λhc=>?_) |with_reducible refine yg (λhc=>?_) (λhc=>?_) |with_reducible refine gw (λhc=>?_) (λhc=>?_) |with_reducible refine vA (λhc=>?_) (λhc=>?_) |with_reducible refine wa (λhc=>?_) (λhc=>?_))
  all_goals exact qG ⟨rfl,H⟩
 rw[iQ hp];refine jV omQ ?_;refine qW ?_;(try dsimp only);refine qd ?_;(try dsimp only);refine zK omQ ?_;refine qI (qJ ?_)
 refine qV (Z7 omQ H hl) ?_;rintro _ h3 ⟨rfl,H3⟩;cases hi:Yv p l with
 |none=>
  refine zK (by show¬((0:Nat):Int)≤ -1;omega) ?_;have hg:=MP.1 hi;obtain⟨v,H4⟩:=dc.E H3;refine qJ (qK (qQ (qZ ‹_› .here rfl ?_)));refine qo ‹_› e_1 ?_;refine qK (qQ (qZ ‹_› .here rfl ?_));by_cases hf:m≤l.length
  ·rw[iJ ⟨hg,hf⟩];refine zx omQ ?_;refine qX ?_;exact qG ⟨rfl,H3⟩
  ·rw[iQ (λh=>hf h.2)];refine zK omQ ?_;refine qJ (qK (qQ (qZ ‹_› .here rfl ?_)));refine qM rfl ?_;refine qm (sz:=2) (l:=[.int .i64 p,.int .u64 x]) H4 rfl rfl rfl rfl λv5 h5 H5=>?_;refine ja (H5.aG e_2) (H5.sl .here) omQ omQ rfl λv6 h6 H6=>?_;refine qK (qQ (qw H6 e_2 (H6.one .here) aN λh7 H7=>qG ⟨rfl,dc.I (v:=v6) ?_⟩));rw[Qf hg,List.flatMap_append,List.length_append];exact H7.sub (.cons .here (.cons .here (.drop (.refl))))
 |some i=>obtain⟨h1,⟨y,h2,B9⟩,h5⟩:=Mm hi;refine zx (by show((0:Nat):Int)≤(i:Int);omega) ?_;obtain⟨v,H4⟩:=dc.E H3;refine qX (qK (qQ (qZ ‹_› .here rfl ?_)));rw[iQ (λh=>by rw[B9]at h;cases h.1)];refine qwl (H4.aG e_1) h1 omQ ⟨rfl,rfl⟩ λh6 H6=>qG ⟨rfl,dc.I (v:=v) ?_⟩;rw[qq7 h2]at H6;dsimp only;rw[h5,List.length_set];exact H6.sub (.cons e_1 (.refl))
theorem Pn {n:Nat} (hn:1≤n) {v:AV} {l:List Cl} (H:HS g h L) (s:aZ L (qB 164 2 l.length v (l.flatMap jI)) R) (hl:l.length<1000000) :
  aA n 86 [v] h λv' h'=>HS g h' (qB 164 2 l.length v' (l.flatMap jI)::L):=by
 refine ay (S:=S86) rfl omQ λk hk=>?_;unfold S86;try simp only[iZ]
 refine QY H s (λ_ h0=>qX (qG ?_)) (qJ ?_)
 ·have:=iA h0;subst this;exact H.ak
 ·refine qm (n:=0) (l:=[]) (sz:=2) H rfl rfl rfl rfl λv2 h2 H2=>?_;refine ja H2 (H2.sl (.there s)) omQ omQ (qQA l) λv3 h3 H3=>qG ?_;rw[Nat.zero_add,List.nil_append]at H3;exact H3
theorem Yi {n:Nat} (hn:2≤n) {w m:Nat} {l:List Cl} (H:HS g h (dc w m l::R)) (hl:l.length<1000000) :
  aA n 158 [.ptr w 0] h λv h'=>HS g h' (qB 164 2 l.length v (l.flatMap jI)::dc w m l::R):=by
 refine ay (S:=S158) rfl omQ λk hk=>?_;unfold S158;try simp only
 obtain⟨v,H⟩:=dc.E H;refine qK (qQ (qZ ‹_› .here rfl ?_));refine qV (Pn omQ H e_1 hl) λv3 h3 H3=>qG ?_;have:=dc.I (v:=v) (w:=w) (m:=m) (l:=l) (H3.sub (L':=_::_::qB 164 2 l.length v3 (l.flatMap jI)::R) (.cons e_1 (.cons e_1 .refl)));exact this.sub (.cons e_1 (.refl))
theorem qvR {n:Nat} (hn:1≤n) {w m:Nat} {l:List Cl} (H:HS g h (dc w m l::R)) :
  aA n 321 [.ptr w 0] h λv h'=>v=.int .i64 (l.length:Int)∧h'=h:=by
 refine ay (S:=S321) rfl omQ λk hk=>?_;unfold S321;try simp only
 obtain⟨v,H⟩:=dc.E H;refine qK (qQ (qZ ‹_› .here rfl ?_));refine qo ‹_› e_1 ?_;exact qG ⟨rfl,rfl⟩
def w6 (m:Nat) (l cs:List Cl):Int×List Cl:=if(XK m l cs).1=0 then XK m l cs else((XK m l cs).1,l)
theorem YI {n:Nat} (hn:5≤n) {w m:Nat} {l cs:List Cl} {c:AV} (H:HS g h (dc w m l::R)) (S:Rd g R 2 cs.length c (cs.flatMap jI)) (hl:l.length<100000) (hc:cs.length<100000) :
  aA n 157 [.ptr w 0,c] h λv h'=>v=.int .i64 (w6 m l cs).1∧HS g h' (dc w m (w6 m l cs).2::R):=by
 refine ba (S:=S157) rfl omQ λk hk=>?_;unfold S157;try simp only[iZ]
 refine qV (Yi omQ H omQ) λv0 h1 H1=>?_;refine x5 (S.sl H1.drop.drop) ?_
 refine jL (λk s h'=>∃(i:Nat) (l':List Cl),s=(.int .i64 (i:Int),.int .i64 (cs.length:Int),c,v0,.ptr w 0,())∧i≤cs.length∧k=cs.length-i∧l'.length≤l.length+i∧
  HS g h' (dc w m l'::qB 164 2 l.length v0 (l.flatMap jI)::R)∧XK m l cs=XK m l' (cs.drop i)) ?_ (m:=cs.length) (by show _<1000000000;omega) ⟨0,l,rfl,by omega,by omega,by omega,H1.sub (.cons e_1 (.refl)),rfl⟩
 rintro k ih s h2 bG ⟨i,l',rfl,h1,rfl,dO,H,hT⟩;dsimp only;refine xw (λau=>qX ?_) λiu=>qJ (qk (qG ?_))
 ·have hi:i<cs.length:=by omega
  have pp:cs[i]? =some cs[i]:=iW hi;refine zd (l:=jI cs[i]) (S.sl H.drop.drop) hi omQ (GZ pp) ?_;refine qO H rfl λb h3 H3=>qh H3 .here rfl (by show 0+2≤2;omega) rfl λh4 H4=>?_;have H5:HS g h4 (qA b (jI cs[i])::dc w m l'::qB 164 2 l.length v0 (l.flatMap jI)::R):=H4;unfold jI at H5;refine qQ (qZ ‹_› .here rfl ?_);refine qQ (qZ ‹_› .here rfl ?_);refine qV (Pm omQ H5.drop omQ) ?_;rintro _ h6 ⟨rfl,H6⟩;rw[List.drop_eq_getElem_cons hi,qZI]at hT;refine vA (λcS=>qX ?_) λhe=>qJ (qb omQ ?_)
  ·have cS:¬(Xc m l' cs[i].1 cs[i].2).1=0:=by simpa using cS
   rw[iQ cS]at hT;obtain⟨v7,H7⟩:=dc.E H6;refine qK (qQ (qw H7 .here (H7.one e_2) aN λh8 H8=>qk (qG ?_)));unfold w6;rw[hT,iQ cS];exact⟨rfl,dc.I (v:=v0) (H8.sub (.cons .here (.cons e_1 (.drop .refl))))⟩
  ·have F8:(Xc m l' cs[i].1 cs[i].2).1=0:=by simpa using he
   rw[iJ F8]at hT;refine bG (cs.length-(i+1)) _ _ omQ ⟨i+1,_,rfl,by omega,rfl,?_,H6,hT⟩;have:=Yr (p:=cs[i].1) (v:=cs[i].2) (l:=l');unfold Xc
   repeat' split
   all_goals dsimp only
   all_goals first |omega |(split at this<;>omega)
 ·rw[List.drop_of_length_le omQ]at hT;have hT:XK m l cs=(0,l'):=hT;unfold w6;rw[hT,iJ rfl];exact⟨rfl,H.sub (.cons .here (.drop .refl))⟩
end
section
variable {g h:AH} {L R:List SP}
def cM (a:Nat) (x:bz):SP:=.ex λw=>.ex λfv=>.all [qA a [.ptr w 0,fv],dc w 96 x.1,qB 3 1 x.2.length fv (x.2.map (.int .i64))]
theorem cM.E {a:Nat} {x:bz} (H:HS g h (cM a x::R)):∃w fv,HS g h (qA a [.ptr w 0,fv]::dc w 96 x.1::qB 3 1 x.2.length fv (x.2.map (.int .i64))::R):=by obtain⟨w,H⟩:=H.dU;obtain⟨fv,H⟩:=H.dU;exact⟨w,fv,H.b9⟩
theorem cM.I {a w:Nat} {fv:AV} {x:bz} (H:HS g h (qA a [.ptr w 0,fv]::dc w 96 x.1::qB 3 1 x.2.length fv (x.2.map (.int .i64))::R)):HS g h (cM a x::R) :=
 HS.ei w (HS.ei fv (HS.allI H))
def xc (ps:List Nat):List AV:=ps.reverse.map λa=>.ptr a 0
def bR (q most:Nat) (lv:List bz):SP:=.ex λv=>.ex λps:List Nat=>.all (.fg (ps.length=lv.length)::qA q [.int .i64 (most:Int),v]::qB 230 1 lv.length v (xc ps)::List.zipWith cM ps lv)
theorem bR.E {q most:Nat} {lv:List bz} (H:HS g h (bR q most lv::R)):∃v ps,ps.length=lv.length∧HS g h (qA q [.int .i64 (most:Int),v]::qB 230 1 lv.length v (xc ps)::(List.zipWith cM ps lv++R)):=by obtain⟨v,H⟩:=H.dU;obtain⟨ps,H⟩:=H.dU;obtain⟨e,H⟩:=HS.dZ (H.b9);exact⟨v,ps,e,H⟩
theorem bR.I {q most:Nat} {lv:List bz} {v:AV} {ps:List Nat} (e:ps.length=lv.length) (H:HS g h (qA q [.int .i64 (most:Int),v]::qB 230 1 lv.length v (xc ps)::(List.zipWith cM ps lv++R))):HS g h (bR q most lv::R) :=
 HS.ei v (HS.ei ps (HS.allI (HS.eH e H)))
theorem bR.E1 {q most:Nat} {x:bz} {r:List bz} (H:HS g h (bR q most (x::r)::R)):∃v a ps,ps.length=r.length∧HS g h (qA q [.int .i64 (most:Int),v]::qB 230 1 (r.length+1) v (xc (a::ps))::cM a x::(List.zipWith cM ps r++R)):=by
 obtain⟨v,ps,e,H⟩:=bR.E H;cases ps with
 |nil=>simp at e
 |cons a ps=>exact⟨v,a,ps,by simpa using e,H⟩
theorem bR.I1 {q most:Nat} {x:bz} {r:List bz} {v:AV} {a:Nat} {ps:List Nat} (e:ps.length=r.length) (H:HS g h (qA q [.int .i64 (most:Int),v]::qB 230 1 (r.length+1) v (xc (a::ps))::cM a x::(List.zipWith cM ps r++R))):HS g h (bR q most (x::r)::R) :=
 bR.I (ps:=a::ps) (by simp[e]) H
theorem qQU (a:Nat) (ps:List Nat):(xc (a::ps))[ps.length]? =some (.ptr a 0):=by unfold xc;rw[List.reverse_cons,List.map_append,List.getElem?_append_right aN];simp
theorem GY {ps:List Nat} {i:Nat} (hi:i<ps.length):(xc ps)[i]? =(ps[ps.length-1-i]?).map λa=>.ptr a 0:=by unfold xc;rw[List.getElem?_map,List.getElem?_reverse hi]
theorem KD {ps:List Nat}:∀{lv:List bz} {i a:Nat} {x:bz},ps[i]? =some a→lv[i]? =some x→∃T,aZ (List.zipWith cM ps lv++R) (cM a x) T:=by
 induction ps with
 |nil=>intro lv i a x h;simp at h
 |cons b ps ih=>
  intro lv i a x h1 h2;cases lv with
  |nil=>simp at h2
  |cons y lv=>
   cases i with
   |zero=>simp at h1 h2;subst h1;subst h2;exact⟨_,.here⟩
   |succ i=>obtain⟨T,s⟩:=ih (lv:=lv) (i:=i) (by simpa using h1) (by simpa using h2);exact⟨_,.there s⟩
theorem YX {n q:Nat} (hn:1≤n) {m v:AV} {a:Nat} {ps:List Nat} {R1 R2:List SP} {e:TypeId} (H:HS g h L) (s1:aZ L (qA q [m,v]) R1) (s2:aZ L (qB e 1 (ps.length+1) v (xc (a::ps))) R2) (hl:ps.length<1000000) :
  aA n 225 [.ptr q 0] h λr h'=>r=.ptr a 0∧h'=h:=by
 refine ay (S:=S225) rfl omQ λk hk=>?_;unfold S225;try simp only[iZ]
 refine qK (qQ (qZ H s1 rfl (qK (qQ (qZ H s1 rfl (qo H s2 (zD omQ ?_)))))));rw[show((ps.length+1:Nat):Int)-((1:Nat):Int)=((ps.length:Nat):Int) by omega];exact jd (H.sl s2) (qQU a ps) (qG ⟨rfl,rfl⟩)
theorem Mn {n:Nat} (hn:2≤n) (H:HS g h R):aA n 173 [] h λv h'=>∃a,v=.ptr a 0∧HS g h' (cM a ([],[])::R):=by
 refine ub (S:=S173) rfl omQ λk hk=>?_;unfold S173;try simp only[iZ]
 refine qV (Nc (m:=96) omQ omQ H) ?_;rintro _ h2 ⟨w,rfl,H2⟩;refine qM rfl (qO H2 rfl λa h3 H3=>qG ⟨a,rfl,?_⟩);exact cM.I (w:=w) (fv:=.ak) ((H3.ak (e:=3) (sz:=1)).sub (.cons e_1 (.cons e_1 (.cons .here (.refl)))))
theorem qxd {n:Nat} (hn:3≤n) {m:Int} (H:HS g h R):aA n 142 [.int .i64 m] h λv h'=>∃q,v=.ptr q 0∧HS g h' (bR q (max 0 (min m 96)).toNat [([],[])]::R):=by
 refine ay (S:=S142) rfl omQ λk hk=>?_;unfold S142;try simp only[iZ]
 refine zk (zn (qV (Mn omQ H) ?_));rintro _ h2 ⟨a,rfl,H2⟩;refine qm (n:=1) (l:=[.ptr a 0]) (sz:=1) H2 rfl rfl rfl rfl λv h3 H3=>?_;have h1:=H3.one .here;refine qM (l:=[.int .i64 (max ((0:Nat):Int) (min m ((96:Nat):Int))),v]) (by simp only[yV,h1.1];rfl) ?_;refine qO H3 (by show(true&&(v.one&&true))=true;rw[h1.2];rfl) λq h4 H4=>qG ⟨q,rfl,?_⟩;refine bR.I1 (v:=v) (a:=a) (ps:=[]) rfl ?_;rw[show(((max 0 (min m 96)).toNat:Nat):Int)=max ((0:Nat):Int) (min m ((96:Nat):Int)) by omega];exact H4
theorem qWF {n q most:Nat} (hn:2≤n) {lv:List bz} {b:Int} (H:HS g h (bR q most lv::R)) (O:eJ most lv) (hf:∀x∈lv,x.2.length<1000000) :
  aA n 319 [.ptr q 0,.int .i64 b] h λ_ h'=>HS g h' (bR q most (Ji lv b)::R):=by
 cases lv with
 |nil=>have:=O.one;simp at this
 |cons x r=>
 refine ba (S:=S319) rfl omQ λk hk=>?_;unfold S319;try simp only[iZ]
 obtain⟨v,a,ps,e,H⟩:=bR.E1 H;rw[← e]at H;refine qV (YX omQ H .here e_1 (by have:=O.deep;simp at this;omega)) ?_;rintro _ _ ⟨rfl,rfl⟩;obtain⟨w,fv,H2⟩:=cM.E (H.aG e_2);refine qK (qQ (qZ ‹_› .here rfl ?_));refine qm (n:=1) (l:=[.int .i64 b]) (sz:=1) H2 rfl rfl rfl rfl λv3 h3 H3=>?_;have:=hf x (iK ..);refine ja (H3.aG (P:=qB 3 1 x.2.length fv (x.2.map (.int .i64))) e_3) (H3.sl .here) omQ omQ rfl λv4 h4 H4=>?_;refine qK (qQ (qw H4 e_2 (H4.one .here) aN λh5 H5=>qG ?_));refine bR.I1 (v:=v) (a:=a) (ps:=ps) e ?_;rw[← e];have:=cM.I (a:=a) (w:=w) (fv:=v4) (x:=(x.1,x.2++[b])) (R:=qA q [.int .i64 (most:Int),v]::qB 230 1 (ps.length+1) v (xc (a::ps))::(List.zipWith cM ps r++R))
  (by rw[List.map_append,List.length_append];exact H5.sub (.cons .here (.cons e_2 (.cons .here (.cons e_1 (.cons e_1 (.drop (.refl))))))))
 exact this.sub (.cons e_1 (.cons e_1 (.refl)))
theorem qGb {n q most:Nat} (hn:1≤n) {lv:List bz} (H:HS g h (bR q most lv::R)) (O:eJ most lv) (hf:(vK lv).length<1000000) :
  aA n 138 [.ptr q 0] h λv h'=>HS g h' (qB 3 1 (vK lv).length v ((vK lv).map (.int .i64))::bR q most lv::R):=by
 refine ay (S:=S138) rfl omQ λk hk=>?_;unfold S138;try simp only[iZ]
 have hd:=O.deep;obtain⟨v,ps,e,H⟩:=bR.E H;refine qK (qQ (qZ ‹_› .here rfl ?_));refine qo ‹_› e_1 ?_
 refine jL (λm s h'=>∃(i:Nat) (acc:AV),s=(.int .i64 (i:Int),.int .i64 (lv.length:Int),v,acc,())∧i≤lv.length∧m=lv.length-i∧
  HS g h' (qB 3 1 ((lv.reverse.take i).flatMap (·.2)).length acc (((lv.reverse.take i).flatMap (·.2)).map (.int .i64))::qA q [.int .i64 (most:Int),v]::qB 230 1 lv.length v (xc ps)::(List.zipWith cM ps lv++R)))
  ?_ (m:=lv.length) (by have:=O.deep;show _<1000000000;omega) ⟨0,.ak,rfl,by omega,by omega,H.ak⟩
 rintro m ih s h' bG ⟨i,acc,rfl,h1,rfl,H⟩;dsimp only;refine xw (λau=>qX ?_) λiu=>qJ (qk (qG ?_))
 ·have hi:i<lv.length:=by omega
  have ha:ps[ps.length-1-i]? =some (ps[ps.length-1-i]'omQ):=iW _;have hx:lv[ps.length-1-i]? =some (lv[ps.length-1-i]'omQ):=iW _;generalize ps[ps.length-1-i]'omQ=a at ha;have pZ:lv.reverse[i]? =some (lv[ps.length-1-i]'omQ):=by rw[List.getElem?_reverse hi,← hx,e]
  generalize lv[ps.length-1-i]'omQ=x at hx pZ;refine jd (H.sl e_2) (by rw[GY omQ,ha];rfl) ?_;obtain⟨T,s⟩:=KD (R:=R) ha hx;have H2:=H.aG (.there (.there (.there s)));obtain⟨w,fv,H3⟩:=cM.E H2;refine qK (qQ (qZ ‹_› .here rfl ?_));have hlen:((lv.reverse.take i).flatMap (·.2)).length+x.2.length≤(vK lv).length:=by
   have e1:lv.reverse.flatMap (·.2)=(lv.reverse.take (i+1)).flatMap (·.2)++(lv.reverse.drop (i+1)).flatMap (·.2):=by rw[← List.flatMap_append,List.take_append_drop]
   unfold vK;rw[e1,List.take_add_one,pZ];simp
  refine ja (H3.aG (P:=qB 3 1 ((lv.reverse.take i).flatMap (·.2)).length acc (((lv.reverse.take i).flatMap (·.2)).map (.int .i64))) e_3) (H3.sl e_2) omQ omQ ?_ λv4 h4 H4=>qb omQ ?_
  ·simp[qn,AV.one]
  refine bG (lv.length-(i+1)) _ _ omQ ⟨i+1,v4,rfl,by omega,rfl,?_⟩;rw[List.take_add_one,pZ,Option.toList_some,List.flatMap_append,List.map_append,List.length_append,List.flatMap_cons,List.flatMap_nil,List.append_nil];have H5:=cM.I (a:=a) (w:=w) (fv:=fv) (x:=x) (H4.sub (.cons e_1 (.cons e_1 (.cons e_1 .refl))));exact HS.bZ (.there (.there (.there s))) (H5.sub (.refl))
 ·obtain rfl:i=lv.length:=by omega
  rw[List.take_of_length_le aN]at H;exact(bR.I (v:=v) (ps:=ps) e (HS.back (A:=_::_::List.zipWith cM ps lv) H)).sub (.cons e_1 (.refl))
theorem Ca (l:List Nat):l.reverse.sum=l.sum:=by
 induction l with
 |nil=>rfl
 |cons a l ih=>rw[List.reverse_cons,List.sum_append,ih,List.sum_cons];simp[Nat.add_comm]
theorem qqS {n q most:Nat} (hn:2≤n) {lv:List bz} (H:HS g h (bR q most lv::R)) (O:eJ most lv) :
  aA n 290 [.ptr q 0] h λv h'=>v=.int .i64 ((most:Int)-(yU lv:Int))∧h'=h:=by
 refine ay (S:=S290) rfl omQ λk hk=>?_;unfold S290;try simp only[iZ]
 obtain⟨v,ps,e,H⟩:=bR.E H;have hh:=O.held;have hl:=O.le;have hd:=O.deep;refine qK (qQ (qZ ‹_› .here rfl ?_));refine qK (qQ (qZ ‹_› .here rfl ?_));refine qo ‹_› e_1 ?_;refine jL (λm s h'=>∃(i:Nat),s=(.int .i64 (i:Int),.int .i64 (lv.length:Int),v,.int .i64 ((most:Int)-(((lv.reverse.take i).map λx=>x.1.length).sum:Nat)),())∧i≤lv.length∧m=lv.length-i∧h'=h)
  ?_ (m:=lv.length) (by show _<1000000000;omega) ⟨0,by simp,by omega,by omega,rfl⟩
 rintro m ih s h' bG ⟨i,rfl,h1,rfl,rfl⟩;dsimp only;have uo:∀j,((lv.reverse.take j).map λx=>x.1.length).sum+((lv.reverse.drop j).map λx=>x.1.length).sum=yU lv:=by intro j;rw[← List.sum_append,← List.map_append,List.take_append_drop,List.map_reverse,Ca];rfl
 refine xw (λau=>qX ?_) λiu=>qJ (qk (qG ⟨?_,rfl⟩))
 ·have hi:i<lv.length:=by omega
  have ha:ps[ps.length-1-i]? =some (ps[ps.length-1-i]'omQ):=iW _;have hx:lv[ps.length-1-i]? =some (lv[ps.length-1-i]'omQ):=iW _;generalize ps[ps.length-1-i]'omQ=a at ha;have pZ:lv.reverse[i]? =some (lv[ps.length-1-i]'omQ):=by rw[List.getElem?_reverse hi,← hx,e]
  generalize lv[ps.length-1-i]'omQ=x at hx pZ;refine jd (H.sl e_1) (by rw[GY omQ,ha];rfl) ?_;obtain⟨T,s⟩:=KD (R:=R) ha hx;obtain⟨w,fv,H3⟩:=cM.E (H.aG (.there (.there s)));refine qK (qQ (qZ ‹_› .here rfl ?_));refine qV (qvR omQ (H3.aG e_1)) ?_;rintro _ _ ⟨rfl,rfl⟩;have h2:=uo i;have h3:=uo (i+1);have h4:((lv.reverse.take (i+1)).map λx=>x.1.length).sum=((lv.reverse.take i).map λx=>x.1.length).sum+x.1.length:=by rw[List.take_add_one,pZ,Option.toList_some,List.map_append,List.sum_append];simp
  refine zD omQ (qb omQ (bG (lv.length-(i+1)) _ _ omQ ⟨i+1,?_,by omega,rfl,rfl⟩));rw[h4];refine Prod.ext ?_ (Prod.ext rfl (Prod.ext rfl (Prod.ext ?_ rfl)))
  ·show AV.int _ _=AV.int _ _
   congr 1
  ·show AV.int _ _=AV.int _ _
   congr 1
   omega
 ·have h2:=uo i;rw[List.drop_of_length_le (by simp;omega)]at h2;rw[show((lv.reverse.take i).map λx=>x.1.length).sum=yU lv by simpa using h2]
theorem Po {k b0 l:Nat} {v:AV} {ps:List Nat} {Inv:Nat→AH→Prop} {Fin:AH→Prop}
  (Pp:∀i h,Inv i h→h.at b0 0=some v∧Sl (λ_=>True) h 1 ps.length v (xc ps))
  (hy:∀i a h,ps[i]? =some a→Inv i h→wp (callT tab qx k (.yield l) [.int .i64 ((ps.length-1-i:Nat):Int),.ptr a 0] h) λr h'=>(r=.bool true∧Inv (i+1) h')∨(r=.bool false∧Fin h'))
  (hl:ps.length<1000000) (h0:Inv 0 h):wp (callT tab qx (k+1) (.fn 188 [] [.ptr b0 0]) [.yield l] h) λ_ h'=>Inv ps.length h'∨Fin h':=by
 refine LN (g:=(bC S188)) rfl omQ λk' hk=>?_;obtain rfl:k'=k:=by omega
 show wp (S188 _ _ _ _).1 _;unfold S188
 try simp only[iZ]
 obtain⟨r1,r2⟩:=Pp 0 h h0;refine Ql r1 (x5 r2 (zD omQ ?_));refine jL (λm s h'=>∃i:Nat,s=(.int .i64 ((ps.length:Int)-((1:Nat):Int)-(i:Int)),.ptr b0 0,.yield l,())∧i≤ps.length∧m=ps.length-i∧Inv i h') ?_ (m:=ps.length) (by show _<1000000000;omega) ⟨0,by simp,by omega,by omega,h0⟩;rintro m ih s h' bG ⟨i,rfl,h1,rfl,hI⟩;dsimp only;obtain⟨r1,r2⟩:=Pp i h' hI;refine yg (λau=>qX ?_) λiu=>qJ (qk (qG (.inl ?_)))
 ·have hi:i<ps.length:=by omega
  have ha:ps[i]? =some ps[i]:=iW hi;rw[show(ps.length:Int)-((1:Nat):Int)-(i:Int)=((ps.length-1-i:Nat):Int) by omega];refine Ql r1 (jd r2 (by rw[GY omQ,show ps.length-1-(ps.length-1-i)=i by omega,ha];rfl) ?_);refine qV (hy i _ h' ha hI) ?_;rintro _ h2 (⟨rfl,F9⟩ |⟨rfl,hF⟩)
  ·refine jY (qJ (zD omQ (bG (ps.length-(i+1)) _ _ omQ ⟨i+1,?_,by omega,rfl,F9⟩)));refine Prod.ext ?_ rfl;show AV.int _ _=AV.int _ _
   congr 1
   omega
  ·exact jB (qX (qk (qG (.inr hF))))
 ·obtain rfl:i=ps.length:=by omega
  exact hI
theorem qXt {p:Int}:∀{lv:List bz},(∀(j:Nat) x,lv[j]? =some x→zW p x.1=none)→Yp p lv=none:=by
 intro lv
 induction lv with
 |nil=>intro _;rfl
 |cons x r ih=>intro h;unfold Yp;rw[h 0 x rfl];exact ih λj y hy=>h (j+1) y (by simpa using hy)
theorem qGL {p v:Int}:∀{lv:List bz} {i:Nat} {x:bz},(∀j,j<i→∀x,lv[j]? =some x→zW p x.1=none)→lv[i]? =some x→zW p x.1=some v→Yp p lv=some v:=by
 intro lv
 induction lv with
 |nil=>intro i x _ h;simp at h
 |cons y r ih=>
  intro i x h1 h2 h3;unfold Yp;cases i with
  |zero=>simp at h2;subst h2;rw[h3]
  |succ i=>rw[h1 0 omQ y rfl];exact ih (i:=i) (x:=x) (λj hj z hz=>h1 (j+1) omQ z (by simpa using hz)) (by simpa using h2) h3
theorem eJ.len {most:Nat} {lv:List bz} (O:eJ most lv) {x:bz} (hx:x∈lv):x.1.length≤96:=by
 have h1:=O.held;have h2:=O.le;have:x.1.length≤yU lv:=by
  clear h1 O
  induction lv with
  |nil=>cases hx
  |cons y r ih=>
   rw[zr];rcases List.mem_cons.1 hx with rfl |hx
   ·omega
   ·have:=ih hx;omega
 omega
theorem Gr {n:Nat} (hn:1≤n) {v:AV} (h1:One v) (H:HS g h L):aA n 155 [v] h λr h'=>∃b,r=.fn 188 [] [.ptr b 0]∧HS g h' (qA b [v]::L):=by
 refine ay (S:=S155) rfl omQ λk hk=>?_;unfold S155;try simp only
 exact XB H h1 λb h2 H2=>qG ⟨b,rfl,H2⟩
theorem qkb {n q most:Nat} (hn:8≤n) {lv:List bz} {p:Int} (H:HS g h (bR q most lv::R)) (O:eJ most lv) :
  aA n 186 [.ptr q 0,.int .i64 p] h λv h'=>v=.bM [.int .u64 ((Yp p lv).getD 0),.bool (Yp p lv).isSome]∧HS g h' (bR q most lv::R):=by
 (refine qy (g:=W186) rfl omQ λk hk=>?_;show wp (S186 (callT tab qx k) _ _ _) _;unfold S186;try simp only[uU,iZ])
 obtain⟨v,ps,e,H⟩:=bR.E H;have hd:=O.deep;refine XB H ⟨rfl,rfl⟩ λb1 h1 H=>XB H ⟨rfl,rfl⟩ λb2 h2 H=>XB H ⟨rfl,rfl⟩ λb3 h3 H=>?_;refine qK (qQ (qZ ‹_› e_3 rfl ?_));refine qV (Gr omQ (H.one e_4) H) ?_;rintro _ h4 ⟨b4,rfl,H⟩;have H5:=(H.iU .hZ).iU (.loop .ready none 186 [1,0,1,0] [5,4,3] [.ptr b3 0,.ptr b2 0,.ptr b1 0] h4.nx);generalize(h4.new .hZ).nx=l at H5 ⊢;generalize h4.nx=d at H5 ⊢;obtain⟨k2,rfl⟩:∃k2,k=k2+1:=⟨k-1,by omega⟩
 refine ZH (Po (b0:=b4) (v:=v) (ps:=ps)
  (Inv:=λi h'=>HS g h' (kX l (.loop .ready none 186 [1,0,1,0] [5,4,3] [.ptr b3 0,.ptr b2 0,.ptr b1 0] d)::kX d .hZ::qA b4 [v]::qA b3 [.bool false]::qA b2 [.int .u64 ((0:Nat):Int)]::qA b1 [.int .i64 p]::
   qA q [.int .i64 (most:Int),v]::qB 230 1 lv.length v (xc ps)::(List.zipWith cM ps lv++R))∧∀j,j<i→∀x,lv[j]? =some x→zW p x.1=none)
  (Fin:=λh'=>∃x,Yp p lv=some x∧HS g h' (kX l (.loop .done (some .ret) 186 [1,0,1,0] [5,4,3] [.ptr b3 0,.ptr b2 0,.ptr b1 0] d)::kX d .hZ::qA b4 [v]::qA b3 [.bool true]::qA b2 [.int .u64 x]::qA b1 [.int .i64 p]::
   qA q [.int .i64 (most:Int),v]::qB 230 1 lv.length v (xc ps)::(List.zipWith cM ps lv++R)))
  ?_ ?_ omQ ⟨H5,λj hj=>by omega⟩) ?_
 ·rintro i h' ⟨H,_⟩;obtain⟨et,A⟩:=H.obj (b:=b4) e_2;exact⟨A.at 0,e▸H.sl e_7⟩
 ·rintro i a h' ha ⟨H,dy⟩;have hi:=(List.getElem?_eq_some_iff.1 ha).1;have hx:lv[i]? =some (lv[i]'omQ):=iW _;have hm:lv[i]'omQ∈lv:=List.getElem_mem _;generalize lv[i]'omQ=x at hx hm;have rA:=O.len hm;refine ZB (H.bp .here) (w:=V1) rfl omQ λk3 DK=>?_;show wp (B1 _ _ _ _ _ (.int .i64 ((ps.length-1-i:Nat):Int)) _ _) _;unfold B1
  try simp only[iI,uU,iZ]
  refine ZJ H .here λh6 H=>?_;obtain⟨T,s⟩:=KD (R:=R) ha hx;obtain⟨w,fv,H7⟩:=cM.E (H.aG (.there (.there (.there (.there (.there (.there (.there (.there s)))))))));refine qK (qQ (qZ ‹_› .here rfl ?_));refine qZ ‹_› e_8 rfl ?_;refine qV (Pk omQ (H7.aG e_1) omQ) ?_;rintro _ h8 ⟨rfl,H8⟩;refine qD rfl ?_;refine qD rfl ?_;cases hg:zW p x.1 with
  |none=>
   refine qJ (L3 H8 e_3 λh9 H9=>.inl ⟨rfl,?_,λj hj y hy=>?_⟩)
   ·have eZ:=cM.I (a:=a) (w:=w) (fv:=fv) (x:=x) (H9.sub (.cons e_2 (.cons e_1 (.cons e_1 .refl))));exact HS.bZ (.there (.there (.there (.there (.there (.there (.there (.there s)))))))) (eZ.sub (.refl))
   ·by_cases rQ:j<i
    ·exact dy j rQ y hy
    ·obtain rfl:j=i:=by omega
     rw[hx]at hy;cases hy;exact hg
  |some z=>refine qX (qw H8 (b:=b2) e_7 ⟨rfl,rfl⟩ aN λh9 H9=>qw H9 (b:=b3) e_7 ⟨rfl,rfl⟩ aN λdR eZ=>qvM eZ e_5 λcD iE=>.inr ⟨rfl,z,qGL dy hx hg,?_⟩);have bN:=cM.I (a:=a) (w:=w) (fv:=fv) (x:=x) (iE.sub (.cons e_4 (.cons e_3 (.cons e_3 .refl))));exact HS.bZ (.there (.there (.there (.there (.there (.there (.there (.there s)))))))) (bN.sub (.cons .here (.cons .here (.cons e_2 (.cons e_2 (.cons .here (.cons .here (.refl))))))))
 ·rintro _ h6 (⟨H,dy⟩ |⟨x,hx,H⟩)
  ·have hg:Yp p lv=none:=qXt λj x hj=>dy j (by have:=(List.getElem?_eq_some_iff.1 hj).1;omega) x hj;refine Nw H .here (λh=>by cases h) λh7 H=>O7 (qw H (b:=b2) e_4 ⟨rfl,rfl⟩ aN λh8 H=>qw H (b:=b3) e_4 ⟨rfl,rfl⟩ aN λh9 H=>Gj H e_3 λdR H=>?_);refine qZ ‹_› e_2 rfl ?_;refine qZ ‹_› e_1 rfl ?_;refine qG ⟨by rw[hg];rfl,?_⟩;exact bR.I (v:=v) (ps:=ps) e (H.sub (.cons e_6 (.cons e_6 (.drop (.drop (.drop (.drop (.drop (.drop (.refl))))))))))
  ·refine Nw H .here (λh=>by cases h) λh7 H=>qje (qwP rfl (Gj H e_1 λh8 H=>?_));refine qZ ‹_› e_4 rfl ?_;refine qZ ‹_› e_3 rfl ?_;refine qG ⟨by rw[hx];rfl,?_⟩;exact bR.I (v:=v) (ps:=ps) e (H.sub (.cons e_6 (.cons e_6 (.drop (.drop (.drop (.drop (.drop (.drop (.refl))))))))))
theorem qwA {x:bz} {r:List bz} {most:Nat} {p v:Int} (O:eJ most (x::r)) (hp:¬(p<1∨256≤p)) (hf:¬(zW p x.1=none∧most≤yU (x::r))):Xc 96 x.1 p v=(0,yP p v x.1):=by have h1:=O.held;have h2:=O.le;rw[zr]at h1 hf;unfold Xc;rw[iQ hp,iQ (λh=>hf ⟨h.1,by omega⟩)]
theorem Pq {n q most:Nat} (hn:5≤n) {lv:List bz} {p v:Int} (H:HS g h (bR q most lv::R)) (O:eJ most lv) :
  aA n 226 [.ptr q 0,.int .i64 p,.int .u64 v] h λr h'=>r=.int .i64 (vL most lv p v).1∧HS g h' (bR q most (vL most lv p v).2::R):=by
 cases lv with
 |nil=>have:=O.one;simp at this
 |cons x r=>
 have rA:=O.len (x:=x) (iK ..);refine cL (S:=S226) rfl omQ λk hk=>?_;unfold S226;try simp only[iZ]
 unfold vL;by_cases hp:p<1∨256≤p
 ·simp only[iJ hp]
  repeat' (first |with_reducible refine qX ?_ |with_reducible refine qJ ?_ |(with_reducible refine qa ?_;try dsimp only) |(with_reducible refine jJ ?_;try dsimp only) |(with_reducible refine qU ?_;try dsimp only) |(with_reducible refine qd ?_;try dsimp only) |(with_reducible refine zF ?_;try dsimp only) |with_reducible refine qH ?_ |with_reducible refine qI ?_ |(with_reducible refine qW ?_;try dsimp only) |with_reducible refine qk ?_ |with_reducible refine jY ?_ |with_reducible refine jB ?_ |with_reducible refine qb omQ ?_ |with_reducible refine zD omQ ?_ |with_reducible refine yv omQ ?_ |with_reducible refine gV omQ ?_ |with_reducible refine zk ?_ |with_reducible refine zn ?_ |with_reducible refine qg omQ ?_ |with_reducible refine qj omQ ?_ |with_reducible refine jQ omQ ?_ |with_reducible refine qs omQ ?_ |with_reducible refine jF omQ ?_ |with_reducible refine jV omQ ?_ |with_reducible refine JK omQ ?_ |with_reducible refine Xw omQ ?_ |with_reducible refine vQ omQ ?_ |with_reducible refine yQ omQ ?_ |with_reducible refine zx omQ ?_ |with_reducible refine zK omQ ?_ |with_reducible refine xw (λhc=>?_) (λhc=>?_) |with_reducible refine kj (λhc=>?_) (λhc=>?_) |with_reducible refine QD (λhc=>?_) (λhc=>?_) |with_reducible refine yg (λhc=>?_) (λhc=>?_) |with_reducible refine gw (λhc=>?_) (λhc=>?_) |with_reducible refine vA (λhc=>?_) (λhc=>?_) |with_reducible refine wa (λhc=>?_) (λhc=>?_))
  all_goals exact qG ⟨rfl,H⟩
 simp only[iQ hp];refine jV omQ ?_;refine qW ?_;(try dsimp only);refine qd ?_;(try dsimp only);refine zK omQ ?_;refine qI (qJ ?_)
 have hH:=H;obtain⟨sv,a,ps,e,H⟩:=bR.E1 H;rw[← e]at H;refine qV (YX omQ H .here e_1 (by have:=O.deep;simp at this;omega)) ?_;rintro _ _ ⟨rfl,rfl⟩;obtain⟨w,fv,H2⟩:=cM.E (H.aG e_2);refine qK (qQ (qZ ‹_› .here rfl ?_));refine qV (Pk omQ (H2.aG e_1) omQ) ?_;rintro _ h3 ⟨rfl,H3⟩;refine qD rfl ?_;refine qD rfl ?_;have H4:HS g h3 (bR q most (x::r)::R):=by have H4:=cM.I (a:=a) (w:=w) (fv:=fv) (x:=x) (H3.sub (.cons e_1 (.cons .here .refl)));refine bR.I1 (v:=sv) (a:=a) (ps:=ps) e ?_;rw[← e];exact H4.sub (.cons e_1 (.cons e_1 (.refl)))
 have fin:¬(zW p x.1=none∧most≤yU (x::r))→∀h5,HS g h5 (dc w 96 x.1::qA a [.ptr w 0,fv]::qB 3 1 x.2.length fv (x.2.map (.int .i64))::qA q [.int .i64 (most:Int),sv]::qB 230 1 (ps.length+1) sv (xc (a::ps))::(List.zipWith cM ps r++R))→
   aA k 189 [.ptr w 0,.int .i64 p,.int .u64 v] h5 λr' h'=>r'=.int .i64 0∧HS g h' (bR q most ((yP p v x.1,x.2)::r)::R):=by
  intro hf h5 H5;refine(Pm omQ H5 omQ).mono ?_;rintro _ h6 ⟨rfl,H6⟩;rw[qwA O hp hf]at H6 ⊢;refine⟨rfl,bR.I1 (v:=sv) (a:=a) (ps:=ps) e ?_⟩;rw[← e];have H7:=cM.I (a:=a) (w:=w) (fv:=fv) (x:=(yP p v x.1,x.2)) (H6.sub (.cons e_1 (.cons .here .refl)));exact H7.sub (.cons e_1 (.cons e_1 (.refl)))
 cases hg:zW p x.1 with
 |some z=>
  simp only[Option.isSome_some];refine jY (qW ?_);(try dsimp only);refine qU ?_;(try dsimp only);refine qI (qJ ?_)
  rw[iQ (λh=>by cases h.1)];refine qV (fin (λh=>by rw[hg]at h;cases h.1) h3 (H3.sub (.refl))) ?_;rintro _ h6 ⟨rfl,H6⟩;exact qG ⟨rfl,H6⟩
 |none=>
  simp only[Option.isSome_none];refine jB (qW ?_);(try dsimp only);refine qa ?_;(try dsimp only)
  refine qV (qqS omQ H4 O) ?_;rintro _ _ ⟨rfl,rfl⟩;have hh:=O.held;refine gw (λh0=>?_) λh0=>?_
  ·refine qH (qX ?_);rw[iJ ⟨by trivial,by omega⟩];exact qG ⟨rfl,H4⟩
  ·refine qH (qJ ?_);rw[iQ (λh=>h0 omQ)];refine qV (fin (λh=>h0 omQ) _ (H3.sub (.refl))) ?_;rintro _ h6 ⟨rfl,H6⟩;exact qG ⟨rfl,H6⟩
theorem GE {most:Nat} {x:bz} {r:List bz} {p v:Int}:∃c,(vL most (x::r) p v).2=(c,x.2)::r:=by
 unfold vL;dsimp only
 split
 ·exact⟨x.1,rfl⟩
 ·split
  ·exact⟨x.1,rfl⟩
  ·exact⟨_,rfl⟩
theorem qY1 {n q most:Nat} (hn:7≤n) {lv:List bz} {cs:List Cl} {c:AV} (H:HS g h (bR q most lv::R)) (O:eJ most lv) (S:Rd g R 2 cs.length c (cs.flatMap jI)) (hc:cs.length<100000) :
  aA n 187 [.ptr q 0,c] h λr h'=>r=.int .i64 (vq most lv lv cs).1∧HS g h' (bR q most (vq most lv lv cs).2::R):=by
 cases lv with
 |nil=>have:=O.one;simp at this
 |cons x r=>
 have rA:=O.len (x:=x) (iK ..);have Cc:=O.ins x (iK ..);have Ha:=O.un x (iK ..);refine ba (S:=S187) rfl omQ λk hk=>?_;unfold S187;try simp only[iZ]
 refine qV (Nc (m:=96) omQ omQ H) ?_;rintro _ h1 ⟨w0,rfl,H1⟩;obtain⟨sv,a,ps,e,H2⟩:=bR.E1 (H1.aG e_1);rw[← e]at H2;refine qV (YX omQ H2 .here e_1 (by have:=O.deep;simp at this;omega)) ?_;rintro _ _ ⟨rfl,rfl⟩;obtain⟨w,fv,H3⟩:=cM.E (H2.aG e_2);refine qK (qQ (qZ ‹_› .here rfl ?_));refine qV (Yi omQ (H3.aG (P:=dc w 96 x.1) e_1) omQ) λva h4 H4=>?_;refine qV (YI (cs:=x.1) (l:=[]) (m:=96) (w:=w0) omQ (H4.aG (.there (.there (.there (.there (.there (.there (aZ.skip _ .here))))))))  (.own .here) aN omQ) ?_;rintro _ h5 ⟨_,H5⟩;have ht:w6 96 [] x.1=(0,x.1):=by unfold w6;rw[YP Cc (by simpa using rA),MZ Ha,iJ rfl]
 rw[ht]at H5;have H6:HS g h5 (bR q most (x::r)::dc w0 96 x.1::R):=by have H7:=cM.I (a:=a) (w:=w) (fv:=fv) (x:=x) (H5.sub (.cons e_3 (.cons e_2 (.cons e_2 .refl))));refine bR.I1 (v:=sv) (a:=a) (ps:=ps) e ?_;rw[← e];have H8:HS g h5 (dc w0 96 x.1::(qA q [.int .i64 (most:Int),sv]::qB 230 1 (ps.length+1) sv (xc (a::ps))::cM a x::List.zipWith cM ps r)++R):=H7.sub (.cons e_1 (.cons e_2 (.cons e_2 (.cons .here (.drop .refl)))));exact HS.back H8
 clear H1 H2 H3 H4 H5;refine x5 (S.sl H6.drop.drop) ?_
 refine jL (λk s h'=>∃(i:Nat) (c':List Cl),s=(.int .i64 (i:Int),.int .i64 (cs.length:Int),c,.ptr w0 0,.ptr q 0,())∧i≤cs.length∧k=cs.length-i∧eJ most ((c',x.2)::r)∧
  HS g h' (bR q most ((c',x.2)::r)::dc w0 96 x.1::R)∧vq most (x::r) (x::r) cs=vq most (x::r) ((c',x.2)::r) (cs.drop i)) ?_ (m:=cs.length) (by show _<1000000000;omega) ⟨0,x.1,rfl,by omega,by omega,O,H6,rfl⟩
 rintro k2 ih s h2 bG ⟨i,c',rfl,h1,rfl,O',H,hT⟩;dsimp only;refine xw (λau=>qX ?_) λiu=>qJ (qk (qG ?_))
 ·have hi:i<cs.length:=by omega
  have pp:cs[i]? =some cs[i]:=iW hi;refine zd (l:=jI cs[i]) (S.sl H.drop.drop) hi omQ (GZ pp) ?_;refine qO H rfl λb h3 H3=>qh H3 .here rfl (by show 0+2≤2;omega) rfl λh4 H4=>?_;have H5:HS g h4 (qA b (jI cs[i])::bR q most ((c',x.2)::r)::dc w0 96 x.1::R):=H4;unfold jI at H5;refine qQ (qZ ‹_› .here rfl ?_);refine qQ (qZ ‹_› .here rfl ?_);refine qV (Pq omQ H5.drop O') ?_;rintro _ h6 ⟨rfl,H6⟩;rw[List.drop_eq_getElem_cons hi,vP]at hT;have O2:=(NQ (p:=cs[i].1) (v:=cs[i].2) O').1;obtain⟨c2,oH⟩:=GE (most:=most) (x:=(c',x.2)) (r:=r) (p:=cs[i].1) (v:=cs[i].2);refine vA (λcS=>qX ?_) λhe=>qJ (qb omQ ?_)
  ·have cS:¬(vL most ((c',x.2)::r) cs[i].1 cs[i].2).1=0:=by simpa using cS
   rw[iQ cS]at hT;rw[oH]at H6;obtain⟨sv,a,ps,e,H7⟩:=bR.E1 H6;rw[← e]at H7;refine qV (YX omQ H7 .here e_1 (by have:=O.deep;simp at this;omega)) ?_;rintro _ _ ⟨rfl,rfl⟩;obtain⟨w,fv,H8⟩:=cM.E (H7.aG e_2);refine qK (qQ (qw H8 .here ⟨rfl,rfl⟩ aN λh9 H9=>qk (qG ?_)));rw[hT];refine⟨rfl,bR.I1 (v:=sv) (a:=a) (ps:=ps) e ?_⟩;rw[← e];obtain⟨T,sT,uT⟩:∃T,aZ (List.zipWith cM ps r++dc w0 96 x.1::R) (dc w0 96 x.1) T∧T=List.zipWith cM ps r++R:=⟨_,aZ.skip _ .here,rfl⟩;subst uT;have eZ:=cM.I (a:=a) (w:=w0) (fv:=fv) (x:=x) (H9.sub (.cons .here (.cons (.there (.there (.there (.there sT)))) (.cons e_1 (.drop .refl)))));exact eZ.sub (.cons e_1 (.cons e_1 (.refl)))
  ·have F8:(vL most ((c',x.2)::r) cs[i].1 cs[i].2).1=0:=by simpa using he
   rw[iJ F8,oH]at hT;rw[oH]at H6 O2;exact bG (cs.length-(i+1)) _ _ omQ ⟨i+1,c2,rfl,by omega,rfl,O2,H6,hT⟩
 ·rw[List.drop_of_length_le omQ]at hT;have hT:vq most (x::r) (x::r) cs=(0,(c',x.2)::r):=hT;rw[hT];exact⟨rfl,H.sub (.cons .here (.drop .refl))⟩
theorem UF (a:Nat) (ps:List Nat):xc (a::ps)=xc ps++[.ptr a 0]:=by unfold xc;rw[List.reverse_cons,List.map_append];rfl
theorem Vn (ps:List Nat):(xc ps).length=ps.length:=by simp[xc]
theorem qqE {n q most:Nat} (hn:3≤n) {lv:List bz} (H:HS g h (bR q most lv::R)) (_:eJ most lv) :
  aA n 320 [.ptr q 0] h λv h'=>v=.int .i64 (km lv).1∧HS g h' (bR q most (km lv).2::R):=by
 refine ay (S:=S320) rfl omQ λk hk=>?_;unfold S320;try simp only[iZ]
 have hH:=H;obtain⟨v,ps,e,H⟩:=bR.E H;unfold km;by_cases h6:6≤lv.length
 ·rw[iJ h6];refine qK (qQ (qZ ‹_› .here rfl ?_));refine qo ‹_› e_1 ?_;refine zx omQ ?_;refine qX ?_;exact qG ⟨rfl,hH⟩
 ·rw[iQ h6];refine qK (qQ (qZ ‹_› .here rfl ?_));refine qo ‹_› e_1 ?_;refine zK omQ ?_;refine qJ (qW ?_);(try dsimp only);refine qK (qQ (qZ ‹_› .here rfl ?_))
  refine qV (Mn omQ H) ?_;rintro _ h2 ⟨a,rfl,H2⟩;refine qm (n:=1) (l:=[.ptr a 0]) (sz:=1) H2 rfl rfl rfl rfl λv3 h3 H3=>?_;refine ja (H3.aG e_3) (H3.sl .here) omQ omQ rfl λv4 h4 H4=>?_;refine qK (qQ (qw H4 (b:=q) e_3 (H4.one .here) aN λh5 H5=>?_));refine qc ‹_› .here rfl ‹_› e_1 rfl (HS.lt ‹_› .here) ?_;refine qG ⟨rfl,bR.I1 (v:=v4) (a:=a) (ps:=ps) e ?_⟩;rw[UF];exact H5.sub (.cons .here (.cons .here (.cons e_1 (.drop (.refl)))))
theorem Z9 {n q:Nat} (hn:1≤n) {m v:AV} {a:Nat} {ps:List Nat} (h1:1≤ps.length) (hl:ps.length<1000) (H:HS g h (qA q [m,v]::qB 230 1 (ps.length+1) v (xc (a::ps))::R)) :
  aA n 289 [.ptr q 0] h λr h'=>r=.int .i64 0∧∃v',HS g h' (qA q [m,v']::qB 230 1 ps.length v' (xc ps)::R):=by
 refine ay (S:=S289) rfl omQ λk hk=>?_;unfold S289;try simp only[iZ]
 refine qK (qQ (qZ ‹_› .here rfl ?_));refine qo ‹_› e_1 ?_;refine qj omQ ?_;refine qJ (qK (qQ (qZ ‹_› .here rfl ?_)));refine qK (qQ (qZ ‹_› .here rfl ?_));refine qo ‹_› e_1 ?_;refine zD omQ ?_;rw[show((ps.length+1:Nat):Int)-((1:Nat):Int)=((ps.length:Nat):Int) by omega];refine Kk (H.aG e_1) omQ omQ λv' H2=>?_;refine qK (qQ (qw H2 (b:=q) e_1 (H2.one .here) aN λh3 H3=>qG ⟨rfl,v',?_⟩));rw[UF,Nat.mul_one,← Vn ps,List.take_left,Vn]at H3;exact H3.sub (.cons .here (.refl))
theorem Om {n q most:Nat} (hn:1≤n) {lv:List bz} (H:HS g h (bR q most lv::R)) (O:eJ most lv) :
  aA n 289 [.ptr q 0] h λv h'=>v=.int .i64 (ki lv).1∧HS g h' (bR q most (ki lv).2::R):=by
 unfold ki;by_cases h1:lv.length=1
 ·rw[iJ h1];refine ay (S:=S289) rfl omQ λk hk=>?_;unfold S289;try simp only[iZ]
  have hH:=H;obtain⟨v,ps,e,H⟩:=bR.E H;refine qK (qQ (qZ ‹_› .here rfl ?_));refine qo ‹_› e_1 ?_;refine qg omQ ?_;refine qX ?_;exact qG ⟨rfl,hH⟩
 ·rw[iQ h1];cases lv with
  |nil=>have:=O.one;simp at this
  |cons x r=>
  have hd:=O.deep;simp at h1 hd;have h1':1≤r.length:=by cases r with |nil=>simp at h1 |cons _ _=>simp
  obtain⟨v,a,ps,e,H⟩:=bR.E1 H;rw[← e]at H;refine(Z9 hn omQ omQ H).mono ?_;rintro _ h2 ⟨rfl,v',H2⟩;refine⟨rfl,bR.I (v:=v') (ps:=ps) e ?_⟩;show HS g h2 (_::qB 230 1 r.length v' _::(List.zipWith cM ps r++R));rw[← e];exact H2.sub (.cons .here (.cons .here (.drop .refl)))
theorem qjC {n q most:Nat} (hn:6≤n) {lv:List bz} (H:HS g h (bR q most lv::R)) (O:eJ most lv) (hf:∀x∈lv,x.2.length<1000000) :
  aA n 287 [.ptr q 0] h λv h'=>v=.int .i64 (Qh lv).1∧HS g h' (bR q most (Qh lv).2::R):=by
 rcases lv with _ |⟨x,_ |⟨y,r⟩⟩
 ·have:=O.one;simp at this
 ·
  refine ay (S:=S287) rfl omQ λk hk=>?_;unfold S287;try simp only[iZ]
  obtain⟨v,a,ps,e,H2⟩:=bR.E1 H;rw[← e]at H2;refine qV (YX omQ H2 .here e_1 (by simp at e;simp[e])) ?_;rintro _ _ ⟨rfl,rfl⟩;refine qV (Om omQ H O) ?_;rintro _ h3 ⟨rfl,H3⟩;rw[show ki [x]=(10,[x])from rfl]at H3 ⊢;refine jQ omQ ?_;refine qX ?_;exact qG ⟨rfl,H3⟩
 ·
  have hx:=hf x aN;have hy:=hf y aN;have Cc:=O.ins x aN;have hd:=O.deep;have hh:=O.held;have hle:=O.le;rw[zr,zr]at hh;simp at hd;refine ay (S:=S287) rfl omQ λk hk=>?_;unfold S287;try simp only[iZ]
  obtain⟨v,a,ps,e,H2⟩:=bR.E1 H;rw[← e]at H2;refine qV (YX omQ H2 .here e_1 (by simp at e;omega)) ?_;rintro _ _ ⟨rfl,rfl⟩;simp at e;refine qV (Z9 omQ omQ omQ H2) ?_;rintro _ h3 ⟨rfl,v',H3⟩;cases ps with
  |nil=>simp at e
  |cons b ps=>
  simp at e;refine qs omQ ?_;refine qJ (qV (YX omQ H3 .here e_1 omQ) ?_);rintro _ _ ⟨rfl,rfl⟩;have H4:HS g _ (cM b y::cM a x::qA q [.int .i64 (most:Int),v']::qB 230 1 (ps.length+1) v' (xc (b::ps))::(List.zipWith cM ps r++R)):=H3.sub (.cons e_3 (.cons e_2 (.cons .here (.cons .here .refl))));obtain⟨w1,f1,H4⟩:=cM.E H4;obtain⟨w2,f2,H5⟩:=cM.E (H4.aG e_3);refine qK (qQ (qZ ‹_› e_3 rfl ?_));refine qK (qQ (qZ ‹_› .here rfl ?_));refine ja (H5.aG e_5) (H5.sl e_2) omQ omQ ?_ λv6 h6 H6=>?_
  ·simp[qn,AV.one]
  refine qK (qQ (qw H6 (b:=b) e_4 (H6.one .here) aN λh7 H7=>?_));simp only[List.set_cons_zero,List.set_cons_succ]at H7;refine qW ?_;(try dsimp only);refine qK (qQ (qZ ‹_› .here rfl ?_));refine qK (qQ (qZ ‹_› e_2 rfl ?_))
  refine qV (Yi omQ (H7.aG (P:=dc w2 96 x.1) e_3) omQ) λv8 h8 H8=>?_;refine qV (YI (cs:=x.1) (l:=y.1) (m:=96) (w:=w1) omQ (H8.aG (P:=dc w1 96 y.1) e_6) (.own .here) omQ omQ) ?_;rintro _ h9 ⟨rfl,H9⟩;have ht:w6 96 y.1 x.1=(0,yF y.1 x.1):=by unfold w6;rw[YP Cc omQ,iJ rfl]
  rw[ht]at H9 ⊢;refine qc ‹_› .here rfl ‹_› e_2 rfl (HS.lt ‹_› .here) ?_;refine qG ⟨rfl,bR.I1 (v:=v') (a:=b) (ps:=ps) omQ ?_⟩;show HS g h9 (_::qB 230 1 (r.length+1) v' _::_);rw[← e];have eZ:=cM.I (a:=b) (w:=w1) (fv:=v6) (x:=(yF y.1 x.1,y.2++x.2)) (R:=qA q [.int .i64 (most:Int),v']::qB 230 1 (ps.length+1) v' (xc (b::ps))::(List.zipWith cM ps r++R))
   (by rw[List.map_append,List.length_append];exact H9.sub (.cons e_3 (.cons .here (.cons e_2 (.cons e_4 (.cons e_4 (.drop (.drop (.drop (.drop (.refl)))))))))))
  exact eZ.sub (.cons e_1 (.cons e_1 (.refl)))
theorem UD:∀(lv:List bz) (out:List Cl),(lv.foldl (λout x=>yF x.1 out) out).length≤out.length+yU lv:=by
 intro lv
 induction lv with
 |nil=>intro out;simp
 |cons x r ih=>intro out;have h1:=ih (yF x.1 out);have h2:=Kd (cs:=out) (l:=x.1);rw[List.foldl_cons,zr];omega
theorem VC:∀(lv:List bz) (out:List Cl),nP out→(∀x∈lv,nP x.1)→nP (lv.foldl (λout x=>yF x.1 out) out):=by
 intro lv
 induction lv with
 |nil=>intro out h _;exact h
 |cons x r ih=>intro out h hx;exact ih _ ((hx x (iK ..)).nQ h) λy hy=>hx y (iX _ hy)
theorem qVh (l1 l2:List bz):yU (l1++l2)=yU l1+yU l2:=by simp[yU]
theorem qKb {n q most:Nat} (hn:9≤n) {lv:List bz} (H:HS g h (bR q most lv::R)) (O:eJ most lv) :
  aA n 128 [.ptr q 0] h λv h'=>HS g h' (qB 164 2 (jA lv).length v ((jA lv).flatMap jI)::bR q most lv::R):=by
 (refine qy (g:=W128) rfl omQ λk hk=>?_;show wp (S128 (callT tab qx k) _ _) _;unfold S128;try simp only[iI,uU,iZ])
 obtain⟨v,ps,e,H⟩:=bR.E H;have hd:=O.deep;have hle:=O.le;have hhe:=O.held;refine XB (H.ak (e:=164) (sz:=2)) ⟨rfl,rfl⟩ λb1 h1 H=>?_;refine qK (qQ (qZ ‹_› e_2 rfl ?_));refine qV (Gr omQ (H.one e_3) H) ?_;rintro _ h4 ⟨b4,rfl,H⟩;have H5:=(H.iU .hZ).iU (.loop .ready none 128 [1,1,0,1,0] [3] [.ptr b1 0] h4.nx);generalize(h4.new .hZ).nx=l at H5 ⊢;generalize h4.nx=d at H5 ⊢;obtain⟨k2,rfl⟩:∃k2,k=k2+1:=⟨k-1,by omega⟩
 refine ZH (Po (b0:=b4) (v:=v) (ps:=ps)
  (Inv:=λi h'=>∃ov,HS g h' (kX l (.loop .ready none 128 [1,1,0,1,0] [3] [.ptr b1 0] d)::kX d .hZ::qA b4 [v]::qA b1 [ov]::qB 164 2 (jA (lv.take i)).length ov ((jA (lv.take i)).flatMap jI)::
   qA q [.int .i64 (most:Int),v]::qB 230 1 lv.length v (xc ps)::(List.zipWith cM ps lv++R)))
  (Fin:=λ_=>False) ?_ ?_ omQ ⟨.ak,H5⟩) ?_
 ·rintro i h' ⟨ov,H⟩;obtain⟨et,A⟩:=H.obj (b:=b4) e_2;exact⟨A.at 0,e▸H.sl e_6⟩
 ·rintro i a h' ha ⟨ov,H⟩;have hi:=(List.getElem?_eq_some_iff.1 ha).1;have hx:lv[i]? =some (lv[i]'omQ):=iW _;have hm:lv[i]'omQ∈lv:=List.getElem_mem _;generalize lv[i]'omQ=x at hx hm;have rA:=O.len hm;have Cc:=O.ins x hm;have Ha:=O.un x hm;have mf:(jA (lv.take i)).length+x.1.length≤96:=by
   have h1:=UD (lv.take i) [];have h2:yU lv=yU (lv.take i)+(x.1.length+yU (lv.drop (i+1))):=by
    rw[← zr,← qVh]
    congr 1
    have h3:lv.drop i=x::lv.drop (i+1):=by
     have l9:i<lv.length:=by omega
     rw[List.drop_eq_getElem_cons l9];rw[iW l9]at hx;rw[Option.some.inj hx]
    rw[← h3,List.take_append_drop]
   unfold jA;simp at h1;omega
  have hmi:nP (jA (lv.take i)):=VC _ _ (λc hc=>by cases hc) λy hy=>O.ins y (List.mem_of_mem_take hy);have Er:jA (lv.take (i+1))=yF x.1 (jA (lv.take i)):=by unfold jA;rw[List.take_add_one,hx,Option.toList_some,List.foldl_append];rfl
  refine ZB (H.bp .here) (w:=V0) rfl omQ λk3 DK=>?_;show wp (B0 _ _ _ (.int .i64 ((ps.length-1-i:Nat):Int)) _ _) _;unfold B0
  try simp only[iI,iZ]
  refine ZJ H .here λh6 H=>?_;refine qV (Nc (m:=96) omQ omQ H) ?_;rintro _ h7 ⟨w0,rfl,H⟩;obtain⟨T,s⟩:=KD (R:=R) ha hx;obtain⟨w,fv,H7⟩:=cM.E (H.aG (.there (.there (.there (.there (.there (.there (.there (.there s)))))))));refine qK (qQ (qZ ‹_› .here rfl ?_));refine qV (Yi omQ (H7.aG (P:=dc w 96 x.1) e_1) omQ) λva h8 H8=>?_;refine qV (YI (cs:=x.1) (l:=[]) (m:=96) (w:=w0) omQ (H8.aG (P:=dc w0 96 []) e_4) (.own .here) aN omQ) ?_;rintro _ h9 ⟨_,H9⟩;have ht:w6 96 [] x.1=(0,x.1):=by unfold w6;rw[YP Cc (by simpa using rA),MZ Ha,iJ rfl]
  rw[ht]at H9;dsimp only at H9;refine qZ ‹_› e_8 rfl ?_;have Hb:w6 96 x.1 (jA (lv.take i))=(0,yF x.1 (jA (lv.take i))):=by unfold w6;rw[YP hmi omQ,iJ rfl]
  have S2:Rd g _ 2 (jA (lv.take i)).length ov ((jA (lv.take i)).flatMap jI):=H9.drop.rd (L:=qB 164 2 x.1.length va (x.1.flatMap jI)::dc w 96 x.1::qA a [.ptr w 0,fv]::qB 3 1 x.2.length fv (x.2.map (.int .i64))::
   kX l (.loop .busy none 128 [1,1,0,1,0] [3] [.ptr b1 0] d)::kX d .hZ::qA b4 [v]::qA b1 [ov]::qB 164 2 (jA (lv.take i)).length ov ((jA (lv.take i)).flatMap jI)::
   qA q [.int .i64 (most:Int),v]::qB 230 1 lv.length v (xc ps)::T) e_8
  refine qV (YI omQ H9 S2 omQ omQ) ?_;rintro _ dR ⟨_,eZ⟩;rw[Hb]at eZ;dsimp only at eZ;have nA:=Kd (cs:=jA (lv.take i)) (l:=x.1);refine qV (Yi omQ eZ omQ) λvb cD iE=>?_;refine qw iE (b:=b1) e_9 (iE.one .here) aN λla bN=>L3 bN e_7 λHc H13=>.inl ⟨rfl,vb,?_⟩;rw[Er]
  have DL:=cM.I (a:=a) (w:=w) (fv:=fv) (x:=x) (R:=kX l (.loop .ready none 128 [1,1,0,1,0] [3] [.ptr b1 0] d)::kX d .hZ::qA b4 [v]::qA b1 [vb]::
   qB 164 2 (yF x.1 (jA (lv.take i))).length vb ((yF x.1 (jA (lv.take i))).flatMap jI)::qA q [.int .i64 (most:Int),v]::qB 230 1 lv.length v (xc ps)::T) (H13.sub (.cons e_6 (.cons e_5 (.cons e_5 (.cons .here (.cons e_4 (.cons e_4 (.cons .here (.cons .here (.cons e_3 (.cons e_3 (.drop (.drop (.drop (.refl)))))))))))))))
  exact HS.bZ (.there (.there (.there (.there (.there (.there (.there s))))))) DL
 ·rintro _ h6 (⟨ov,H⟩ |hF)
  ·rw[List.take_of_length_le omQ]at H;refine Nw H .here (λh=>by cases h) λh7 H=>O7 ?_;refine qZ ‹_› e_3 rfl ?_;refine Gj H e_1 λdR H=>qG ?_
   exact(bR.I (v:=v) (ps:=ps) e (HS.back (A:=_::_::List.zipWith cM ps lv) (H.sub (L':=qB 164 2 (jA lv).length ov ((jA lv).flatMap jI)::qA q [.int .i64 (most:Int),v]::
    qB 230 1 lv.length v (xc ps)::(List.zipWith cM ps lv++R)) (.cons e_4 (.cons e_4 (.cons e_4 (.drop (.drop (.drop (.drop (.refl))))))))))).sub (.cons e_1 (.refl))
  ·exact hF.elim
end
section
variable {g h:AH} {L R:List SP}
structure VM where
  sz:Nat
  K:List Cl
  most:Nat
  lv:List bz
  aK:Int
structure dp (M:VM):Prop where
  lo:32≤M.sz
  hi:M.sz≤256
  hP:eJ M.most M.lv
  ins:∀c∈M.K,1≤c.1∧c.1<M.sz
  un:nk M.K
  fr:∀x∈M.lv,x.2.length<100000
def zu (M:VM) (p x:Int):Int×VM :=
 if 1≤p∧p<M.sz then match zW p M.K with
  |some y=>(if y=x then 0 else 14,M)
  |none=>(0,{ M with K:=M.K++[(p,x)] })
 else(2,M)
def qe (M:VM) (p:Int):(Int×Int)×VM :=
 if 1≤p∧p<M.sz then match Yp p M.lv with
  |some x=>((x,0),M)
  |none=>match zW p M.K with
   |some x=>((x,0),M)
   |none=>((0,11),{ M with aK:=p })
 else((0,2),M)
def zJ (M:VM) (cs:List Cl):Int×VM :=
 if∀c∈cs,1≤c.1∧c.1<M.sz then((vq M.most M.lv M.lv cs).1,{ M with lv:=(vq M.most M.lv M.lv cs).2 })else(2,M)
def eL (M:VM) (b:Int):VM:={ M with lv:=Ji M.lv b }
def yc (M:VM):Int×VM:=((km M.lv).1,{ M with lv:=(km M.lv).2 })
def xB (M:VM):Int×VM:=((ki M.lv).1,{ M with lv:=(ki M.lv).2 })
def vJ (M:VM):Int×VM:=((Qh M.lv).1,{ M with lv:=(Qh M.lv).2 })
theorem YS:∀(n:Nat) (l:List Int),l.Nodup→(∀x∈l,0≤x∧x<n)→l.length≤n:=by
 intro n
 induction n with
 |zero=>
  intro l _ h;cases l with
  |nil=>exact Nat.le_refl _
  |cons x l=>have:=h x (iK ..);omega
 |succ n ih=>
  intro l hd h;by_cases hx:(n:Int)∈l
  ·have:=ih (l.erase n) (hd.erase _) (λx tG=>by
    have h1:=h x (List.mem_of_mem_erase tG);have h2:x≠n:=by rintro rfl;exact(List.Nodup.not_mem_erase hd) tG
    omega)
   rw[List.length_erase_of_mem hx]at this;omega
  ·have:=ih l hd (λx tG=>by
    have h1:=h x tG;have h2:x≠n:=by rintro rfl;exact hx tG
    omega)
   omega
theorem dp.uq {M:VM} (O:dp M):M.K.length≤256:=by
 have hu:(M.K.map (·.1)).Nodup:=O.un
 have:=YS M.sz _ hu (λx hx=>by
  obtain⟨c,hc,rfl⟩:=List.mem_map.1 hx;have:=O.ins c hc
  omega)
 rw[List.length_map]at this;have:=O.hi;omega
def QE (f:Int×Bool):List AV:=[.int .u64 f.1,.bool f.2]
def vu (K:List Cl) (i:Nat):Int×Bool:=match zW (i:Int) K with |some x=>(x,true) |none=>(0,false)
def yx (sz:Nat) (K:List Cl):List (Int×Bool):=(List.range sz).map (vu K)
theorem Jg (sz:Nat) (K:List Cl):(yx sz K).length=sz:=by simp[yx]
theorem kp {sz:Nat} {K:List Cl} {i:Nat} (hi:i<sz):(yx sz K)[i]? =some (vu K i):=by simp[yx,List.getElem?_range hi]
theorem vw {α:Type} {sz:Nat} {enc:α→List AV} (he:∀a,(enc a).length=sz) {l:List α} {i:Nat} {a:α} (h:l[i]? =some a):((l.flatMap enc).drop (i*sz)).take sz=enc a:=by obtain⟨hi,e⟩:=List.getElem?_eq_some_iff.1 h;rw[XW (sz:=sz) enc he,List.drop_eq_getElem_cons hi,e,List.flatMap_cons,← he a,List.take_left]
theorem NZ {α:Type} {sz:Nat} {enc:α→List AV} (he:∀a,(enc a).length=sz) {l:List α} {i:Nat} {a:α} (hi:i<l.length):kT (l.flatMap enc) (i*sz) (enc a)=(l.set i a).flatMap enc:=by
 have h1:(l.flatMap enc).take (i*sz)=(l.take i).flatMap enc:=by
  have e1:l.flatMap enc=(l.take i).flatMap enc++(l.drop i).flatMap enc:=by rw[← List.flatMap_append,List.take_append_drop]
  have e2:((l.take i).flatMap enc).length=i*sz:=by rw[Ye (sz:=sz) enc he,List.length_take,Nat.min_eq_left omQ]
  rw[e1,← e2,List.take_left]
 have h2:(l.flatMap enc).drop (i*sz+sz)=(l.drop (i+1)).flatMap enc:=by rw[show i*sz+sz=(i+1)*sz by rw[Nat.add_mul,Nat.one_mul],XW (sz:=sz) enc he]
 unfold kT;rw[he,h1,h2,List.set_eq_take_append_cons_drop,iJ hi,List.flatMap_append,List.flatMap_cons,List.append_assoc]
theorem qVR {α:Type} {enc:α→List AV} {a:α}:∀n,yr (enc a) n=(List.replicate n a).flatMap enc:=by
 intro n
 induction n with
 |zero=>rfl
 |succ n ih=>rw[yr,ih,List.replicate_succ,List.flatMap_cons]
theorem qJ0 (sz:Nat):yx sz []=List.replicate sz (0,false):=by unfold yx;rw[show vu []=λ_=>((0,false):Int×Bool)from rfl,List.map_const',List.length_range]
theorem qZM {sz:Nat} {K:List Cl} {i:Nat} {x:Int} (hi:i<sz) (hn:zW (i:Int) K=none):yx sz (K++[((i:Int),x)])=(yx sz K).set i (x,true):=by
 have e:∀j:Nat,zW (j:Int) (K++[((i:Int),x)])=if j=i then some x else zW (j:Int) K:=by
  intro j;rw[← Qf hn,K7];by_cases h:j=i
  ·rw[iJ h,iJ (by rw[h])]
  ·rw[iQ h,iQ omQ]
 apply List.ext_getElem?;intro j;rw[List.getElem?_set,Jg];by_cases hj:j<sz
 ·rw[kp hj];by_cases h:i=j
  ·subst h;rw[iJ rfl,iJ hi];unfold vu;rw[e,iJ rfl]
  ·rw[iQ h,kp hj];unfold vu;rw[e,iQ omQ]
 ·rw[List.getElem?_eq_none (by rw[Jg];omega),iQ omQ,List.getElem?_eq_none (by rw[Jg];omega)]
def ae (v:Nat) (M:VM):SP:=.ex λfv=>.ex λov=>.ex λq=>.ex λe=>.all [qA v [fv,ov,.ptr q 0,.int .i64 M.aK],qB e 2 M.sz fv ((yx M.sz M.K).flatMap QE),
 qB 3 1 M.K.length ov (M.K.map λc=>.int .i64 c.1),bR q M.most M.lv]
theorem ae.E {v:Nat} {M:VM} (H:HS g h (ae v M::R)):∃fv ov q e,HS g h (qA v [fv,ov,.ptr q 0,.int .i64 M.aK]::qB e 2 M.sz fv ((yx M.sz M.K).flatMap QE)::
  qB 3 1 M.K.length ov (M.K.map λc=>.int .i64 c.1)::bR q M.most M.lv::R):=by
 obtain⟨fv,H⟩:=H.dU;obtain⟨ov,H⟩:=H.dU;obtain⟨q,H⟩:=H.dU;obtain⟨e,H⟩:=H.dU;exact⟨fv,ov,q,e,H.b9⟩
theorem ae.I {v:Nat} {M:VM} {fv ov:AV} {q:Nat} {e:TypeId} (H:HS g h (qA v [fv,ov,.ptr q 0,.int .i64 M.aK]::qB e 2 M.sz fv ((yx M.sz M.K).flatMap QE)::
  qB 3 1 M.K.length ov (M.K.map λc=>.int .i64 c.1)::bR q M.most M.lv::R)):HS g h (ae v M::R) :=
 HS.ei fv (HS.ei ov (HS.ei q (HS.ei e (HS.allI H))))
def dt (n:Int):Nat:=(max 32 (min n 256)).toNat
theorem MU (n:Int):32≤dt n∧dt n≤256:=by unfold dt;omega
def QN (words most:Int):VM:=⟨dt words,[],(max 0 (min most 96)).toNat,[([],[])],0⟩
theorem Ps {m:Nat} (hm:m≤96):eJ m [([],[])]:=⟨by simp[yU],hm,by intro x hx;simp at hx;subst hx;intro c hc;simp at hc,by intro x hx;simp at hx;subst hx;exact List.nodup_nil,by simp,by simp⟩
theorem qxL (words most:Int):dp (QN words most) :=
 ⟨(MU _).1,(MU _).2,Ps (by show(max 0 (min most 96)).toNat≤96;omega),by intro c hc;simp[QN]at hc,List.nodup_nil,by intro x hx;simp[QN]at hx;subst hx;simp⟩
theorem qvl {n:Nat} (hn:4≤n) {w m:Int} (H:HS g h R):aA n 117 [.int .i64 w,.int .i64 m] h λr h'=>∃v,r=.ptr v 0∧HS g h' (ae v (QN w m)::R):=by
 refine ba (S:=S117) rfl omQ λk hk=>?_;unfold S117;try simp only[iZ]
 refine zk (zn ?_);have hb:=MU w;rw[show max ((32:Nat):Int) (min w ((256:Nat):Int))=((dt w:Nat):Int) by unfold dt;omega];refine Yd (sz:=2) H rfl (Nat.le_refl _) omQ λfv h2 H2=>?_;refine qV (qxd omQ H2) ?_;rintro _ h3 ⟨q,rfl,H3⟩;have h1:=H3.one e_1;refine qM (l:=[fv,.ak,.ptr q 0,.int .i64 0]) (by unfold yV;rw[h1.1];rfl) ?_;refine qO H3 (by show(fv.one&&(true&&(true&&(true&&true))))=true;rw[h1.2];rfl) λv h4 H4=>qG ⟨v,rfl,?_⟩;rw[List.take_of_length_le (by rw[wb];exact Nat.le_refl _),show yr [AV.int .u64 ((0:Nat):Int),AV.bool false] (dt w)=(yx (dt w) []).flatMap QE by rw[qJ0,← qVR];rfl]at H4;exact ae.I (M:=QN w m) ((H4.ak (e:=3) (sz:=1)).sub (.cons e_1 (.cons e_2 (.cons .here (.cons .here (.refl))))))
theorem Ug {n:Nat} (hn:1≤n) {v:Nat} {M:VM} (H:HS g h (ae v M::R)):aA n 183 [.ptr v 0] h λr h'=>r=.int .i64 (M.sz:Int)∧h'=h:=by
 refine ay (S:=S183) rfl omQ λk hk=>?_;unfold S183;try simp only
 obtain⟨fv,ov,q,e,H⟩:=ae.E H;refine qK (qQ (qZ ‹_› .here rfl ?_));refine qo ‹_› e_1 ?_;exact qG ⟨rfl,rfl⟩
theorem OQ {n:Nat} (hn:1≤n) {v:Nat} {M:VM} {p:Int} (H:HS g h (ae v M::R)):aA n 185 [.ptr v 0,.int .i64 p] h λr h'=>r=.bool (decide (1≤p∧p<M.sz))∧h'=h:=by
 refine ba (S:=S185) rfl omQ λk hk=>?_;unfold S185;try simp only[iZ]
 obtain⟨fv,ov,q,e,H⟩:=ae.E H;by_cases h1:1≤p
 ·refine zx omQ ?_;refine qW ?_;(try dsimp only);refine qa ?_;(try dsimp only);refine qK (qQ (qZ ‹_› .here rfl ?_));refine qo ‹_› e_1 ?_
  refine Xt (qH (qG ⟨?_,rfl⟩))
  congr 1
  exact decide_eq_decide.2 ⟨λh2=>⟨h1,h2⟩,λh2=>h2.2⟩
 ·refine zK omQ ?_;refine qW ?_;(try dsimp only);refine qU ?_;(try dsimp only);refine qI ?_
  exact qG ⟨by rw[iV (λh2=>h1 h2.1)],rfl⟩
theorem VZ {M:VM} {p x:Int} (O:dp M):dp (zu M p x).2:=by
 unfold zu
 split
 ·rename_i hp
  split
  ·exact O
  ·rename_i hn;refine⟨O.lo,O.hi,O.hP,?_,?_,O.fr⟩
   ·intro c hc;rcases List.mem_append.1 hc with hc |hc
    ·exact O.ins c hc
    ·rw[List.mem_singleton]at hc;subst hc;exact hp
   ·have:=O.un.put (p:=p) (v:=x);rw[Qf hn]at this;exact this
 ·exact O
theorem qqh {n:Nat} (hn:2≤n) {v:Nat} {M:VM} {p x:Int} (H:HS g h (ae v M::R)) (O:dp M) :
  aA n 164 [.ptr v 0,.int .i64 p,.int .u64 x] h λr h'=>r=.int .i64 (zu M p x).1∧HS g h' (ae v (zu M p x).2::R):=by
 refine cL (S:=S164) rfl omQ λk hk=>?_;unfold S164;try simp only[iZ]
 refine qV (OQ omQ H) ?_;rintro _ _ ⟨rfl,rfl⟩;have hO:=O.hi;unfold zu;by_cases hp:1≤p∧p<M.sz
 ·rw[iJ hp];rw[iG hp];obtain⟨i,rfl⟩:∃i:Nat,p=(i:Int):=⟨p.toNat,by omega⟩;have hi:i<M.sz:=by omega
  have hH:=H;obtain⟨fv,ov,q,e,H⟩:=ae.E H;refine jY (qJ (qK (qQ (qZ ‹_› .here rfl ?_))));refine zd (l:=QE (vu M.K i)) (H.sl e_1) hi omQ (vw (enc:=QE) (sz:=2) (λ_=>rfl) (kp hi)) ?_;refine qO H rfl λb h3 H3=>qh H3 .here rfl (by show 0+2≤2;omega) rfl λh4 H4=>?_
  have H5:HS g h4 (qA b (QE (vu M.K i))::qA v [fv,ov,.ptr q 0,.int .i64 M.aK]::qB e 2 M.sz fv ((yx M.sz M.K).flatMap QE)::
   qB 3 1 M.K.length ov (M.K.map λc=>.int .i64 c.1)::bR q M.most M.lv::R):=H4
  unfold QE at H5;cases hg:zW (i:Int) M.K with
  |some y=>
   rw[show vu M.K i=(y,true) by unfold vu;rw[hg]]at H5;refine qQ (qZ ‹_› .here rfl ?_);refine qX (qQ (qZ ‹_› .here rfl ?_));have H6:=ae.I (H5.drop);by_cases hy:y=x
   ·refine qs omQ ?_;refine qJ (qG ⟨by dsimp only;rw[iJ hy];rfl,H6⟩)
   ·refine jQ omQ ?_;refine qX (qG ⟨by dsimp only;rw[iQ hy];rfl,H6⟩)
  |none=>
   rw[show vu M.K i=(0,false) by unfold vu;rw[hg]]at H5;have Cd:=O.uq;refine qQ (qZ ‹_› .here rfl ?_);refine qJ (qK (qQ (qZ ‹_› e_1 rfl ?_)));refine qM rfl ?_;refine Fy (l:=[.int .u64 x,.bool true]) (H5.drop.aG (P:=qB e 2 M.sz fv ((yx M.sz M.K).flatMap QE)) e_1) hi rfl rfl λh6 H6=>?_
   rw[show kT ((yx M.sz M.K).flatMap QE) (i*2) [AV.int .u64 x,AV.bool true]=(yx M.sz (M.K++[((i:Int),x)])).flatMap QE by
    rw[qZM hi hg,← NZ (enc:=QE) (sz:=2) (λ_=>rfl) (by rw[Jg];exact hi)];rfl]at H6
   refine qK (qQ (qZ ‹_› e_1 rfl ?_));refine qm (n:=1) (l:=[.int .i64 (i:Int)]) (sz:=1) H6 rfl rfl rfl rfl λv7 h7 H7=>?_;refine ja (H7.aG (P:=qB 3 1 M.K.length ov (M.K.map λc=>.int .i64 c.1)) e_3) (H7.sl .here) omQ omQ rfl λv8 h8 H8=>?_;refine qK (qQ (qw H8 e_3 (H8.one .here) aN λh9 H9=>qG ⟨rfl,ae.I (M:={ M with K:=M.K++[((i:Int),x)] }) (fv:=fv) (ov:=v8) (q:=q) (e:=e) ?_⟩));rw[List.map_append,List.length_append];exact H9.sub (.cons .here (.cons e_2 (.cons .here (.cons e_1 (.drop (.refl))))))
 ·rw[iQ hp,iV hp];refine jB (qX ?_);exact qG ⟨rfl,H⟩
theorem xN {M:VM} {p:Int} (O:dp M):dp (qe M p).2:=by
 unfold qe
 repeat' split
 all_goals exact⟨O.lo,O.hi,O.hP,O.ins,O.un,O.fr⟩
theorem Qo {n:Nat} (hn:9≤n) {v:Nat} {M:VM} {p:Int} (H:HS g h (ae v M::R)) (O:dp M) :
  aA n 152 [.ptr v 0,.int .i64 p] h λr h'=>r=.bM [.int .u64 (qe M p).1.1,.int .i64 (qe M p).1.2]∧HS g h' (ae v (qe M p).2::R):=by
 refine ba (S:=S152) rfl omQ λk hk=>?_;unfold S152;try simp only[iZ]
 refine qV (OQ omQ H) ?_;rintro _ _ ⟨rfl,rfl⟩;have hO:=O.hi;unfold qe;by_cases hp:1≤p∧p<M.sz
 ·rw[iJ hp];rw[iG hp];obtain⟨i,rfl⟩:∃i:Nat,p=(i:Int):=⟨p.toNat,by omega⟩;have hi:i<M.sz:=by omega
  obtain⟨fv,ov,q,e,H⟩:=ae.E H;refine jY (qJ (qK (qQ (qZ ‹_› .here rfl ?_))));refine qV (qkb omQ (H.aG (P:=bR q M.most M.lv) e_3) O.hP) ?_;rintro _ h2 ⟨rfl,H2⟩;refine qD rfl ?_;refine qD rfl ?_;cases hl:Yp (i:Int) M.lv with
  |some y=>simp only[Option.isSome_some,Option.getD_some];refine qX ?_;exact qG ⟨rfl,ae.I (H2.sub (.cons e_1 (.cons e_1 (.cons e_1 (.refl)))))⟩
  |none=>
   simp only[Option.isSome_none];refine qJ (qK (qQ (qZ ‹_› e_1 rfl ?_)));refine zd (l:=QE (vu M.K i)) (H2.sl e_2) hi omQ (vw (enc:=QE) (sz:=2) (λ_=>rfl) (kp hi)) ?_;refine qO H2 rfl λb h3 H3=>qh H3 .here rfl (by show 0+2≤2;omega) rfl λh4 H4=>?_
   have H5:HS g h4 (qA b (QE (vu M.K i))::bR q M.most M.lv::qA v [fv,ov,.ptr q 0,.int .i64 M.aK]::qB e 2 M.sz fv ((yx M.sz M.K).flatMap QE)::
    qB 3 1 M.K.length ov (M.K.map λc=>.int .i64 c.1)::R):=H4
   unfold QE at H5;cases hg:zW (i:Int) M.K with
   |some y=>rw[show vu M.K i=(y,true) by unfold vu;rw[hg]]at H5;refine qQ (qZ ‹_› .here rfl ?_);refine qX (qQ (qZ ‹_› .here rfl ?_));exact qG ⟨rfl,ae.I (H5.drop.sub (.cons e_1 (.cons e_1 (.cons e_1 (.refl)))))⟩
   |none=>rw[show vu M.K i=(0,false) by unfold vu;rw[hg]]at H5;refine qQ (qZ ‹_› .here rfl ?_);refine qJ (qK (qQ ?_));refine qw H5 (b:=v) e_2 ⟨rfl,rfl⟩ aN λh9 H9=>qG ⟨rfl,ae.I (M:={ M with aK:=(i:Int) }) (fv:=fv) (ov:=ov) (q:=q) (e:=e) (H9.sub (.cons .here (.cons e_2 (.cons e_2 (.cons e_1 (.drop (.refl)))))))⟩
 ·rw[iQ hp,iV hp];refine jB (qX ?_);exact qG ⟨rfl,H⟩
theorem qkC {most:Nat} {lv:List bz} {p v:Int} {n:Nat} (h:∀x∈lv,x.2.length<n):∀x∈(vL most lv p v).2,x.2.length<n:=by
 cases lv with
 |nil=>exact h
 |cons y r=>
  obtain⟨c,hc⟩:=GE (most:=most) (x:=y) (r:=r) (p:=p) (v:=v);rw[hc];intro x hx;rcases List.mem_cons.1 hx with rfl |hx
  ·exact h y (iK ..)
  ·exact h x (iX _ hx)
theorem qYA {most:Nat} {aR:List bz} {n:Nat} (hw:∀x∈aR,x.2.length<n):∀{cs:List Cl} {lv:List bz},(∀x∈lv,x.2.length<n)→∀x∈(vq most aR lv cs).2,x.2.length<n:=by
 intro cs
 induction cs with
 |nil=>intro lv h;exact h
 |cons c cs ih=>
  intro lv h;rw[vP]
  split
  ·exact ih (qkC h)
  ·exact hw
theorem OP {M:VM} {cs:List Cl} (O:dp M):dp (zJ M cs).2:=by
 unfold zJ
 split
 ·exact⟨O.lo,O.hi,(O9 O.hP O.hP rfl).1,O.ins,O.un,qYA O.fr O.fr⟩
 ·exact O
theorem Y4 {n:Nat} (hn:8≤n) {v:Nat} {M:VM} {cs:List Cl} {c:AV} (H:HS g h (ae v M::R)) (O:dp M) (S:Rd g R 2 cs.length c (cs.flatMap jI)) (hc:cs.length<100000) :
  aA n 154 [.ptr v 0,c] h λr h'=>r=.int .i64 (zJ M cs).1∧HS g h' (ae v (zJ M cs).2::R):=by
 refine ba (S:=S154) rfl omQ λk hk=>?_;unfold S154;try simp only[iZ]
 refine x5 (S.sl H.drop) ?_;refine jL (λk s h'=>∃i:Nat,s=(.int .i64 (i:Int),.int .i64 (cs.length:Int),c,c,.ptr v 0,())∧i≤cs.length∧k=cs.length-i∧HS g h' (ae v M::R)∧∀j,j<i→∀d,cs[j]? =some d→1≤d.1∧d.1<M.sz)
  ?_ (m:=cs.length) (by show _<1000000000;omega) ⟨0,rfl,by omega,by omega,H,λj hj=>by omega⟩
 rintro k2 ih s h2 bG ⟨i,rfl,h1,rfl,H,dy⟩;dsimp only;refine xw (λau=>qX ?_) λiu=>qJ ?_
 ·have hi:i<cs.length:=by omega
  have pp:cs[i]? =some cs[i]:=iW hi;refine zd (l:=jI cs[i]) (S.sl H.drop) hi omQ (GZ pp) ?_;refine qO H rfl λb h3 H3=>qh H3 .here rfl (by show 0+2≤2;omega) rfl λh4 H4=>?_;have H5:HS g h4 (qA b (jI cs[i])::ae v M::R):=H4;unfold jI at H5;refine qQ (qZ ‹_› .here rfl ?_);refine qV (OQ omQ H5.drop) ?_;rintro _ _ ⟨rfl,rfl⟩;by_cases dA:1≤cs[i].1∧cs[i].1<M.sz
  ·rw[iG dA];refine jY (qJ (qb omQ ?_));refine bG (cs.length-(i+1)) _ _ omQ ⟨i+1,rfl,by omega,rfl,H5.drop,λj hj d hd=>?_⟩;by_cases rQ:j<i
   ·exact dy j rQ d hd
   ·obtain rfl:j=i:=by omega
    rw[pp]at hd;cases hd;exact dA
  ·rw[iV dA];refine jB (qX (qk ?_));unfold zJ;rw[iQ (λh=>dA (h _ (List.getElem_mem hi)))];exact qG ⟨rfl,H5.drop⟩
 ·have cw:∀d∈cs,1≤d.1∧d.1<M.sz:=by
   intro d hd;obtain⟨j,hj⟩:=List.getElem?_of_mem hd;exact dy j (by have:=(List.getElem?_eq_some_iff.1 hj).1;omega) d hj
  obtain⟨fv,ov,q,e,H⟩:=ae.E H;refine qK (qQ (qZ ‹_› .here rfl ?_));refine qV (qY1 omQ (H.aG (P:=bR q M.most M.lv) e_3) O.hP (S.more.more.more) hc) ?_;rintro _ h4 ⟨rfl,H4⟩;unfold zJ;rw[iJ cw];exact qk (qG ⟨rfl,ae.I (M:={ M with lv:=(vq M.most M.lv M.lv cs).2 }) (fv:=fv) (ov:=ov) (q:=q) (e:=e) (H4.sub (.cons e_1 (.cons e_1 (.cons e_1 (.refl)))))⟩)
theorem qYn {n:Nat} (hn:4≤n) {v:Nat} {M:VM} (H:HS g h (ae v M::R)) (O:dp M) :
  aA n 285 [.ptr v 0] h λr h'=>r=.int .i64 (yc M).1∧HS g h' (ae v (yc M).2::R):=by
 refine ay (S:=S285) rfl omQ λk hk=>?_;unfold S285;try simp only
 obtain⟨fv,ov,q,e,H⟩:=ae.E H;refine qK (qQ (qZ ‹_› .here rfl ?_));refine qV (qqE omQ (H.aG (P:=bR q M.most M.lv) e_3) O.hP) ?_;rintro _ h2 ⟨rfl,H2⟩;exact qG ⟨rfl,ae.I (M:=(yc M).2) (fv:=fv) (ov:=ov) (q:=q) (e:=e) (H2.sub (.cons e_1 (.cons e_1 (.cons e_1 (.cons .here (.refl))))))⟩
theorem OG {n:Nat} (hn:2≤n) {v:Nat} {M:VM} (H:HS g h (ae v M::R)) (O:dp M) :
  aA n 222 [.ptr v 0] h λr h'=>r=.int .i64 (xB M).1∧HS g h' (ae v (xB M).2::R):=by
 refine ay (S:=S222) rfl omQ λk hk=>?_;unfold S222;try simp only
 obtain⟨fv,ov,q,e,H⟩:=ae.E H;refine qK (qQ (qZ ‹_› .here rfl ?_));refine qV (Om omQ (H.aG (P:=bR q M.most M.lv) e_3) O.hP) ?_;rintro _ h2 ⟨rfl,H2⟩;exact qG ⟨rfl,ae.I (M:=(xB M).2) (fv:=fv) (ov:=ov) (q:=q) (e:=e) (H2.sub (.cons e_1 (.cons e_1 (.cons e_1 (.cons .here (.refl))))))⟩
theorem Z6 {n:Nat} (hn:7≤n) {v:Nat} {M:VM} (H:HS g h (ae v M::R)) (O:dp M) :
  aA n 220 [.ptr v 0] h λr h'=>r=.int .i64 (vJ M).1∧HS g h' (ae v (vJ M).2::R):=by
 refine ay (S:=S220) rfl omQ λk hk=>?_;unfold S220;try simp only
 obtain⟨fv,ov,q,e,H⟩:=ae.E H;refine qK (qQ (qZ ‹_› .here rfl ?_));refine qV (qjC omQ (H.aG (P:=bR q M.most M.lv) e_3) O.hP λx hx=>Nat.lt_trans (O.fr x hx) omQ) ?_;rintro _ h2 ⟨rfl,H2⟩;exact qG ⟨rfl,ae.I (M:=(vJ M).2) (fv:=fv) (ov:=ov) (q:=q) (e:=e) (H2.sub (.cons e_1 (.cons e_1 (.cons e_1 (.cons .here (.refl))))))⟩
theorem qYa {n:Nat} (hn:3≤n) {v:Nat} {M:VM} {b:Int} (H:HS g h (ae v M::R)) (O:dp M) :
  aA n 284 [.ptr v 0,.int .i64 b] h λ_ h'=>HS g h' (ae v (eL M b)::R):=by
 refine ba (S:=S284) rfl omQ λk hk=>?_;unfold S284;try simp only
 obtain⟨fv,ov,q,e,H⟩:=ae.E H;refine qK (qQ (qZ ‹_› .here rfl ?_));refine qV (qWF omQ (H.aG (P:=bR q M.most M.lv) e_3) O.hP λx hx=>Nat.lt_trans (O.fr x hx) omQ) ?_;intro _ h2 H2;exact qG (ae.I (M:=eL M b) (fv:=fv) (ov:=ov) (q:=q) (e:=e) (H2.sub (.cons e_1 (.cons e_1 (.cons e_1 (.cons .here (.refl)))))))
theorem U9 {n:Nat} (hn:1≤n) {v:Nat} {M:VM} (H:HS g h (ae v M::R)) :
  aA n 99 [.ptr v 0] h λr h'=>r=.int .i64 M.aK∧h'=h:=by
 refine ay (S:=S99) rfl omQ λk hk=>?_;unfold S99;try simp only
 obtain⟨fv,ov,q,e,H⟩:=ae.E H;refine qK (qQ (qZ ‹_› .here rfl ?_));exact qG ⟨rfl,rfl⟩
theorem V3 {n:Nat} (hn:10≤n) {v:Nat} {M:VM} (H:HS g h (ae v M::R)) (O:dp M) :
  aA n 101 [.ptr v 0] h λr h'=>HS g h' (qB 164 2 (jA M.lv).length r ((jA M.lv).flatMap jI)::ae v M::R):=by
 refine ay (S:=S101) rfl omQ λk hk=>?_;unfold S101;try simp only
 obtain⟨fv,ov,q,e,H⟩:=ae.E H;refine qK (qQ (qZ ‹_› .here rfl ?_));refine qV (qKb omQ (H.aG (P:=bR q M.most M.lv) e_3) O.hP) ?_;intro r h2 H2;refine qG ?_;have H3:=ae.I (v:=v) (M:=M) (fv:=fv) (ov:=ov) (q:=q) (e:=e) (R:=qB 164 2 (jA M.lv).length r ((jA M.lv).flatMap jI)::R) (H2.sub (.cons e_2 (.cons e_2 (.cons e_2 (.cons e_1 (.refl))))));exact H3.sub (.cons e_1 (.refl))
theorem qGc {n:Nat}:∀{l:List bz},(∀x∈l,x.2.length<n)→(l.flatMap (·.2)).length≤l.length*n:=by
 intro l h
 induction l with
 |nil=>simp
 |cons x r ih=>have h1:=h x (iK ..);have h2:=ih λy hy=>h y (iX _ hy);rw[List.flatMap_cons,List.length_append,List.length_cons,Nat.add_mul,Nat.one_mul];omega
theorem qJD {n:Nat} {lv:List bz} (h:∀x∈lv,x.2.length<n):(vK lv).length≤lv.length*n:=by have:=qGc (l:=lv.reverse) (n:=n) λx hx=>h x (List.mem_reverse.1 hx);rw[List.length_reverse]at this;exact this
theorem qKn {n:Nat} (hn:2≤n) {v:Nat} {M:VM} (H:HS g h (ae v M::R)) (O:dp M) :
  aA n 109 [.ptr v 0] h λr h'=>HS g h' (qB 3 1 (vK M.lv).length r ((vK M.lv).map (.int .i64))::ae v M::R):=by
 refine ay (S:=S109) rfl omQ λk hk=>?_;unfold S109;try simp only
 obtain⟨fv,ov,q,e,H⟩:=ae.E H;refine qK (qQ (qZ ‹_› .here rfl ?_));have DM:=qJD O.fr;have hd:=O.hP.deep;refine qV (qGb omQ (H.aG (P:=bR q M.most M.lv) e_3) O.hP omQ) ?_;intro r h2 H2;refine qG ?_;have H3:=ae.I (v:=v) (M:=M) (fv:=fv) (ov:=ov) (q:=q) (e:=e) (R:=qB 3 1 (vK M.lv).length r ((vK M.lv).map (.int .i64))::R) (H2.sub (.cons e_2 (.cons e_2 (.cons e_2 (.cons e_1 (.refl))))));exact H3.sub (.cons e_1 (.refl))
def vN (zs:List Int) (i:Nat):Int:=zs[i]?.getD 0
def kW (zs:List Int):List Cl:=(List.range (dt zs.length-1)).map λi=>(((i+1:Nat):Int),vN zs (i+1))
def jR (zs:List Int) (most:Int):VM:=⟨dt zs.length,kW zs,(max 0 (min most 96)).toNat,[([],[])],0⟩
theorem Pt (zs:List Int):(kW zs).length=dt zs.length-1:=by simp[kW]
theorem Hd (zs:List Int) {i:Nat} (hi:i+1<dt zs.length):(kW zs)[i]? =some (((i+1:Nat):Int),vN zs (i+1)):=by unfold kW;rw[List.getElem?_map,List.getElem?_range omQ];rfl
theorem qzd (zs:List Int) {i:Nat} {p:Int} (hp:(i:Int)<p):zW p ((kW zs).take i)=none:=by rw[Of];intro hm;obtain⟨c,hc,he⟩:=List.mem_map.1 hm;obtain⟨j,hj⟩:=List.getElem?_of_mem hc;have fE:=(List.getElem?_eq_some_iff.1 hj).1;simp[Pt]at fE;rw[List.getElem?_take_of_lt omQ,Hd zs omQ]at hj;cases hj;dsimp only at he;omega
def ur (zs:List Int) (most:Int) (i:Nat):VM:={ jR zs most with K:=(kW zs).take i }
theorem qxc (zs:List Int) (most:Int) (i:Nat):dp (ur zs most i):=by
 have hb:=MU (zs.length:Int);refine⟨hb.1,hb.2,Ps (by show(max 0 (min most 96)).toNat≤96;omega),?_,?_,by intro x hx;simp[ur,jR]at hx;subst hx;simp⟩
 ·intro c hc;obtain⟨j,hj⟩:=List.getElem?_of_mem (List.mem_of_mem_take hc);have fE:=(List.getElem?_eq_some_iff.1 hj).1;rw[Pt]at fE;rw[Hd zs omQ]at hj;cases hj;show 1≤((j+1:Nat):Int)∧((j+1:Nat):Int)<((dt zs.length:Nat):Int);omega
 ·show((((kW zs).take i).map (·.1))).Nodup;refine List.Nodup.sublist ((List.take_sublist i _).map _) ?_;unfold kW;rw[List.map_map];refine List.Pairwise.map _ ?_ (List.nodup_range (n:=dt zs.length-1));intro a b Fx;simp;omega
theorem qGA (zs:List Int) (most:Int):dp (jR zs most):=by have:=qxc zs most (kW zs).length;unfold ur at this;rw[List.take_length]at this;exact this
end
section
abbrev qT:Type:=Int×Int×Int×Int×Int
def zM (x:qT):List AV:=[.int .i64 x.1,.int .i64 x.2.1,.int .i64 x.2.2.1,.int .i64 x.2.2.2.1,.int .u64 x.2.2.2.2]
theorem Ou (l:List qT):qn (l.flatMap zM)=true:=by unfold qn;rw[List.all_eq_true];intro v hv;obtain⟨c,_,hc⟩:=List.mem_flatMap.1 hv;simp[zM]at hc;rcases hc with rfl |rfl |rfl |rfl |rfl<;>rfl
def jc (op:Int):(Int×Int)×(Int×Int)×(Int×Int) :=
 if op=1∨op=11∨op=21 then((0,7),(0,0),(0,0))
 else if op=2∨op=10 then((0,7),(0,7),(0,0))
 else if op=3∨op=4∨op=5∨op=6∨op=7 then((0,7),(0,7),(0,7))
 else if op=8∨op=9 then((0,7),(0,7),(0,15))
 else if op=12 then((0,0),(0,0),(0,40))
 else if op=13 then((0,7),(0,0),(0,40))
 else if op=23 then((1,12),(0,7),(0,6))
 else((0,0),(0,0),(0,0))
def kh (f:Int×Int) (n:Int):Bool:=decide (f.1≤n∧n≤f.2)
def Jx (x:qT):Bool:=decide (1≤x.1∧x.1≤23)&&kh (jc x.1).1 x.2.1&&kh (jc x.1).2.1 x.2.2.1&&kh (jc x.1).2.2 x.2.2.2.1&&decide (x.2.2.2.2=0∨x.1=1)
def xG (op:Int):Bool:=decide (op=14∨op=17)
def jt (op:Int):Int:=if op=15 then 14 else if op=18 then 17 else if op=19 then 18 else 0
def jk (st:List Int):Int:=st.getLast?.getD (-1)
def qR (l:List qT) (i:Int):qT:=(l[i.toNat]?).getD (0,0,0,0,0)
def dh (l:List qT) (st:List Int):Int:=if st=[]then 0 else(qR l (jk st)).1
def zh (l:List qT) (st:List Int) (x:qT):Int :=
 if Jx x=false then 8
 else if 0<jt x.1∧dh l st≠jt x.1 then 12
 else if x.1=16∧dh l st≠14 then 12
 else if xG x.1=true∧5≤st.length then 9
 else 0
def jq (st:List Int) (i op:Int):List Int :=
 if xG op=true∨op=18 then(if 0<jt op then st.dropLast else st)++[i]else(if 0<jt op then st.dropLast else st)
def lf (l:List qT):List qT→Nat→List Int→(Int×Int) ⊕ List Int
 |[],_,st=>.inr st
 |x::r,i,st=>if zh l st x=0 then lf l r (i+1) (jq st i x.1)else .inl (i,zh l st x)
def vI:List qT→Nat→List Int→List Int
 |[],_,_=>[]
 |x::r,i,st=>jk st::vI r (i+1) (jq st i x.1)
def qE (a:List Int) (i:Int):Int:=(a[i.toNat]?).getD 0
def Q6 (l:List qT) (a:List Int) (i:Nat) (x:qT):Prop :=
 (x.1=12∨x.1=13)∧((l.length:Int)<x.2.2.2.1∨(x.2.2.2.1=l.length∧qE a i≠ -1)∨(x.2.2.2.1<l.length∧qE a x.2.2.2.1≠qE a i))
instance {l:List qT} {a:List Int} {i:Nat} {x:qT}:Decidable (Q6 l a i x):=by unfold Q6;infer_instance
def Jh (l:List qT) (a:List Int):List qT→Nat→Int×Int
 |[],_=>(0,0)
 |x::r,i=>if Q6 l a i x then((i:Int),2)else Jh l a r (i+1)
def zf (l:List qT):Int×Int :=
 if l.length=0∨40<l.length then(0,4)
 else match lf l l 0 []with
  | .inl r=>r
  | .inr st=>if st=[]then Jh l (vI l 0 []) l 0 else(jk st,12)
def cd (i:Nat) (st:List Int):Prop:=∀y∈st,0≤y∧y<(i:Int)
theorem cd.nil {i:Nat}:cd i []:=λ_ h=>by cases h
theorem cd.dropLast {i:Nat} {st:List Int} (h:cd i st):cd i st.dropLast:=λy hy=>h y ((List.dropLast_sublist st).subset hy)
theorem cd.behind {i:Nat} {st:List Int} {op:Int} (h:cd i st):cd (i+1) (jq st i op):=by
 have h1:∀s,cd i s→cd (i+1) s:=λs hs y hy=>by have:=hs y hy;omega
 have h2:∀s,cd i s→cd (i+1) (s++[(i:Int)]):=by
  intro s hs y hy;rcases List.mem_append.1 hy with hy |hy
  ·exact h1 s hs y hy
  ·rw[List.mem_singleton]at hy;omega
 unfold jq
 repeat' split
 ·exact h2 _ h.dropLast
 ·exact h2 _ h
 ·exact h1 _ h.dropLast
 ·exact h1 _ h
theorem cd.dI {i:Nat} {st:List Int} (h:cd i st) (hn:st≠[]):0≤jk st∧jk st<(i:Int):=by refine h _ ?_;unfold jk;rw[List.getLast?_eq_some_getLast hn];exact List.getLast_mem hn
theorem Kr (st:List Int) (i op:Int):(jq st i op).length≤st.length+1:=by
 unfold jq
 repeat' split
 all_goals simp
 all_goals omega
theorem Ux:jk []= -1:=rfl
theorem xM {l:List qT} {st:List Int} {x:qT} (h:zh l st x=0):Jx x=true∧(0<jt x.1∨x.1=16→st≠[])∧(xG x.1=true→st.length<5):=by
 unfold zh at h
 split at h
 ·cases h
 ·rename_i h1
  split at h
  ·cases h
  ·rename_i h2
   split at h
   ·cases h
   ·rename_i h3
    split at h
    ·cases h
    ·rename_i h4
     refine⟨by simpa using h1,?_,λhb=>by
      by_cases h5:5≤st.length
      ·exact absurd ⟨hb,h5⟩ h4
      ·omega⟩
     rintro ho rfl;have h0:dh l []=0:=rfl;rw[h0]at h2 h3;rcases ho with ho |ho
     ·exact h2 ⟨ho,by omega⟩
     ·exact h3 ⟨ho,by omega⟩
theorem YL {l r:List qT} {x:qT} {i:Nat} {st:List Int}:lf l (x::r) i st=if zh l st x=0 then lf l r (i+1) (jq st i x.1)else .inl (i,zh l st x):=rfl
theorem Kb:∀{r:List qT} {i:Nat} {st:List Int},(vI r i st).length=r.length:=by
 intro r
 induction r with
 |nil=>intro i st;rfl
 |cons x r ih=>intro i st;show(vI r (i+1) _).length+1=_;rw[ih];rfl
theorem qYS:∀{r:List qT} {i j:Nat} {st:List Int},j<r.length→∃s,(vI r i st)[j]? =some (jk s)∧(∀{l:List qT} {st':List Int},lf l r i st=.inr st'→cd i st→cd (i+j) s∧∀x,r[j]? =some x→zh l s x=0):=by
 intro r
 induction r with
 |nil=>intro i j st h;simp at h
 |cons x r ih=>
  intro i j st h;cases j with
  |zero=>
   refine⟨st,rfl,λ{l st'} hg hs=>⟨hs,?_⟩⟩;intro y hy;simp at hy;subst hy;rw[YL]at hg
   split at hg
   ·assumption
   ·cases hg
  |succ j=>
   obtain⟨s,h1,h2⟩:=ih (i:=i+1) (j:=j) (st:=jq st i x.1) (by simp at h;omega);refine⟨s,h1,λ{l st'} hg hs=>?_⟩;rw[YL]at hg
   split at hg
   ·have:=h2 hg hs.behind;rw[show i+1+j=i+(j+1) by omega]at this;exact this
   ·cases hg
end
section
variable {g h:AH} {L R:List SP}
theorem Qj {D:Nat→Prop} {sz n:Nat} {v:AV} {xs:List AV} (S:Sl D h sz n v xs):One v:=by cases S<;>exact⟨rfl,rfl⟩
theorem yn {v:AV} (o:One v):qn [v]=true:=by simp[qn,o.2]
theorem zU {g' ha:AH} {b off n nx:Nat} {xs ys l:List AV} {L2 R2:List SP} {K0:Go.Ae.R} {Q:AV→AH→Prop} (H:HS g h L) (s:aZ L (qA b xs) R) (hx:(xs.drop off).take n=l) (H2:HS g' ha L2) (s2:aZ L2 (qA b ys) R2) (pZ:(ys.drop off).take n=l) (hl:l.length=n) (h0:0<n) (au:b<nx)
  (w:wp K0 Q):wp (Ys (.ptr b off) (some n) (.agg l) h ha nx K0) Q:=by
 obtain⟨e,A⟩:=H.obj s;obtain⟨e2,A2⟩:=H2.obj s2;exact qxB hl h0 (λi hi=>by rw[A.at,← hx,List.getElem?_take_of_lt hi,List.getElem?_drop]) (λi hi=>by rw[A2.at,← pZ,List.getElem?_take_of_lt hi,List.getElem?_drop]) au w
theorem Ze {u x:Bool} {r:AV} {K:AV→Go.Ae.R} {Q:AV→AH→Prop} (hr:u=true→r=.bool x) (w:wp (K (.bool (u&&x))) Q):wp (gG (.bool u) r (.bool false) K) Q:=by
 cases u
 ·exact w
 ·rw[hr rfl];exact w
end
section
variable {g h:AH} {L R:List SP}
theorem qv1 {s:List UInt8} {K:AV→Go.Ae.R} {Q:AV→AH→Prop} {t:Bool} (ht:O5 .neq s []=some (.bool t)) (w:wp (K (.bool t)) Q):wp (Vj .neq (.str s) (.str []) K) Q:=by show wp (ob (O5 .neq s []) K) Q;rw[ht];exact w
theorem Y2 {n:Nat} (hn:1≤n) {x:Int}:aA n 148 [.int .i64 x] h λv h'=>v=.int .i64 (jt x)∧h'=h:=by
 refine ay (S:=S148) rfl omQ λk hk=>?_;unfold S148;try simp only[iZ]
 repeat' (first |with_reducible refine qX ?_ |with_reducible refine qJ ?_ |(with_reducible refine qa ?_;try dsimp only) |(with_reducible refine jJ ?_;try dsimp only) |(with_reducible refine qU ?_;try dsimp only) |(with_reducible refine qd ?_;try dsimp only) |(with_reducible refine zF ?_;try dsimp only) |with_reducible refine qH ?_ |with_reducible refine qI ?_ |(with_reducible refine qW ?_;try dsimp only) |with_reducible refine qk ?_ |with_reducible refine jY ?_ |with_reducible refine jB ?_ |with_reducible refine qb omQ ?_ |with_reducible refine zD omQ ?_ |with_reducible refine yv omQ ?_ |with_reducible refine gV omQ ?_ |with_reducible refine zk ?_ |with_reducible refine zn ?_ |with_reducible refine xw (λhc=>?_) (λhc=>?_) |with_reducible refine kj (λhc=>?_) (λhc=>?_) |with_reducible refine QD (λhc=>?_) (λhc=>?_) |with_reducible refine yg (λhc=>?_) (λhc=>?_) |with_reducible refine gw (λhc=>?_) (λhc=>?_) |with_reducible refine vA (λhc=>?_) (λhc=>?_) |with_reducible refine wa (λhc=>?_) (λhc=>?_))
 all_goals refine qG ⟨?_,rfl⟩
 all_goals unfold jt
 all_goals congr 1
 all_goals (repeat' split)
 all_goals omega
theorem Kn {n:Nat} (hn:1≤n) {x:Int}:aA n 176 [.int .i64 x] h λv h'=>v=.bool (xG x)∧h'=h:=by
 refine ay (S:=S176) rfl omQ λk hk=>?_;unfold S176;try simp only[iZ]
 unfold xG;by_cases h1:x=14
 ·refine qg omQ ?_;refine qW ?_;(try dsimp only);refine jJ ?_;(try dsimp only);refine qH ?_
  exact qG ⟨by rw[iG (.inl h1)],rfl⟩
 ·refine qj omQ ?_;refine qW ?_;(try dsimp only);refine qd ?_;(try dsimp only)
  refine J7 (qI ?_);exact qG ⟨by congr 1;exact decide_eq_decide.2 ⟨.inr,λh=>h.resolve_left h1⟩,rfl⟩
theorem qzH {n:Nat} (hn:1≤n) {x:Int}:aA n 177 [.int .i64 x] h λv h'=>v=.bool (decide (x=12∨x=13))∧h'=h:=by
 refine ay (S:=S177) rfl omQ λk hk=>?_;unfold S177;try simp only[iZ]
 by_cases h1:x=12
 ·refine qg omQ ?_;refine qW ?_;(try dsimp only);refine jJ ?_;(try dsimp only);refine qH ?_
  exact qG ⟨by rw[iG (.inl h1)],rfl⟩
 ·refine qj omQ ?_;refine qW ?_;(try dsimp only);refine qd ?_;(try dsimp only)
  refine J7 (qI ?_);exact qG ⟨by congr 1;exact decide_eq_decide.2 ⟨.inr,λh=>h.resolve_left h1⟩,rfl⟩
theorem YQ {D:Nat→Prop} {n:Nat} (hn:1≤n) {st:List Int} {v:AV} (S:Sl D h 1 st.length v (st.map (.int .i64))) (hl:st.length<1000) :
  aA n 145 [v] h λr h'=>r=.int .i64 (jk st)∧h'=h:=by
 refine ay (S:=S145) rfl omQ λk hk=>?_;unfold S145;try simp only[iZ]
 refine x5 S ?_;by_cases h0:st.length=0
 ·obtain rfl:=iA h0;refine qg omQ ?_;refine qX ?_;exact qG ⟨rfl,rfl⟩
 ·refine qj omQ ?_;refine qJ (x5 S ?_);refine zD omQ ?_;rw[show(st.length:Int)-((1:Nat):Int)=((st.length-1:Nat):Int) by omega];have cS:st≠[]:=by rintro rfl;exact h0 rfl
  refine jd S (x:=.int .i64 (jk st)) ?_ (qG ⟨rfl,rfl⟩);unfold jk;rw[List.getElem?_map,← List.getLast?_eq_getElem?,List.getLast?_eq_some_getLast cS];rfl
theorem Kt {n:Nat} (hn:1≤n) {f:Int×Int} {x:Int} (H:HS g h R):aA n 198 [.agg [.int .i64 f.1,.int .i64 f.2],.int .i64 x] h λv h'=>v=.bool (kh f x)∧HS g h' R:=by
 refine ba (S:=S198) rfl omQ λk hk=>?_;unfold S198;try simp only
 refine qO H rfl λb h1 H1=>?_;unfold kh;by_cases c1:f.1≤x
 ·refine qQ (qZ ‹_› .here rfl ?_);refine zx omQ ?_;refine qW ?_;(try dsimp only);refine qa ?_;(try dsimp only);refine qQ (qZ ‹_› .here rfl ?_)
  refine Mu (qH ?_);exact qG ⟨by congr 1;exact decide_eq_decide.2 ⟨λh=>⟨c1,h⟩,λh=>h.2⟩,H1.drop⟩
 ·refine qQ (qZ ‹_› .here rfl ?_);refine zK omQ ?_;refine qW ?_;(try dsimp only);refine qU ?_;(try dsimp only);refine qI ?_
  exact qG ⟨by rw[iV (λh=>c1 h.1)],H1.drop⟩
def vX (f:Int×Int):List AV:=[.int .i64 f.1,.int .i64 f.2]
theorem qQa {n:Nat} (hn:1≤n) {x:Int} (H:HS g h R):aA n 196 [.int .i64 x] h λv h'=>v=.bM [.agg (vX (jc x).1),.agg (vX (jc x).2.1),.agg (vX (jc x).2.2)]∧HS g h' R:=by
 refine ay (S:=S196) rfl omQ λk hk=>?_;unfold S196;try simp only[iZ]
 refine qO H rfl λb0 h1 H1=>?_;refine qO H1 rfl λb2 h2 H2=>?_;refine qO H2 rfl λb4 h3 H3=>?_;refine qM (l:=[.int .i64 ((0:Nat):Int),.int .i64 ((7:Nat):Int)]) rfl ?_;refine qO H3 rfl λb7 h4 H4=>?_;refine qh H4 (b:=b7) .here rfl aN rfl λh5 H5=>?_;have H5:HS g h5 (qA b7 (vX (0,7))::qA b4 (vX (0,0))::qA b2 (vX (0,0))::qA b0 (vX (0,0))::R):=H5;clear H H1 H2 H3 H4;refine jo [] (λs h'=>s=(.ptr b4 0,.ptr b2 0,.ptr b0 0,())∧HS g h' (qA b0 (vX (jc x).1)::qA b2 (vX (jc x).2.1)::qA b4 (vX (jc x).2.2)::R)) ?_ ?_
 ·intro j hj;by_cases ha:x=1∨x=11∨x=21
  ·have e:jc x=((0,7),(0,0),(0,0)):=by unfold jc;rw[iJ ha]
   rw[e]at hj;rcases ha with rfl |rfl |rfl
   all_goals (first |with_reducible (refine qW ?_;(try dsimp only);refine qj omQ ?_;refine qJ ?_;refine qj omQ ?_;refine qJ ?_;refine qg omQ ?_;refine qX ?_) |with_reducible (refine qW ?_;(try dsimp only);refine qj omQ ?_;refine qJ ?_;refine qg omQ ?_;refine qX ?_;refine qX ?_) |with_reducible (refine qW ?_;(try dsimp only);refine qg omQ ?_;refine qX ?_;refine qX ?_))
   all_goals refine qF H5 (b:=b7) (off:=0) .here rfl omQ rfl ?_
   all_goals refine qh H5 (b:=b0) e_3 rfl (by simp[vX]) rfl λh6 H6=>?_
   all_goals exact hj _ _ ⟨rfl,H6.sub (.cons .here (.cons e_2 (.cons e_1 (.drop .refl))))⟩
  by_cases hb:x=2∨x=10
  ·have e:jc x=((0,7),(0,7),(0,0)):=by unfold jc;rw[iQ ha,iJ hb]
   rw[e]at hj;rcases hb with rfl |rfl
   all_goals (first |with_reducible (refine qW ?_;(try dsimp only);refine qj omQ ?_;refine qJ ?_;refine qj omQ ?_;refine qJ ?_;refine qj omQ ?_;refine qJ ?_;refine qW ?_;(try dsimp only);refine qj omQ ?_;refine qJ ?_;refine qg omQ ?_;refine qX ?_;refine qW ?_;(try dsimp only)) |with_reducible (refine qW ?_;(try dsimp only);refine qj omQ ?_;refine qJ ?_;refine qj omQ ?_;refine qJ ?_;refine qj omQ ?_;refine qJ ?_;refine qW ?_;(try dsimp only);refine qg omQ ?_;refine qX ?_;refine qX ?_;refine qW ?_;(try dsimp only)))
   all_goals refine qF H5 (b:=b7) (off:=0) .here rfl omQ rfl ?_
   all_goals refine qF H5 (b:=b7) (off:=0) .here rfl omQ rfl ?_
   all_goals refine qh H5 (b:=b0) e_3 rfl (by simp[vX]) rfl λh6 H6=>?_
   all_goals refine qh H6 (b:=b2) e_3 rfl (by simp[vX]) rfl λh7 H7=>?_
   all_goals refine zU H5 (b:=b7) .here rfl H6 e_1 rfl rfl omQ (HS.lt H5 .here) ?_
   all_goals exact hj _ _ ⟨rfl,H7.sub (.cons e_1 (.cons .here (.cons e_1 (.drop .refl))))⟩
  by_cases hc:x=3∨x=4∨x=5∨x=6∨x=7
  ·have e:jc x=((0,7),(0,7),(0,7)):=by unfold jc;rw[iQ ha,iQ hb,iJ hc]
   rw[e]at hj;rcases hc with rfl |rfl |rfl |rfl |rfl
   all_goals (first |with_reducible (refine qW ?_;(try dsimp only);refine qj omQ ?_;refine qJ ?_;refine qj omQ ?_;refine qJ ?_;refine qj omQ ?_;refine qJ ?_;refine qW ?_;(try dsimp only);refine qj omQ ?_;refine qJ ?_;refine qj omQ ?_;refine qJ ?_;refine qW ?_;(try dsimp only);refine qj omQ ?_;refine qJ ?_;refine qj omQ ?_;refine qJ ?_;refine qj omQ ?_;refine qJ ?_;refine qj omQ ?_;refine qJ ?_;refine qg omQ ?_;refine qX ?_;refine qW ?_;(try dsimp only)) |with_reducible (refine qW ?_;(try dsimp only);refine qj omQ ?_;refine qJ ?_;refine qj omQ ?_;refine qJ ?_;refine qj omQ ?_;refine qJ ?_;refine qW ?_;(try dsimp only);refine qj omQ ?_;refine qJ ?_;refine qj omQ ?_;refine qJ ?_;refine qW ?_;(try dsimp only);refine qj omQ ?_;refine qJ ?_;refine qj omQ ?_;refine qJ ?_;refine qj omQ ?_;refine qJ ?_;refine qg omQ ?_;refine qX ?_;refine qX ?_;refine qW ?_;(try dsimp only)) |with_reducible (refine qW ?_;(try dsimp only);refine qj omQ ?_;refine qJ ?_;refine qj omQ ?_;refine qJ ?_;refine qj omQ ?_;refine qJ ?_;refine qW ?_;(try dsimp only);refine qj omQ ?_;refine qJ ?_;refine qj omQ ?_;refine qJ ?_;refine qW ?_;(try dsimp only);refine qj omQ ?_;refine qJ ?_;refine qj omQ ?_;refine qJ ?_;refine qg omQ ?_;refine qX ?_;refine qX ?_;refine qW ?_;(try dsimp only)) |with_reducible (refine qW ?_;(try dsimp only);refine qj omQ ?_;refine qJ ?_;refine qj omQ ?_;refine qJ ?_;refine qj omQ ?_;refine qJ ?_;refine qW ?_;(try dsimp only);refine qj omQ ?_;refine qJ ?_;refine qj omQ ?_;refine qJ ?_;refine qW ?_;(try dsimp only);refine qj omQ ?_;refine qJ ?_;refine qg omQ ?_;refine qX ?_;refine qX ?_;refine qW ?_;(try dsimp only)) |with_reducible (refine qW ?_;(try dsimp only);refine qj omQ ?_;refine qJ ?_;refine qj omQ ?_;refine qJ ?_;refine qj omQ ?_;refine qJ ?_;refine qW ?_;(try dsimp only);refine qj omQ ?_;refine qJ ?_;refine qj omQ ?_;refine qJ ?_;refine qW ?_;(try dsimp only);refine qg omQ ?_;refine qX ?_;refine qX ?_;refine qW ?_;(try dsimp only)))
   all_goals refine qF H5 (b:=b7) (off:=0) .here rfl omQ rfl ?_
   all_goals refine qF H5 (b:=b7) (off:=0) .here rfl omQ rfl ?_
   all_goals refine qF H5 (b:=b7) (off:=0) .here rfl omQ rfl ?_
   all_goals refine qh H5 (b:=b0) e_3 rfl (by simp[vX]) rfl λh6 H6=>?_
   all_goals refine qh H6 (b:=b2) e_3 rfl (by simp[vX]) rfl λh7 H7=>?_
   all_goals refine qh H7 (b:=b4) e_3 rfl (by simp[vX]) rfl λh8 H8=>?_
   all_goals refine zU H6 (b:=b7) e_1 rfl H7 e_2 rfl rfl omQ (HS.lt H5 .here) ?_
   all_goals refine zU H5 (b:=b7) .here rfl H6 e_1 rfl rfl omQ (HS.lt H5 .here) ?_
   all_goals refine zU H5 (b:=b7) .here rfl H6 e_1 rfl rfl omQ (HS.lt H5 .here) ?_
   all_goals exact hj _ _ ⟨rfl,H8.sub (.cons e_2 (.cons e_1 (.cons .here (.drop .refl))))⟩
  by_cases hd:x=8∨x=9
  ·have e:jc x=((0,7),(0,7),(0,15)):=by unfold jc;rw[iQ ha,iQ hb,iQ hc,iJ hd]
   rw[e]at hj;rcases hd with rfl |rfl
   all_goals (first |with_reducible (refine qW ?_;(try dsimp only);refine qj omQ ?_;refine qJ ?_;refine qj omQ ?_;refine qJ ?_;refine qj omQ ?_;refine qJ ?_;refine qW ?_;(try dsimp only);refine qj omQ ?_;refine qJ ?_;refine qj omQ ?_;refine qJ ?_;refine qW ?_;(try dsimp only);refine qj omQ ?_;refine qJ ?_;refine qj omQ ?_;refine qJ ?_;refine qj omQ ?_;refine qJ ?_;refine qj omQ ?_;refine qJ ?_;refine qj omQ ?_;refine qJ ?_;refine qW ?_;(try dsimp only);refine qj omQ ?_;refine qJ ?_;refine qg omQ ?_;refine qX ?_;refine qW ?_;(try dsimp only)) |with_reducible (refine qW ?_;(try dsimp only);refine qj omQ ?_;refine qJ ?_;refine qj omQ ?_;refine qJ ?_;refine qj omQ ?_;refine qJ ?_;refine qW ?_;(try dsimp only);refine qj omQ ?_;refine qJ ?_;refine qj omQ ?_;refine qJ ?_;refine qW ?_;(try dsimp only);refine qj omQ ?_;refine qJ ?_;refine qj omQ ?_;refine qJ ?_;refine qj omQ ?_;refine qJ ?_;refine qj omQ ?_;refine qJ ?_;refine qj omQ ?_;refine qJ ?_;refine qW ?_;(try dsimp only);refine qg omQ ?_;refine qX ?_;refine qX ?_;refine qW ?_;(try dsimp only)))
   all_goals refine qF H5 (b:=b7) (off:=0) .here rfl omQ rfl ?_
   all_goals refine qF H5 (b:=b7) (off:=0) .here rfl omQ rfl ?_
   all_goals refine qM (l:=vX (0,15)) rfl ?_
   all_goals refine qh H5 (b:=b0) e_3 rfl (by simp[vX]) rfl λh6 H6=>?_
   all_goals refine qh H6 (b:=b2) e_3 rfl (by simp[vX]) rfl λh7 H7=>?_
   all_goals refine qh H7 (b:=b4) e_3 rfl (by simp[vX]) rfl λh8 H8=>?_
   all_goals refine zU H5 (b:=b7) .here rfl H6 e_1 rfl rfl omQ (HS.lt H5 .here) ?_
   all_goals exact hj _ _ ⟨rfl,H8.sub (.cons e_2 (.cons e_1 (.cons .here (.drop .refl))))⟩
  by_cases he:x=12
  ·have e:jc x=((0,0),(0,0),(0,40)):=by unfold jc;rw[iQ ha,iQ hb,iQ hc,iQ hd,iJ he]
   rw[e]at hj;subst he;refine qW ?_;(try dsimp only);refine qj omQ ?_;refine qJ (qj omQ ?_);refine qJ (qj omQ ?_);refine qJ (qW ?_);(try dsimp only);refine qj omQ ?_;refine qJ (qj omQ ?_);refine qJ (qW ?_);(try dsimp only);refine qj omQ ?_;refine qJ (qj omQ ?_);refine qJ (qj omQ ?_);refine qJ (qj omQ ?_);refine qJ (qj omQ ?_);refine qJ (qW ?_);(try dsimp only);refine qj omQ ?_;refine qJ (qj omQ ?_);refine qJ (qg omQ ?_);refine qX (qM rfl ?_)
   refine qh H5 (b:=b4) e_1 rfl (by simp[vX]) rfl λh6 H6=>?_;exact hj _ _ ⟨rfl,H6.sub (.cons e_3 (.cons e_2 (.cons .here (.drop .refl))))⟩
  by_cases hf:x=13
  ·have e:jc x=((0,7),(0,0),(0,40)):=by unfold jc;rw[iQ ha,iQ hb,iQ hc,iQ hd,iQ he,iJ hf]
   rw[e]at hj;subst hf;refine qW ?_;(try dsimp only);refine qj omQ ?_;refine qJ (qj omQ ?_);refine qJ (qj omQ ?_);refine qJ (qW ?_);(try dsimp only);refine qj omQ ?_;refine qJ (qj omQ ?_);refine qJ (qW ?_);(try dsimp only);refine qj omQ ?_;refine qJ (qj omQ ?_);refine qJ (qj omQ ?_);refine qJ (qj omQ ?_);refine qJ (qj omQ ?_);refine qJ (qW ?_);(try dsimp only);refine qj omQ ?_;refine qJ (qj omQ ?_);refine qJ (qj omQ ?_);refine qJ (qg omQ ?_);refine qX ?_
   refine qF H5 (b:=b7) (off:=0) .here rfl omQ rfl ?_;refine qM (l:=vX (0,40)) rfl ?_;refine qh H5 (b:=b0) e_3 rfl (by simp[vX]) rfl λh6 H6=>?_;refine qh H6 (b:=b4) e_2 rfl (by simp[vX]) rfl λh7 H7=>?_;exact hj _ _ ⟨rfl,H7.sub (.cons e_1 (.cons e_2 (.cons .here (.drop .refl))))⟩
  by_cases hg:x=23
  ·have e:jc x=((1,12),(0,7),(0,6)):=by unfold jc;rw[iQ ha,iQ hb,iQ hc,iQ hd,iQ he,iQ hf,iJ hg]
   rw[e]at hj;subst hg;refine qW ?_;(try dsimp only);refine qj omQ ?_;refine qJ (qj omQ ?_);refine qJ (qj omQ ?_);refine qJ (qW ?_);(try dsimp only);refine qj omQ ?_;refine qJ (qj omQ ?_);refine qJ (qW ?_);(try dsimp only);refine qj omQ ?_;refine qJ (qj omQ ?_);refine qJ (qj omQ ?_);refine qJ (qj omQ ?_);refine qJ (qj omQ ?_);refine qJ (qW ?_);(try dsimp only);refine qj omQ ?_;refine qJ (qj omQ ?_);refine qJ (qj omQ ?_);refine qJ (qj omQ ?_);refine qJ (qg omQ ?_);refine qX (qM rfl ?_);refine qM rfl ?_;refine qM rfl ?_
   refine qh H5 (b:=b0) e_3 rfl (by simp[vX]) rfl λh6 H6=>?_;refine qh H6 (b:=b2) e_3 rfl (by simp[vX]) rfl λh7 H7=>?_;refine qh H7 (b:=b4) e_3 rfl (by simp[vX]) rfl λh8 H8=>?_;exact hj _ _ ⟨rfl,H8.sub (.cons e_2 (.cons e_1 (.cons .here (.drop .refl))))⟩
  ·have e:jc x=((0,0),(0,0),(0,0)):=by unfold jc;rw[iQ ha,iQ hb,iQ hc,iQ hd,iQ he,iQ hf,iQ hg]
   rw[e]at hj ⊢;refine qW ?_;(try dsimp only);refine qj omQ ?_;refine qJ (qj omQ ?_);refine qJ (qj omQ ?_);refine qJ (qW ?_);(try dsimp only);refine qj omQ ?_;refine qJ (qj omQ ?_);refine qJ (qW ?_);(try dsimp only);refine qj omQ ?_;refine qJ (qj omQ ?_);refine qJ (qj omQ ?_);refine qJ (qj omQ ?_);refine qJ (qj omQ ?_);refine qJ (qW ?_);(try dsimp only);refine qj omQ ?_;refine qJ (qj omQ ?_);refine qJ (qj omQ ?_);refine qJ (qj omQ ?_);refine qJ (qj omQ ?_);refine qJ ?_
   exact hj _ _ ⟨rfl,H5.sub (.cons e_3 (.cons e_2 (.cons e_1 (.drop .refl))))⟩
 ·rintro s h6 ⟨rfl,H6⟩;dsimp only;generalize jc x=F at*;refine qW (qF H6 (b:=b0) (off:=0) .here rfl omQ rfl ?_);refine qF H6 (b:=b2) (off:=0) e_1 rfl omQ rfl ?_;refine qF H6 (b:=b4) (off:=0) e_2 rfl omQ rfl ?_;refine qh H6 (b:=b0) .here rfl (by simp[vX]) rfl λh7 H7=>?_;refine qh H7 (b:=b2) e_1 rfl (by simp[vX]) rfl λh8 H8=>?_;refine qh H8 (b:=b4) e_2 rfl (by simp[vX]) rfl λh9 H9=>?_;refine zU H7 (b:=b4) e_2 rfl H8 e_2 rfl rfl omQ (HS.lt H6 e_2) ?_;refine zU H6 (b:=b4) e_2 rfl H7 e_2 rfl rfl omQ (HS.lt H6 e_2) ?_;refine zU H6 (b:=b2) e_1 rfl H7 e_1 rfl rfl omQ (HS.lt H6 e_1) ?_;refine qk (qF H9 (b:=b0) (off:=0) e_2 rfl omQ rfl ?_);refine qF H9 (b:=b2) (off:=0) e_1 rfl omQ rfl ?_;refine qF H9 (b:=b4) (off:=0) .here rfl omQ rfl ?_;exact qG ⟨rfl,H9.drop.drop.drop⟩
def pr:List (List UInt8):=[[],[115,101,116],[109,111,118,101],[97,100,100],[115,117,98],[109,117,108],[108,101,115,115],[101,113,117,97,108],[108,111,97,100],[115,116,111,114,101],[97,108,108,111,99],[102,114,101,101],[106,117,109,112],[122,101,114,111],[111,112,101,110],[99,108,111,115,101],[117,110,100,111],[101,105,116,104,101,114],[111,114],[100,111,110,101],[114,101,116,114,121],[101,109,105,116],[102,97,105,108],[99,97,108,108]]
theorem qxS {p:Nat} (hp:p<24):∃s,pr[p]? =some s∧O5 .neq s []=some (.bool (decide (1≤(p:Int)∧(p:Int)≤23))):=by
 match p,hp with
 | 0,_=>exact⟨_,rfl,rfl⟩
 | 1,_=>exact⟨_,rfl,rfl⟩
 | 2,_=>exact⟨_,rfl,rfl⟩
 | 3,_=>exact⟨_,rfl,rfl⟩
 | 4,_=>exact⟨_,rfl,rfl⟩
 | 5,_=>exact⟨_,rfl,rfl⟩
 | 6,_=>exact⟨_,rfl,rfl⟩
 | 7,_=>exact⟨_,rfl,rfl⟩
 | 8,_=>exact⟨_,rfl,rfl⟩
 | 9,_=>exact⟨_,rfl,rfl⟩
 | 10,_=>exact⟨_,rfl,rfl⟩
 | 11,_=>exact⟨_,rfl,rfl⟩
 | 12,_=>exact⟨_,rfl,rfl⟩
 | 13,_=>exact⟨_,rfl,rfl⟩
 | 14,_=>exact⟨_,rfl,rfl⟩
 | 15,_=>exact⟨_,rfl,rfl⟩
 | 16,_=>exact⟨_,rfl,rfl⟩
 | 17,_=>exact⟨_,rfl,rfl⟩
 | 18,_=>exact⟨_,rfl,rfl⟩
 | 19,_=>exact⟨_,rfl,rfl⟩
 | 20,_=>exact⟨_,rfl,rfl⟩
 | 21,_=>exact⟨_,rfl,rfl⟩
 | 22,_=>exact⟨_,rfl,rfl⟩
 | 23,_=>exact⟨_,rfl,rfl⟩
 |k+24,h=>exact absurd h omQ
theorem qYl {n:Nat} (hn:2≤n) {x:Int} (H:HS g h R):aA n 197 [.int .i64 x] h λv h'=>∃s,v=.str s∧O5 .neq s []=some (.bool (decide (1≤x∧x≤23)))∧HS g h' R:=by
 refine ay (S:=S197) rfl omQ λk hk=>?_;unfold S197;try simp only
 refine qV (Q':=λv h'=>∃e,HS g h' (qB e 1 24 v (pr.map .str)::R)) ?_ ?_
 ·(refine qy (g:=W246) rfl omQ λk hk=>?_;show wp (S246 (callT tab qx k) _) _;unfold S246;try simp only[iI,uU,iZ])
  exact qm (n:=24) (l:=pr.map .str) (sz:=1) H rfl rfl rfl rfl λv h1 H1=>qG ⟨_,H1⟩
 rintro v h1 ⟨e,H1⟩;refine qV (Q':=λw h'=>∃s,w=.str s∧O5 .neq s []=some (.bool (decide (1≤x∧x≤23)))∧h'=h1) ?_ ?_
 ·refine ba (S:=S245) rfl omQ λk hk=>?_;unfold S245;try simp only[iZ]
  by_cases c0:x<0
  ·refine jF omQ ?_;refine qW ?_;(try dsimp only);refine jJ ?_;(try dsimp only);refine qH (qX ?_)
   exact qG ⟨[],rfl,by rw[iV omQ];rfl,rfl⟩
  ·refine jV omQ ?_;refine qW ?_;(try dsimp only);refine qd ?_;(try dsimp only);refine qo ‹_› .here ?_
   by_cases c1:x<24
   ·obtain⟨p,rfl⟩:∃p:Nat,x=(p:Int):=⟨x.toNat,by omega⟩;obtain⟨s,hs,ht⟩:=qxS (show p<24 by omega);refine zK omQ ?_;refine qI (qJ (jd (H1.sl .here) (x:=.str s) (by rw[List.getElem?_map,hs];rfl) (qG ⟨s,rfl,ht,rfl⟩)))
   ·refine zx omQ ?_;refine qI (qX ?_);exact qG ⟨[],rfl,by rw[iV omQ];rfl,rfl⟩
 ·rintro _ h2 ⟨s,rfl,ht,rfl⟩;exact qG ⟨s,rfl,ht,H1.drop⟩
theorem qze {n:Nat} (hn:3≤n) {x:qT} (H:HS g h R):aA n 174 [.agg (zM x)] h λv h'=>v=.bool (Jx x)∧HS g h' R:=by
 refine ay (S:=S174) rfl omQ λk hk=>?_;unfold S174;try simp only[iZ]
 obtain⟨op,a,b,c,q⟩:=x;refine qO H rfl λb0 h1 H1=>?_;have H1:HS g h1 (qA b0 [.int .i64 op,.int .i64 a,.int .i64 b,.int .i64 c,.int .u64 q]::R):=H1;refine qQ (qZ ‹_› .here rfl ?_);refine qV (qQa omQ H1) ?_;rintro _ h2 ⟨rfl,H2⟩;have hM:Jx (op,a,b,c,q)=(decide (1≤op∧op≤23)&&kh (jc op).1 a&&kh (jc op).2.1 b&&kh (jc op).2.2 c&&decide (q=0∨op=1)):=rfl;rw[hM];generalize jc op=F at*;obtain⟨f1,f2,f3⟩:=F;dsimp only;refine qD rfl ?_;refine qD rfl ?_;refine qD rfl ?_;refine qO H2 rfl λb1 h3 H3=>?_;refine qO H3 rfl λb2 h4 H4=>?_;refine qO H4 rfl λb3 h5 H5=>?_;refine qh H5 (b:=b1) e_2 rfl aN rfl λh6 H6=>?_;refine qh H6 (b:=b2) e_2 rfl aN rfl λh7 H7=>?_;refine qh H7 (b:=b3) e_2 rfl aN rfl λh8 H8=>?_;have H8:HS g h8 (qA b3 (vX f3)::qA b2 (vX f2)::qA b1 (vX f1)::qA b0 [.int .i64 op,.int .i64 a,.int .i64 b,.int .i64 c,.int .u64 q]::R):=H8;clear H H1 H2 H3 H4 H5 H6 H7;refine qQ (qZ ‹_› e_3 rfl ?_);refine qV (qYl omQ H8) ?_;rintro _ h9 ⟨s,rfl,ht,H⟩;refine qv1 ht ?_;clear H8;by_cases c1:1≤op∧op≤23
 rotate_left
 ·rw[iV c1];refine qW ?_;(try dsimp only);refine qU ?_;(try dsimp only);refine qI (qW ?_);(try dsimp only);refine qU ?_;(try dsimp only);refine qI (qW ?_);(try dsimp only);refine qU ?_;(try dsimp only);refine qI (qW ?_);(try dsimp only);refine qU ?_;(try dsimp only);refine qW ?_;(try dsimp only);refine zF ?_;(try dsimp only);refine qW ?_;(try dsimp only);refine qU ?_;(try dsimp only);refine qI ?_
  exact qG ⟨rfl,H.drop.drop.drop.drop⟩
 rw[iG c1];refine qW ?_;(try dsimp only);refine qa ?_;(try dsimp only)
 refine qF H (b:=b1) (off:=0) e_2 rfl omQ rfl ?_;refine qQ (qZ ‹_› e_3 rfl ?_);refine qV (Kt omQ H) ?_;rintro _ dR ⟨rfl,eZ⟩;cases Lc:kh f1 a
 ·refine qH (qW ?_);(try dsimp only);refine qU ?_;(try dsimp only);refine qI (qW ?_);(try dsimp only);refine qU ?_;(try dsimp only);refine qI (qW ?_);(try dsimp only);refine qU ?_;(try dsimp only);refine qW ?_;(try dsimp only);refine zF ?_;(try dsimp only);refine qW ?_;(try dsimp only);refine qU ?_;(try dsimp only);refine qI ?_
  exact qG ⟨rfl,eZ.drop.drop.drop.drop⟩
 refine qH (qW ?_);(try dsimp only);refine qa ?_;(try dsimp only)
 refine qF eZ (b:=b2) (off:=0) e_1 rfl omQ rfl ?_;refine qQ (qZ ‹_› e_3 rfl ?_);refine qV (Kt omQ eZ) ?_;rintro _ cD ⟨rfl,iE⟩;cases Ld:kh f2 b
 ·refine qH (qW ?_);(try dsimp only);refine qU ?_;(try dsimp only);refine qI (qW ?_);(try dsimp only);refine qU ?_;(try dsimp only);refine qW ?_;(try dsimp only);refine zF ?_;(try dsimp only);refine qW ?_;(try dsimp only);refine qU ?_;(try dsimp only);refine qI ?_
  exact qG ⟨rfl,iE.drop.drop.drop.drop⟩
 refine qH (qW ?_);(try dsimp only);refine qa ?_;(try dsimp only)
 refine qF iE (b:=b3) (off:=0) .here rfl omQ rfl ?_;refine qQ (qZ ‹_› e_3 rfl ?_);refine qV (Kt omQ iE) ?_;rintro _ la ⟨rfl,bN⟩;cases Le:kh f3 c
 ·refine qH (qW ?_);(try dsimp only);refine qU ?_;(try dsimp only);refine qW ?_;(try dsimp only);refine zF ?_;(try dsimp only);refine qW ?_;(try dsimp only);refine qU ?_;(try dsimp only);refine qI ?_
  exact qG ⟨rfl,bN.drop.drop.drop.drop⟩
 by_cases c2:q=0
 ·refine qH (qW ?_);(try dsimp only);refine qa ?_;(try dsimp only);refine qQ (qZ ‹_› e_3 rfl ?_);refine qg omQ ?_;refine qW ?_;(try dsimp only);refine jJ ?_;(try dsimp only);refine qW ?_;(try dsimp only);refine qa ?_;(try dsimp only);refine qH (qH ?_)
  exact qG ⟨by rw[iG (.inl c2)];rfl,bN.drop.drop.drop.drop⟩
 by_cases c3:op=1
 ·refine qH (qW ?_);(try dsimp only);refine qa ?_;(try dsimp only);refine qQ (qZ ‹_› e_3 rfl ?_);refine qj omQ ?_;refine qW ?_;(try dsimp only);refine qd ?_;(try dsimp only);refine qQ (qZ ‹_› e_3 rfl ?_);refine qg omQ ?_;refine qW ?_;(try dsimp only);refine qa ?_;(try dsimp only);refine qI (qH ?_)
  exact qG ⟨by rw[iG (.inr c3)];rfl,bN.drop.drop.drop.drop⟩
 ·refine qH (qW ?_);(try dsimp only);refine qa ?_;(try dsimp only);refine qQ (qZ ‹_› e_3 rfl ?_);refine qj omQ ?_;refine qW ?_;(try dsimp only);refine qd ?_;(try dsimp only);refine qQ (qZ ‹_› e_3 rfl ?_);refine qj omQ ?_;refine qW ?_;(try dsimp only);refine qa ?_;(try dsimp only);refine qI (qH ?_)
  exact qG ⟨by rw[iV (λh=>h.elim c2 c3)];rfl,bN.drop.drop.drop.drop⟩
end
section
variable {g h:AH} {L R:List SP}
theorem qkE {l:List qT} {i:Nat} (hi:i<l.length):qR l (i:Int)=l[i]:=by unfold qR;rw[show((i:Int)).toNat=i by omega,iW hi];rfl
theorem Pu {n:Nat} (hn:2≤n) {l:List qT} {st:List Int} {sv tv:AV} (H:HS g h R) (S:Rd g R 5 l.length sv (l.flatMap zM)) (T:Rd g R 1 st.length tv (st.map (.int .i64))) (hs:cd l.length st) (hl:st.length<1000) :
  aA n 175 [tv,.agg [sv]] h λv h'=>v=.int .i64 (dh l st)∧HS g h' R:=by
 refine ba (S:=S175) rfl omQ λk hk=>?_;unfold S175;try simp only[iZ]
 refine qO H (yn (Qj (S.sl H))) λb h1 H1=>?_;refine x5 (T.sl H1.drop) ?_;unfold dh;by_cases h0:st=[]
 ·subst h0;rw[iJ rfl]
  skip
  exact qG ⟨rfl,H1.drop⟩
 ·have my:st.length≠0:=λh=>h0 (iA h);rw[iQ h0];refine qj omQ ?_;refine qJ (qW ?_);(try dsimp only);refine qQ (qZ ‹_› .here rfl ?_)
  refine qV (YQ omQ (T.sl H1.drop) hl) ?_;rintro _ h1 ⟨rfl,rfl⟩;have hi:=hs.dI h0;generalize jk st=p at*;obtain⟨p,rfl⟩:∃q:Nat,p=(q:Int):=⟨p.toNat,by omega⟩;have hp:p<l.length:=by omega
  refine y4 (x:=.int .i64 l[p].1) (S.sl H1.drop) omQ hp (by rw[J6 (sz:=5) zM (λ_=>rfl) _ _ _ omQ,iW hp];rfl) ?_;refine qc ‹_› .here rfl ‹_› .here rfl (HS.lt ‹_› .here) ?_;exact qG ⟨by rw[qkE hp],H1.drop⟩
theorem qKH {n:Nat} (hn:4≤n) {l:List qT} {st:List Int} {sv tv:AV} {x:qT} (H:HS g h R) (S:Rd g R 5 l.length sv (l.flatMap zM)) (T:Rd g R 1 st.length tv (st.map (.int .i64))) (hs:cd l.length st) (hl:st.length<1000) :
  aA n 143 [.agg [sv],tv,.agg (zM x)] h λv h'=>v=.int .i64 (zh l st x)∧HS g h' R:=by
 refine cL (S:=S143) rfl omQ λk hk=>?_;unfold S143;try simp only[iZ]
 refine qO H (yn (Qj (S.sl H))) λb0 h1 H1=>?_;refine qO H1 rfl λb2 h2 H2=>?_;refine qF H2 (b:=b2) (off:=0) .here rfl omQ rfl ?_;refine qV (qze omQ H2) ?_;rintro _ h3 ⟨rfl,H3⟩;clear H H1 H2;obtain⟨op,a,b,c,q⟩:=x;have hW:zh l st (op,a,b,c,q)=if Jx (op,a,b,c,q)=false then 8 else if 0<jt op∧dh l st≠jt op then 12 else if op=16∧dh l st≠14 then 12 else if xG op=true∧5≤st.length then 9 else 0:=rfl
 rw[hW];have H3:HS g h3 (qA b2 [.int .i64 op,.int .i64 a,.int .i64 b,.int .i64 c,.int .u64 q]::qA b0 [sv]::R):=H3;cases Jx (op,a,b,c,q)
 ·refine jB (qX ?_);exact qG ⟨rfl,H3.drop.drop⟩
 rw[iQ aN]
 (first |with_reducible refine qX ?_ |with_reducible refine qJ ?_ |(with_reducible refine qa ?_;try dsimp only) |(with_reducible refine jJ ?_;try dsimp only) |(with_reducible refine qU ?_;try dsimp only) |(with_reducible refine qd ?_;try dsimp only) |(with_reducible refine zF ?_;try dsimp only) |with_reducible refine qH ?_ |with_reducible refine qI ?_ |(with_reducible refine qW ?_;try dsimp only) |with_reducible refine qk ?_ |with_reducible refine jY ?_ |with_reducible refine jB ?_ |with_reducible refine qb omQ ?_ |with_reducible refine zD omQ ?_ |with_reducible refine yv omQ ?_ |with_reducible refine gV omQ ?_ |with_reducible refine zk ?_ |with_reducible refine zn ?_)
 (first |with_reducible refine qX ?_ |with_reducible refine qJ ?_ |(with_reducible refine qa ?_;try dsimp only) |(with_reducible refine jJ ?_;try dsimp only) |(with_reducible refine qU ?_;try dsimp only) |(with_reducible refine qd ?_;try dsimp only) |(with_reducible refine zF ?_;try dsimp only) |with_reducible refine qH ?_ |with_reducible refine qI ?_ |(with_reducible refine qW ?_;try dsimp only) |with_reducible refine qk ?_ |with_reducible refine jY ?_ |with_reducible refine jB ?_ |with_reducible refine qb omQ ?_ |with_reducible refine zD omQ ?_ |with_reducible refine yv omQ ?_ |with_reducible refine gV omQ ?_ |with_reducible refine zk ?_ |with_reducible refine zn ?_)
 refine Ni (λs h'=>s=(.bool (decide (0<jt op∧dh l st≠jt op)),.ptr b2 0,.ptr b0 0,tv,())∧HS g h' (qA b2 [.int .i64 op,.int .i64 a,.int .i64 b,.int .i64 c,.int .u64 q]::qA b0 [sv]::R)) ?_ ?_
 ·intro j hj;refine qQ (qZ ‹_› .here rfl ?_);refine qV (Y2 omQ) ?_;rintro _ h3 ⟨rfl,rfl⟩;by_cases h1:0<jt op
  ·refine vQ omQ ?_;refine qa ?_;(try dsimp only)
   refine qF H3 (b:=b0) (off:=0) e_1 rfl omQ rfl ?_;refine qV (Pu omQ H3 S.more.more T.more.more hs hl) ?_;rintro _ h4 ⟨rfl,H4⟩;refine qQ (qZ ‹_› .here rfl ?_);refine qV (Y2 omQ) ?_;rintro _ h4 ⟨rfl,rfl⟩;refine U2 (qH (qc ‹_› .here rfl ‹_› .here rfl (HS.lt ‹_› .here) ?_));refine hj _ _ ⟨?_,H4⟩
   congr 2
   exact decide_eq_decide.2 ⟨λh=>⟨h1,h⟩,λh=>h.2⟩
  ·refine yQ omQ ?_;refine qU ?_;(try dsimp only);refine qI ?_
   refine hj _ _ ⟨?_,H3⟩;rw[iV (λh=>h1 h.1)]
 clear H3;rintro s h4 ⟨rfl,H⟩;dsimp only;by_cases hA:0<jt op∧dh l st≠jt op
 ·rw[iG hA,iJ hA];refine qX ?_;exact qG ⟨rfl,H.drop.drop⟩
 rw[iV hA,iQ hA];refine qJ (qQ (qZ ‹_› .here rfl ?_));refine J7 (Ni (λs h'=>∃(r:AV) (u x:Bool),s=(r,.bool u,.ptr b2 0,tv,())∧(u=true→r=.bool x)∧((u&&x)=decide (op=16∧dh l st≠14))∧HS g h' (qA b2 [.int .i64 op,.int .i64 a,.int .i64 b,.int .i64 c,.int .u64 q]::qA b0 [sv]::R)) ?_ ?_)
 ·intro j hj;by_cases h1:op=16
  ·rw[iG (show op=((16:Nat):Int)from h1)];refine qa ?_;(try dsimp only)
   refine qF H (b:=b0) (off:=0) e_1 rfl omQ rfl ?_;refine qV (Pu omQ H S.more.more T.more.more hs hl) ?_;rintro _ h4 ⟨rfl,H4⟩;refine U2 (hj _ _ ⟨_,true,decide (¬dh l st=14),rfl,λ_=>rfl,?_,H4⟩);rw[Bool.true_and];exact decide_eq_decide.2 ⟨λh=>⟨h1,h⟩,λh=>h.2⟩
  ·rw[iV (show¬op=((16:Nat):Int)from h1)];refine qU ?_;(try dsimp only)
   refine hj _ _ ⟨_,false,false,rfl,(λh=>by cases h),?_,H⟩;rw[iV (λh=>h1 h.1)];rfl
 clear H;rintro s h4 ⟨r,u,y,rfl,hr,hu,H⟩;dsimp only;refine Ze hr ?_;rw[hu];by_cases hB:op=16∧dh l st≠14
 ·rw[iG hB,iJ hB];refine qX ?_;exact qG ⟨rfl,H.drop.drop⟩
 rw[iV hB,iQ hB];refine qJ (qQ (qZ ‹_› .here rfl ?_));refine qV (Kn omQ) ?_;rintro _ h4 ⟨rfl,rfl⟩;cases hb:xG op
 ·rw[iQ aN];refine qW ?_;(try dsimp only);refine qU ?_;(try dsimp only);refine qI (qJ ?_)
  exact qG ⟨rfl,H.drop.drop⟩
 ·refine qW ?_;(try dsimp only);refine qa ?_;(try dsimp only)
  refine x5 (T.sl H.drop.drop) ?_;by_cases h5:5≤st.length
  ·rw[iJ ⟨rfl,h5⟩];refine zx omQ ?_;refine qH (qX ?_);exact qG ⟨rfl,H.drop.drop⟩
  ·rw[iQ (λh=>h5 h.2)];refine zK omQ ?_;refine qH (qJ ?_);exact qG ⟨rfl,H.drop.drop⟩
def pt (v:AV) (st:List Int):SP:=qB 3 1 st.length v (st.map (.int .i64))
theorem US {n:Nat} (hn:2≤n) {st:List Int} {tv:AV} {i op:Int} (H:HS g h (pt tv st::R)) (hs:0<jt op→st≠[]) (hl:st.length<1000) :
  aA n 144 [tv,.int .i64 i,.int .i64 op] h λv h'=>HS g h' (pt v (jq st i op)::R):=by
 refine cL (S:=S144) rfl omQ λk hk=>?_;unfold S144;try simp only[iZ]
 refine jo [] (λs h'=>∃v,s=(.int .i64 op,.int .i64 i,v,())∧HS g h' (pt v (if 0<jt op then st.dropLast else st)::R)) ?_ ?_
 ·intro j hj;refine qV (Y2 omQ) ?_;rintro _ h ⟨rfl,rfl⟩;by_cases h1:0<jt op
  ·have cS:=hs h1;have my:st.length≠0:=λh=>cS (iA h);rw[iJ h1]at hj;refine vQ h1 (qX ?_);refine x5 (H.sl (e:=3) .here) ?_;refine zD omQ ?_;rw[show(st.length:Int)-((1:Nat):Int)=((st.length-1:Nat):Int) by omega];refine Kk H omQ omQ λv H1=>?_;refine hj _ _ ⟨v,rfl,?_⟩;unfold pt;rw[List.length_dropLast,List.dropLast_eq_take,List.map_take];rw[Nat.mul_one]at H1;exact H1
  ·rw[iQ h1]at hj;refine yQ h1 (qJ ?_);exact hj _ _ ⟨tv,rfl,H⟩
 clear H;rintro s h1 ⟨v,rfl,H⟩;unfold jq;have lq:(if 0<jt op then st.dropLast else st).length<1000:=by
  split
  ·rw[List.length_dropLast];omega
  ·exact hl
 generalize(if 0<jt op then st.dropLast else st)=st at*;dsimp only;refine qW ?_;(try dsimp only)
 refine qV (Kn omQ) ?_;rintro _ h1 ⟨rfl,rfl⟩;have push:∀{K:AV→AH→Go.Ae.R} {Q:AV→AH→Prop},(∀v' h',HS g h' (pt v' (st++[i])::R)→wp (K v' h') Q)→
   wp (yZ h1 3 [.int .i64 ((0:Nat):Int)] 1 [(0,1,.int .i64 i)] λpg rb=>vC rb 3 1 v pg K) Q:=by
  intro K Q w;refine qm (n:=1) (l:=[.int .i64 i]) (sz:=1) H rfl rfl rfl rfl λv5 h5 H5=>?_;refine ja (H5.aG e_1) (H5.sl .here) omQ omQ rfl λv6 h6 H6=>w v6 h6 ?_;unfold pt;rw[List.map_append,List.length_append];exact H6.sub (.cons .here (.drop .refl))
 cases hb:xG op
 ·by_cases Ai:op=18
  ·rw[iJ (.inr Ai)];refine qW ?_;(try dsimp only);refine qd ?_;(try dsimp only);refine qg omQ ?_;refine qI (qX ?_)
   exact push λv' h' H'=>qk (qG H')
  ·rw[iQ (by simp;exact Ai)];refine qW ?_;(try dsimp only);refine qd ?_;(try dsimp only);refine qj omQ ?_;refine qI (qJ (qk ?_))
   exact qG H
 ·rw[iJ (.inl rfl)];refine qW ?_;(try dsimp only);refine jJ ?_;(try dsimp only);refine qH (qX ?_)
  exact push λv' h' H'=>qk (qG H')
theorem Uk {l:List qT} {i:Nat} {st:List Int} (hi:i<l.length):lf l (l.drop i) i st=if zh l st l[i]=0 then lf l (l.drop (i+1)) (i+1) (jq st i l[i].1)else .inl ((i:Int),zh l st l[i]):=by rw[List.drop_eq_getElem_cons hi];rfl
theorem Vr {l:List qT} {i:Nat} {st:List Int} (hi:i<l.length):vI (l.drop i) i st=jk st::vI (l.drop (i+1)) (i+1) (jq st i l[i].1):=by rw[List.drop_eq_getElem_cons hi];rfl
theorem UY {l:List qT} {a:List Int} {i:Nat} (hi:i<l.length):Jh l a (l.drop i) i=if Q6 l a i l[i]then((i:Int),2)else Jh l a (l.drop (i+1)) (i+1):=by rw[List.drop_eq_getElem_cons hi];rfl
theorem Xb {l:List qT} {i:Nat} (hi:i<l.length):((l.flatMap zM).drop (i*5)).take 5=zM l[i]:=vw (sz:=5) (λ_=>rfl) (iW hi)
theorem G0 {n:Nat} (hn:3≤n) {l:List qT} {st':List Int} {sv:AV} (H:HS g h R) (S:Rd g R 5 l.length sv (l.flatMap zM)) (hg:lf l l 0 []=.inr st') (hl:l.length≤100) :
  aA n 147 [.agg [sv]] h λv h'=>HS g h' (qB 3 1 l.length v ((vI l 0 []).map (.int .i64))::R):=by
 refine ay (S:=S147) rfl omQ λk hk=>?_;unfold S147;try simp only[iZ]
 refine qO H (yn (Qj (S.sl H))) λb0 h1 H1=>?_;refine qQ (qZ ‹_› .here rfl ?_);refine x5 (S.sl H1.drop) ?_;refine J5 (n:=l.length) H1 omQ λov h2 H2=>?_;refine qQ (qZ ‹_› e_1 rfl ?_);refine x5 (S.sl H2.drop.drop) ?_
 refine jL (λm s h'=>∃(i:Nat) (st A:List Int) (tv:AV),s=(.int .i64 (i:Int),.int .i64 (l.length:Int),sv,tv,ov,())∧i≤l.length∧m=l.length-i∧cd i st∧st.length≤i∧lf l (l.drop i) i st=.inr st'∧A.length=i∧vI l 0 []=A++vI (l.drop i) i st∧
  HS g h' (qB 3 1 l.length ov ((A++List.replicate (l.length-i) 0).map (.int .i64))::pt tv st::R))
  ?_ (m:=l.length) (by show _<1000000000;omega) ⟨0,[],[],.ak,rfl,by omega,by omega,cd.nil,by simp,hg,rfl,rfl,by
   rw[List.nil_append,List.map_replicate]
   exact(H2.ak (e:=3) (sz:=1)).sub (.cons e_1 (.cons .here (.drop .refl)))⟩
 clear H H1 H2;rintro m ih s h3 bG ⟨i,st,A,tv,rfl,hi,rfl,hs,iP,ey,hA,hR,H⟩;dsimp only;by_cases au:i<l.length
 ·rw[Uk au]at ey;rw[Vr au]at hR;have iw:=Xb au;generalize l[i]=x at*;by_cases hw:zh l st x=0
  rotate_left
  ·rw[iQ hw]at ey;cases ey
  rw[iJ hw]at ey;have ho:=xM hw;refine jF omQ ?_;refine qX (zd (S.sl H.drop.drop) au omQ iw ?_);refine qO H rfl λb h4 H4=>?_;refine qh H4 (b:=b) .here rfl (by simp) rfl λh5 H5=>?_;have H5:HS g h5 (qA b (zM x)::qB 3 1 l.length ov ((A++List.replicate (l.length-i) 0).map (.int .i64))::pt tv st::R):=H5;unfold zM at H5;refine qV (YQ omQ (H5.sl (e:=3) e_2) omQ) ?_;rintro _ h5 ⟨rfl,rfl⟩;refine X5 (H5.aG e_1) omQ ⟨rfl,rfl⟩ λh6 H6=>?_;have ix:((A++List.replicate (l.length-i) 0).map (AV.int .i64)).set i (.int .i64 (jk st))=((A++[jk st])++List.replicate (l.length-(i+1)) 0).map (.int .i64):=by
   rw[← List.map_set]
   congr 1
   rw[List.set_append_right _ _ omQ,hA,Nat.sub_self,show l.length-i=(l.length-(i+1))+1 by omega,List.replicate_succ];simp
  rw[ix]at H6;refine qQ (qZ ‹_› e_1 rfl ?_);refine qV (US omQ (H6.sub (L':=pt tv st::qA b [.int .i64 x.1,.int .i64 x.2.1,.int .i64 x.2.2.1,.int .i64 x.2.2.2.1,.int .u64 x.2.2.2.2]::qB 3 1 l.length ov (((A++[jk st])++List.replicate (l.length-(i+1)) 0).map (.int .i64))::R) (.cons e_2 (.cons e_1 (.cons .here .refl)))) (λh=>ho.2.1 (.inl h)) omQ) ?_;intro He h8 H8;refine qb omQ ?_;have Am:=Kr st i x.1;exact bG (l.length-(i+1)) _ _ omQ ⟨i+1,jq st i x.1,A++[jk st],He,rfl,by omega,rfl,hs.behind,by omega,ey,by simp[hA],by rw[hR];simp,H8.sub (.cons e_2 (.cons .here (.drop .refl)))⟩
 ·obtain rfl:i=l.length:=by omega
  refine jV omQ ?_;refine qJ (qk (qG ?_));rw[hR];rw[Nat.sub_self,List.replicate_zero,List.append_nil]at H;rw[List.drop_length];show HS g h3 (qB _ 1 l.length ov ((A++[]).map _)::R);rw[List.append_nil];exact H.sub (.cons .here (.drop .refl))
theorem qWc {x:qT} (h:Jx x=true) (hj:x.1=12∨x.1=13):0≤x.2.2.2.1∧x.2.2.2.1≤40:=by
 have e:(jc x.1).2.2=(0,40):=by
  rcases hj with e |e<;>rw[e]<;>rfl
 unfold Jx at h;rw[e]at h;simp only[Bool.and_eq_true,kh,decide_eq_true_eq]at h;exact h.1.2
theorem qXl {n:Nat} (hn:2≤n) {l:List qT} {a:List Int} {sv av:AV} (H:HS g h R) (S:Rd g R 5 l.length sv (l.flatMap zM)) (T:Rd g R 1 a.length av (a.map (.int .i64))) (ha:a.length=l.length) (hm:∀x∈l,Jx x=true) (hl:l.length≤100) :
  aA n 146 [.agg [sv],av] h λv h'=>v=.bM [.int .i64 (Jh l a l 0).1,.int .i64 (Jh l a l 0).2]∧HS g h' R:=by
 refine ba (S:=S146) rfl omQ λk hk=>?_;unfold S146;try simp only[iZ]
 refine qO H (yn (Qj (S.sl H))) λb0 h1 H1=>?_;have DN:=(S.sl H).pd;clear H;refine qQ (qZ ‹_› .here rfl ?_);refine xo ‹_› ?_;refine jL (λm s h'=>∃i:Nat,s=(.int .i64 (i:Int),.int .i64 (l.length:Int),sv,.ptr b0 0,av,())∧i≤l.length∧m=l.length-i∧Jh l a l 0=Jh l a (l.drop i) i∧HS g h' (qA b0 [sv]::R))
  ?_ (m:=l.length) (by show _<1000000000;omega) ⟨0,rfl,by omega,by omega,rfl,H1⟩
 clear H1;rintro m ih s h2 bG ⟨i,rfl,hi,rfl,hJ,H⟩;dsimp only;by_cases au:i<l.length
 rotate_left
 ·obtain rfl:i=l.length:=by omega
  rw[List.drop_length]at hJ;rw[hJ];refine jV omQ ?_;refine qJ (qk ?_);exact qG ⟨rfl,H.drop⟩
 rw[UY au]at hJ;have iw:=Xb au;have hmx:=hm l[i] (List.getElem_mem au);generalize l[i]=x at*;obtain⟨op,xa,xb,c,q⟩:=x;unfold zM at iw;refine jF omQ (qX ?_);refine jo [] (λs h'=>s=(.int .i64 (i:Int),.int .i64 (l.length:Int),sv,.ptr b0 0,av,())∧¬Q6 l a i (op,xa,xb,c,q)∧HS g h' (qA b0 [sv]::R)) ?_ ?_
 rotate_left
 ·rintro s h3 ⟨rfl,dy,H3⟩;rw[iQ dy]at hJ;refine qb omQ ?_;exact bG (l.length-(i+1)) _ _ omQ ⟨i+1,rfl,by omega,rfl,hJ,H3⟩
 intro j hj;clear bG;refine zd (S.sl H.drop) au omQ iw ?_;refine qO H rfl λb h4 H4=>?_;refine qh H4 (b:=b) .here rfl aN rfl λh5 H5=>?_;have H5:HS g h5 (qA b [.int .i64 op,.int .i64 xa,.int .i64 xb,.int .i64 c,.int .u64 q]::qA b0 [sv]::R):=H5;clear H H4;refine qQ (qZ ‹_› .here rfl ?_);refine qV (qzH omQ) ?_;rintro _ h5 ⟨rfl,rfl⟩;by_cases fO:op=12∨op=13
 rotate_left
 ·rw[iV fO];refine jB (qX ?_);exact hj _ _ ⟨rfl,λh=>fO h.1,H5.drop⟩
 rw[iG fO];have hc:=qWc hmx fO;dsimp only at hc;obtain⟨p,rfl⟩:∃p:Nat,c=(p:Int):=⟨c.toNat,by omega⟩;have lX:∀k:Nat,k<l.length→(a.map (AV.int .i64))[k]? =some (.int .i64 (qE a (k:Int))):=by intro k hk;unfold qE;rw[List.getElem?_map,show((k:Int)).toNat=k by omega,iW omQ];rfl
 have Ta:Sl (λ_=>True) h5 1 a.length av (a.map (.int .i64)):=T.sl H5.drop.drop;by_cases c1:l.length<p
 ·rw[iJ ⟨fO,.inl (by dsimp only;omega)⟩]at hJ;rw[hJ];refine jY (qJ (qQ (qZ ‹_› .here rfl ?_)));refine qQ (qZ ‹_› e_1 rfl ?_);refine xo ‹_› ?_;refine vQ omQ ?_;refine qW ?_;(try dsimp only);refine jJ ?_;(try dsimp only);refine qW ?_;(try dsimp only);refine zF ?_;(try dsimp only);refine qW ?_;(try dsimp only);refine jJ ?_;(try dsimp only);refine qH (qW ?_);(try dsimp only);refine jJ ?_;(try dsimp only);refine qW ?_;(try dsimp only);refine zF ?_;(try dsimp only);refine qW ?_;(try dsimp only);refine jJ ?_;(try dsimp only);refine qH (qX (qk ?_))
  exact qG ⟨rfl,H5.drop.drop⟩
 by_cases c2:p=l.length
 ·subst c2;refine jY (qJ (qQ (qZ ‹_› .here rfl ?_)));refine qQ (qZ ‹_› e_1 rfl ?_);refine xo ‹_› ?_;refine yQ omQ ?_;refine qW ?_;(try dsimp only);refine qd ?_;(try dsimp only);refine qQ (qZ ‹_› .here rfl ?_);refine qQ (qZ ‹_› e_1 rfl ?_);refine xo ‹_› ?_;refine qg omQ ?_;refine qW ?_;(try dsimp only);refine qa ?_;(try dsimp only)
  refine jd Ta (lX i au) ?_;by_cases c3:qE a i= -1
  ·refine qs (by rw[c3];decide) ?_;refine qW ?_;(try dsimp only);refine qd ?_;(try dsimp only);refine qH (qI (qW ?_));(try dsimp only);refine qd ?_;(try dsimp only);refine qQ (qZ ‹_› .here rfl ?_);refine qQ (qZ ‹_› e_1 rfl ?_);refine xo ‹_› ?_;refine jV omQ ?_;refine qW ?_;(try dsimp only);refine qU ?_;(try dsimp only);refine qW ?_;(try dsimp only);refine qd ?_;(try dsimp only);refine qI (qI (qJ ?_))
   exact hj _ _ ⟨rfl,λh=>by
    rcases h.2 with h |h |h
    ·dsimp only at h;omega
    ·exact h.2 c3
    ·dsimp only at h;omega,H5.drop⟩
  ·refine jQ (λh=>c3 (by rw[h];decide)) ?_;rw[iJ ⟨fO,.inr (.inl ⟨rfl,c3⟩)⟩]at hJ;rw[hJ];refine qW ?_;(try dsimp only);refine qd ?_;(try dsimp only);refine qH (qI (qW ?_));(try dsimp only);refine jJ ?_;(try dsimp only);refine qW ?_;(try dsimp only);refine zF ?_;(try dsimp only);refine qW ?_;(try dsimp only);refine jJ ?_;(try dsimp only);refine qH (qX (qk ?_))
   exact qG ⟨rfl,H5.drop.drop⟩
 ·refine jY (qJ (qQ (qZ ‹_› .here rfl ?_)));refine qQ (qZ ‹_› e_1 rfl ?_);refine xo ‹_› ?_;refine yQ omQ ?_;refine qW ?_;(try dsimp only);refine qd ?_;(try dsimp only);refine qQ (qZ ‹_› .here rfl ?_);refine qQ (qZ ‹_› e_1 rfl ?_);refine xo ‹_› ?_;refine qj omQ ?_;refine qW ?_;(try dsimp only);refine qU ?_;(try dsimp only);refine qW ?_;(try dsimp only);refine qd ?_;(try dsimp only);refine qI (qI (qW ?_));(try dsimp only);refine qd ?_;(try dsimp only);refine qQ (qZ ‹_› .here rfl ?_);refine qQ (qZ ‹_› e_1 rfl ?_);refine xo ‹_› ?_;refine jF omQ ?_;refine qW ?_;(try dsimp only);refine qa ?_;(try dsimp only);refine qQ (qZ ‹_› .here rfl ?_)
  refine jd Ta (lX p omQ) ?_;refine jd Ta (lX i au) ?_;by_cases c3:qE a p=qE a i
  ·refine qs c3 ?_;refine qW ?_;(try dsimp only);refine qd ?_;(try dsimp only);refine qH (qI (qJ ?_))
   exact hj _ _ ⟨rfl,λh=>by
    rcases h.2 with h |h |h
    ·dsimp only at h;omega
    ·have:=h.1;dsimp only at this;omega
    ·exact h.2 c3,H5.drop⟩
  ·refine jQ c3 ?_;rw[iJ ⟨fO,.inr (.inr ⟨by dsimp only;omega,c3⟩)⟩]at hJ;rw[hJ];refine qW ?_;(try dsimp only);refine qd ?_;(try dsimp only);refine qH (qI (qX (qk ?_)))
   exact qG ⟨rfl,H5.drop.drop⟩
theorem qkL {l:List qT}:∀{r:List qT} {i:Nat} {st st':List Int},lf l r i st=.inr st'→∀x∈r,Jx x=true:=by
 intro r
 induction r with
 |nil=>intro i st st' _ x hx;cases hx
 |cons y r ih=>
  intro i st st' h x hx;rw[YL]at h
  split at h
  ·rename_i hw;rcases List.mem_cons.1 hx with rfl |hx
   ·exact(xM hw).1
   ·exact ih h x hx
  ·cases h
theorem qz2 {l:List qT}:∀{r:List qT} {i:Nat} {st:List Int} {q:Int×Int},lf l r i st=.inl q→q.2≠0:=by
 intro r
 induction r with
 |nil=>intro i st q h;cases h
 |cons y r ih=>
  intro i st q h;rw[YL]at h
  split at h
  ·exact ih h
  ·rename_i hw;cases h;exact hw
theorem UN {l:List qT} (h:(zf l).2=0):lf l l 0 []=.inr []:=by
 unfold zf at h
 split at h
 ·cases h
 ·cases hg:lf l l 0 []with
  |inl q=>rw[hg]at h;exact absurd h (qz2 hg)
  |inr st=>
   rw[hg]at h;dsimp only at h
   split at h
   ·rename_i h0;rw[h0]
   ·cases h
theorem Md {n:Nat} (hn:6≤n) {l:List qT} {sv:AV} (H:HS g h R) (S:Rd g R 5 l.length sv (l.flatMap zM)) (hl:l.length≤100) :
  aA n 119 [.agg [sv]] h λv h'=>v=.bM [.int .i64 (zf l).1,.int .i64 (zf l).2]∧HS g h' R:=by
 refine ay (S:=S119) rfl omQ λk hk=>?_;unfold S119;try simp only[iZ]
 refine qO H (yn (Qj (S.sl H))) λb0 h1 H1=>?_;have DN:=(S.sl H).pd;clear H;have hC:zf l=if l.length=0∨40<l.length then(0,4)else match lf l l 0 []with
  | .inl r=>r
  | .inr st=>if st=[]then Jh l (vI l 0 []) l 0 else(jk st,12):=rfl
 generalize zf l=C at*;refine qQ (qZ ‹_› .here rfl ?_);refine xo ‹_› ?_;by_cases c0:l.length=0
 ·rw[iJ (.inl c0)]at hC;subst hC;refine qg omQ ?_;refine qW ?_;(try dsimp only);refine jJ ?_;(try dsimp only);refine qH (qX ?_)
  exact qG ⟨rfl,H1.drop⟩
 by_cases c1:40<l.length
 ·rw[iJ (.inr c1)]at hC;subst hC;refine qj omQ ?_;refine qW ?_;(try dsimp only);refine qd ?_;(try dsimp only);refine qQ (qZ ‹_› .here rfl ?_);refine xo ‹_› ?_;refine vQ omQ ?_;refine qI (qX ?_)
  exact qG ⟨rfl,H1.drop⟩
 rw[iQ omQ]at hC;refine qj omQ ?_;refine qW ?_;(try dsimp only);refine qd ?_;(try dsimp only);refine qQ (qZ ‹_› .here rfl ?_);refine xo ‹_› ?_;refine yQ omQ ?_;refine qI (qJ (qQ (qZ ‹_› .here rfl ?_)));refine xo ‹_› ?_
 generalize hG:lf l l 0 []=G at hC;refine jL (λm s h'=>∃(i:Nat) (st:List Int) (tv:AV),s=(.int .i64 (i:Int),.int .i64 (l.length:Int),sv,tv,.ptr b0 0,())∧i≤l.length∧m=l.length-i∧cd i st∧st.length≤i∧lf l (l.drop i) i st=G∧HS g h' (pt tv st::qA b0 [sv]::R))
  ?_ (m:=l.length) (by show _<1000000000;omega) ⟨0,[],.ak,rfl,by omega,by omega,cd.nil,by simp,hG,H1.ak (e:=3) (sz:=1)⟩
 clear H1;rintro m ih s h2 bG ⟨i,st,tv,rfl,hi,rfl,hs,iP,ey,H⟩;dsimp only;by_cases au:i<l.length
 ·rw[Uk au]at ey;have iw:=Xb au;generalize l[i]=x at*;refine jF omQ ?_;refine qX (zd (S.sl H.drop.drop) au omQ iw ?_);refine qO H rfl λb h4 H4=>?_;refine qh H4 (b:=b) .here rfl (by simp) rfl λh5 H5=>?_;have H5:HS g h5 (qA b (zM x)::pt tv st::qA b0 [sv]::R):=H5;clear H H4;refine qF H5 (b:=b0) (off:=0) e_2 rfl omQ rfl ?_;refine qF H5 (b:=b) (off:=0) .here rfl omQ rfl ?_;refine qV (qKH omQ H5 S.more.more.more (Rd.own (e:=3) e_1) (λy hy=>by have:=hs y hy;omega) omQ) ?_;rintro _ h6 ⟨rfl,H6⟩;by_cases hw:zh l st x=0
  ·rw[iJ hw]at ey;have ho:=xM hw;refine qs hw ?_;unfold zM at H6;refine qJ (qQ (qZ ‹_› .here rfl ?_));refine qV (US omQ (H6.aG e_1) (λh=>ho.2.1 (.inl h)) omQ) ?_;intro He h8 H8;have Am:=Kr st i x.1;refine qb omQ ?_;exact bG (l.length-(i+1)) _ _ omQ ⟨i+1,jq st i x.1,He,rfl,by omega,rfl,hs.behind,by omega,ey,H8.sub (.cons .here (.drop .refl))⟩
  ·rw[iQ hw]at ey;subst ey;rw[hC];refine jQ hw ?_;refine qX (qk ?_);exact qG ⟨rfl,H6.drop.drop.drop⟩
 ·obtain rfl:i=l.length:=by omega
  rw[List.drop_length]at ey;have ey:(Sum.inr st:(Int×Int) ⊕ List Int)=G:=ey;subst ey;dsimp only at hC;refine jV omQ (qJ ?_);refine x5 (H.sl (e:=3) .here) ?_;by_cases h0:st=[]
  ·subst h0;rw[iJ rfl]at hC;rw[show([]:List Int).length=0 from rfl];refine yQ omQ ?_;refine qJ (qW ?_);(try dsimp only)
   refine qF H (b:=b0) (off:=0) e_1 rfl omQ rfl ?_;refine qF H (b:=b0) (off:=0) e_1 rfl omQ rfl ?_;refine qV (G0 omQ H S.more.more hG hl) ?_;intro av h3 H3;refine qV (qXl (a:=vI l 0 []) omQ H3 S.more.more.more (by rw[Kb];exact Rd.own .here) Kb (qkL hG) hl) ?_;rintro _ h4 ⟨rfl,H4⟩;rw[← hC];refine qD rfl ?_;refine qD rfl ?_;refine zU H (b:=b0) e_1 rfl H3 e_2 rfl rfl omQ (HS.lt H e_1) ?_;refine qk ?_;exact qG ⟨rfl,H4.drop.drop.drop⟩
  ·rw[iQ h0]at hC;subst hC;have my:st.length≠0:=λh=>h0 (iA h);refine vQ omQ ?_;refine qX (qV (YQ omQ (H.sl (e:=3) .here) omQ) ?_);rintro _ h3 ⟨rfl,rfl⟩;refine qk ?_;exact qG ⟨rfl,H.drop.drop⟩
theorem qwn {l:List qT} {st':List Int} (hg:lf l l 0 []=.inr st') {i:Nat} (hi:i<l.length) (ho:0<jt l[i].1∨l[i].1=16):∃p:Nat,(vI l 0 [])[i]? =some (p:Int)∧p<l.length:=by
 obtain⟨s,h1,h2⟩:=qYS (r:=l) (i:=0) (j:=i) (st:=[]) hi;obtain⟨h3,h4⟩:=h2 hg cd.nil;have hw:=h4 l[i] (iW hi);have cS:=(xM hw).2.1 ho;have dA:=h3.dI cS;refine⟨(jk s).toNat,?_,by omega⟩;rw[h1]
 congr 1
 omega
end
section
variable {g h:AH} {L R:List SP}
theorem aZ.fb {A A':List SP} {P:SP} (s:aZ A P A') (R:List SP):aZ (A++R) P (A'++R):=by
 induction s with
 |here=>exact .here
 |there s ih=>exact .there ih
theorem HS.mI {A A':List SP} {P:SP} (s:aZ A P A') (H:HS g h (.all A::R)):HS g h (P:: .all A'::R):=by have H1:=(H.b9).aG (aZ.fb s R);have H2:=HS.allI (HS.back (A:=A') H1);exact H2.sub (.cons e_1 (.refl))
theorem HS.pu {A A':List SP} {P:SP} (s:aZ A P A') (H:HS g h (P:: .all A'::R)):HS g h (.all A::R):=by have H1:HS g h (.all A'::P::R):=H.sub (.cons e_1 (.refl));have H2:=(H1.b9).aG (aZ.skip A' .here);exact HS.allI (HS.bZ (aZ.fb s R) H2)
def DO (p:AV×AV) (x:bz):SP:=.all [qB 164 2 x.1.length p.1 (x.1.flatMap jI),qB 3 1 x.2.length p.2 (x.2.map (.int .i64))]
theorem DO.E {p:AV×AV} {x:bz} (H:HS g h (DO p x::R)):HS g h (qB 164 2 x.1.length p.1 (x.1.flatMap jI)::qB 3 1 x.2.length p.2 (x.2.map (.int .i64))::R):=H.b9
theorem DO.I {p:AV×AV} {x:bz} (H:HS g h (qB 164 2 x.1.length p.1 (x.1.flatMap jI)::qB 3 1 x.2.length p.2 (x.2.map (.int .i64))::R)):HS g h (DO p x::R):=H.allI
def M9 (ps:List (AV×AV)):List AV:=ps.reverse.flatMap λp=>[p.1,p.2]
end
section
variable {g h:AH} {L R:List SP}
def bD (lv:List bz):Nat:=(lv.map λx=>x.2.length).sum
theorem kf (x:bz) (r:List bz):bD (x::r)=x.2.length+bD r:=by simp[bD]
theorem qWU {x y:bz} {r:List bz}:bD (Qh (x::y::r)).2=bD (x::y::r):=by unfold bD Qh;simp;omega
theorem qZE (lv:List bz):(vK lv).length=bD lv:=by unfold vK bD;rw[List.length_flatMap,List.map_reverse,Ca]
end
end Go.Proofs.YtefichdddddacaaGreatDoor
