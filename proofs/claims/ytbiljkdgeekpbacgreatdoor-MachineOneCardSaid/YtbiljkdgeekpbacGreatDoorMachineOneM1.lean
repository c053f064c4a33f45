/- Lemmas for 'quietus/quietuslaw28.MachineOne': What a transaction knows and writes, as plain data: cells, levels, views;Write sets: by the program;Levels of cells and frees: by the program;Views: by the ... No condition. -/
import Derived.Test.YtbiljkdgeekpbacGreatDoorMachineOneAe7
import Derived.Test.YtbiljkdgeekpbacGreatDoorMachineOneT
import Derived.KernelRfl
namespace Go.Proofs.YtbiljkdgeekpbacGreatDoor
open Go Go.Ae
set_option maxRecDepth 100000
section
abbrev Cl:Type:=Int×Int
def jP (c:Int×Int):List AV:=[.int .i64 c.1,.int .u64 c.2]
def Gz (p:Int):List Cl→Option Nat
 |[]=>none
 |c::l=>if c.1=p then some 0 else(Gz p l).map (· +1)
def zg (p:Int):List Cl→Option Int
 |[]=>none
 |c::l=>if c.1=p then some c.2 else zg p l
def vW (p v:Int):List Cl→List Cl
 |[]=>[(p,v)]
 |c::l=>if c.1=p then(p,v)::l else c::vW p v l
def vX (l cs:List Cl):List Cl:=cs.foldl (λl c=>vW c.1 c.2 l) l
theorem OG {p:Int} {l:List Cl}:Gz p l=none↔zg p l=none:=by
 induction l with
 |nil=>simp[Gz,zg]
 |cons c l ih=>
  unfold Gz zg
  split
  ·simp
  ·simp[ih]
theorem OE {p:Int}:∀{l:List Cl} {i:Nat},Gz p l=some i→i<l.length∧(∃x,l[i]? =some (p,x)∧zg p l=some x)∧∀v,vW p v l=l.set i (p,v):=by
 intro l
 induction l with
 |nil=>intro i h;cases h
 |cons c l ih=>
  intro i h;unfold Gz at h;unfold zg
  split at h
  ·rename_i hc;cases h;rw[iJ hc];refine⟨by simp,⟨c.2,by rw[← hc];rfl,rfl⟩,λv=>?_⟩;unfold vW;rw[iJ hc];rfl
  ·rename_i hc;rw[iQ hc];cases hi:Gz p l with
   |none=>rw[hi]at h;cases h
   |some j=>rw[hi]at h;cases h;obtain⟨h1,⟨x,h2,h2'⟩,h3⟩:=ih hi;refine⟨by simp;omega,⟨x,by simpa using h2,h2'⟩,λv=>?_⟩;unfold vW;rw[iQ hc,h3];rfl
theorem Jk {p v:Int} {l:List Cl} (h:zg p l=none):vW p v l=l++[(p,v)]:=by
 induction l with
 |nil=>rfl
 |cons c l ih=>
  unfold zg at h
  split at h
  ·cases h
  ·rename_i hc;unfold vW;rw[iQ hc,ih h];rfl
theorem qZm {p:Int}:∀{l:List Cl} {i:Nat},i<l.length→(∀j,j<i→∀c,l[j]? =some c→c.1≠p)→(∃x,l[i]? =some (p,x))→Gz p l=some i:=by
 intro l
 induction l with
 |nil=>intro i h;simp at h
 |cons c l ih=>
  intro i hi h1 ⟨x,h2⟩;unfold Gz;cases i with
  |zero=>simp at h2;rw[iJ (by rw[h2])]
  |succ i=>rw[iQ (h1 0 omQ c rfl),ih (by simpa using hi) (λj hj c' hc'=>h1 (j+1) omQ c' (by simpa using hc')) ⟨x,by simpa using h2⟩];rfl
theorem qqA {p:Int}:∀{l:List Cl},(∀c∈l,c.1≠p)→Gz p l=none:=by
 intro l
 induction l with
 |nil=>intro _;rfl
 |cons c l ih=>intro h;unfold Gz;rw[iQ (h c (iK ..)),ih λc' hc'=>h c' (iX _ hc')];rfl
theorem Gt {p v:Int} {l:List Cl}:(vW p v l).length=if zg p l=none then l.length+1 else l.length:=by
 induction l with
 |nil=>simp[vW,zg]
 |cons c l ih=>
  unfold vW zg
  split
  ·simp
  ·rw[List.length_cons,ih]
   split<;>simp
theorem VG {p q v:Int} {l:List Cl}:zg q (vW p v l)=if q=p then some v else zg q l:=by
 induction l with
 |nil=>
  simp only[vW,zg];by_cases h:p=q
  ·simp[h]
  ·rw[iQ h,iQ (λh'=>h h'.symm)]
 |cons c l ih=>
  unfold vW
  split
  ·rename_i hc;simp only[zg];by_cases h:p=q
   ·simp[h]
   ·rw[iQ h,iQ (λh'=>h h'.symm),iQ (by rw[hc];exact h)]
  ·rename_i hc;simp only[zg,ih];by_cases h:c.1=q
   ·rw[iJ h,iJ h,iQ (by rintro rfl;exact hc h)]
   ·rw[iQ h,iQ h]
def InC (l:List Cl):Prop:=∀c∈l,1≤c.1∧c.1<256
theorem InC.put {l:List Cl} {p v:Int} (h:InC l) (hp:1≤p∧p<256):InC (vW p v l):=by
 induction l with
 |nil=>intro c hc;simp[vW]at hc;subst hc;exact hp
 |cons a l ih=>
  unfold vW
  split
  ·intro c hc;rcases List.mem_cons.1 hc with rfl |hc
   ·exact hp
   ·exact h c (iX _ hc)
  ·intro c hc;rcases List.mem_cons.1 hc with rfl |hc
   ·exact h _ (iK ..)
   ·exact ih (λc hc=>h c (iX _ hc)) c hc
def UnC (l:List Cl):Prop:=(l.map (·.1)).Nodup
theorem qQN {p:Int} {l:List Cl}:zg p l=none↔p∉l.map (·.1):=by
 induction l with
 |nil=>simp[zg]
 |cons c l ih=>
  unfold zg
  split
  ·rename_i h;simp[h]
  ·rename_i h;rw[ih,List.map_cons,List.mem_cons,not_or];exact⟨λh'=>⟨λh2=>h h2.symm,h'⟩,λh'=>h'.2⟩
theorem qYi {p v:Int} {l:List Cl}:(vW p v l).map (·.1)=if zg p l=none then l.map (·.1)++[p]else l.map (·.1):=by
 induction l with
 |nil=>simp[vW,zg]
 |cons c l ih=>
  unfold vW zg
  split
  ·rename_i h;simp[h]
  ·rw[List.map_cons,ih]
   split<;>simp
theorem UnC.put {l:List Cl} {p v:Int} (h:UnC l):UnC (vW p v l):=by
 unfold UnC;rw[qYi]
 split
 ·rename_i hp;rw[qQN]at hp;rw[List.nodup_append];exact⟨h,by simp,λa ha b hb=>by rw[List.mem_singleton]at hb;subst hb;rintro rfl;exact hp ha⟩
 ·exact h
theorem qql {l:List Cl}:∀{cs:List Cl},UnC cs→(∀c∈cs,zg c.1 l=none)→vX l cs=l++cs:=by
 intro cs
 induction cs generalizing l with
 |nil=>intro _ _;simp[vX]
 |cons c cs ih=>
  intro hu hn;have hu':UnC cs:=(List.nodup_cons.1 hu).2;have hc:c.1∉cs.map (·.1):=(List.nodup_cons.1 hu).1;show vX (vW c.1 c.2 l) cs=_
  rw[ih hu' (λd hd=>by
   rw[VG,iQ (by rintro h;exact hc (by rw[← h];exact List.mem_map_of_mem hd))]
   exact hn d (iX _ hd)),Jk (hn c (iK ..)),List.append_assoc]
  rfl
theorem NO {cs:List Cl} (h:UnC cs):vX [] cs=cs:=by rw[qql h (λ_ _=>rfl),List.nil_append]
def YP (m:Nat) (l:List Cl) (p v:Int):Int×List Cl :=
 if p<1∨256≤p then(2,l)else if zg p l=none∧m≤l.length then(5,l)else(0,vW p v l)
def Xs (m:Nat) (l:List Cl):List Cl→Int×List Cl
 |[]=>(0,l)
 |c::cs=>if(YP m l c.1 c.2).1=0 then Xs m (YP m l c.1 c.2).2 cs else YP m l c.1 c.2
theorem qKS {m:Nat} {l:List Cl} {c:Cl} {cs:List Cl}:Xs m l (c::cs)=if(YP m l c.1 c.2).1=0 then Xs m (YP m l c.1 c.2).2 cs else YP m l c.1 c.2:=rfl
theorem GP {m:Nat}:∀{cs l:List Cl},InC cs→l.length+cs.length≤m→Xs m l cs=(0,vX l cs):=by
 intro cs
 induction cs with
 |nil=>intro l _ _;rfl
 |cons c cs ih=>
  intro l hi hl;have hc:=hi c (iK ..);have hp:YP m l c.1 c.2=(0,vW c.1 c.2 l):=by unfold YP;rw[iQ omQ,iQ (by simp at hl;omega)]
  unfold Xs
  rw[hp,iJ rfl,ih (λd hd=>hi d (iX _ hd)) (by
   have:=Gt (p:=c.1) (v:=c.2) (l:=l);simp at hl;show(vW c.1 c.2 l).length+cs.length≤m
   split at this<;>omega)]
  rfl
abbrev LvM:Type:=List Cl×List Int
def Gr (p:Int):List LvM→Option Int
 |[]=>none
 |x::r=>match zg p x.1 with |some v=>some v |none=>Gr p r
def yu (lv:List LvM):Nat:=(lv.map λx=>x.1.length).sum
def jZ (lv:List LvM):List Cl:=lv.foldl (λout x=>vX x.1 out) []
def gA (lv:List LvM):List Int:=lv.reverse.flatMap (·.2)
structure OkL (most:Nat) (lv:List LvM):Prop where
  held:yu lv≤most
  le:most≤96
  ins:∀x∈lv,InC x.1
  un:∀x∈lv,UnC x.1
  one:1≤lv.length
  deep:lv.length≤6
def gw (most:Nat) (lv:List LvM) (p v:Int):Int×List LvM :=
 match lv with
 |[]=>(0,[])
 |x::r=>if p<1∨256≤p then(2,lv)else if zg p x.1=none∧most≤yu lv then(5,lv)else(0,(vW p v x.1,x.2)::r)
def vt (most:Nat) (was lv:List LvM):List Cl→Int×List LvM
 |[]=>(0,lv)
 |c::cs=>if(gw most lv c.1 c.2).1=0 then vt most was (gw most lv c.1 c.2).2 cs else((gw most lv c.1 c.2).1,was)
def QI (lv:List LvM):Int×List LvM:=if 6≤lv.length then(9,lv)else(0,([],[])::lv)
def QH (lv:List LvM):Int×List LvM:=if lv.length=1 then(10,lv)else(0,lv.tail)
def Jv (lv:List LvM):Int×List LvM:=match lv with
 |x::y::r=>(0,(vX y.1 x.1,y.2++x.2)::r)
 |_=>(10,lv)
def XF (lv:List LvM) (b:Int):List LvM:=match lv with
 |x::r=>(x.1,x.2++[b])::r
 |[]=>[]
theorem gC {most:Nat} {was lv:List LvM} {c:Cl} {cs:List Cl}:vt most was lv (c::cs)=if(gw most lv c.1 c.2).1=0 then vt most was (gw most lv c.1 c.2).2 cs else((gw most lv c.1 c.2).1,was):=rfl
theorem xk {x:LvM} {r:List LvM}:yu (x::r)=x.1.length+yu r:=by simp[yu]
theorem Ob {most:Nat} {lv:List LvM} {p v:Int} (O:OkL most lv):OkL most (gw most lv p v).2∧(gw most lv p v).2.length=lv.length:=by
 cases lv with
 |nil=>have:=O.one;simp at this
 |cons x r=>
  unfold gw;dsimp only
  split
  ·exact⟨O,rfl⟩
  ·rename_i hp
   split
   ·exact⟨O,rfl⟩
   ·rename_i h1;have hh:=O.held;rw[xk]at hh;refine⟨⟨?_,O.le,?_,?_,by simp,O.deep⟩,rfl⟩
    ·rw[xk,Gt]
     split
     ·rename_i h2;rw[xk]at h1;have:¬most≤x.1.length+yu r:=λh3=>h1 ⟨h2,h3⟩;omega
     ·exact hh
    ·intro y hy;rcases List.mem_cons.1 hy with rfl |hy
     ·exact(O.ins x (iK ..)).put omQ
     ·exact O.ins y (iX _ hy)
    ·intro y hy;rcases List.mem_cons.1 hy with rfl |hy
     ·exact(O.un x (iK ..)).put
     ·exact O.un y (iX _ hy)
theorem qQm {most:Nat} {was:List LvM} (W:OkL most was):∀{cs:List Cl} {lv:List LvM},OkL most lv→lv.length=was.length→OkL most (vt most was lv cs).2∧(vt most was lv cs).2.length=was.length:=by
 intro cs
 induction cs with
 |nil=>intro lv O hl;exact⟨O,hl⟩
 |cons c cs ih=>
  intro lv O hl;unfold vt
  split
  ·exact ih (Ob O).1 ((Ob O).2.trans hl)
  ·exact⟨W,rfl⟩
theorem qx5 {most:Nat} {lv:List LvM} (O:OkL most lv):OkL most (QI lv).2:=by
 unfold QI
 split
 ·exact O
 ·refine⟨by rw[xk];have:=O.held;simpa using this,O.le,?_,?_,by simp,by simp;omega⟩
  ·intro y hy;rcases List.mem_cons.1 hy with rfl |hy
   ·intro c hc;cases hc
   ·exact O.ins y hy
  ·intro y hy;rcases List.mem_cons.1 hy with rfl |hy
   ·exact List.nodup_nil
   ·exact O.un y hy
theorem qzs {most:Nat} {lv:List LvM} (O:OkL most lv):OkL most (QH lv).2:=by
 unfold QH
 split
 ·exact O
 ·rename_i h1;cases lv with
  |nil=>have:=O.one;simp at this
  |cons x r=>
   have hh:=O.held;have h2:=O.deep;rw[xk]at hh;simp at h1 h2;refine⟨by show yu r≤most;omega,O.le,λy hy=>O.ins y (iX _ hy),λy hy=>O.un y (iX _ hy),?_,by show r.length≤6;omega⟩;cases r with
   |nil=>simp at h1
   |cons _ _=>simp
theorem Ur:∀{cs l:List Cl},(vX l cs).length≤l.length+cs.length:=by
 intro cs
 induction cs with
 |nil=>intro l;exact Nat.le_refl _
 |cons c cs ih=>
  intro l;have:=ih (l:=vW c.1 c.2 l);have h2:=Gt (p:=c.1) (v:=c.2) (l:=l);show(vX (vW c.1 c.2 l) cs).length≤_;rw[List.length_cons]
  split at h2<;>omega
theorem InC.puts:∀{cs l:List Cl},InC l→InC cs→InC (vX l cs):=by
 intro cs
 induction cs with
 |nil=>intro l h _;exact h
 |cons c cs ih=>intro l h hc;exact ih (h.put (hc c (iK ..))) λd hd=>hc d (iX _ hd)
theorem UnC.puts:∀{cs l:List Cl},UnC l→UnC (vX l cs):=by
 intro cs
 induction cs with
 |nil=>intro l h;exact h
 |cons c cs ih=>intro l h;exact ih h.put
theorem qxp {most:Nat} {lv:List LvM} (O:OkL most lv):OkL most (Jv lv).2:=by
 match lv,O with
 |[],O=>exact O
 |[x],O=>exact O
 |x::y::r,O=>
  have hh:=O.held;have h2:=O.deep;rw[xk,xk]at hh;have:=Ur (cs:=x.1) (l:=y.1);refine⟨by show yu ((vX y.1 x.1,y.2++x.2)::r)≤most;rw[xk];dsimp only;omega,O.le,?_,?_,by simp[Jv],by simp[Jv]at h2 ⊢;omega⟩
  ·intro z hz;rcases List.mem_cons.1 hz with rfl |hz
   ·exact(O.ins y osQ).puts (O.ins x osQ)
   ·exact O.ins z (by simp[hz])
  ·intro z hz;rcases List.mem_cons.1 hz with rfl |hz
   ·exact(O.un y osQ).puts
   ·exact O.un z (by simp[hz])
theorem qjr {most:Nat} {lv:List LvM} {b:Int} (O:OkL most lv):OkL most (XF lv b):=by
 cases lv with
 |nil=>exact O
 |cons x r=>
  refine⟨O.held,O.le,?_,?_,by simp[XF],O.deep⟩
  ·intro z hz;rcases List.mem_cons.1 hz with rfl |hz
   ·exact O.ins x osQ
   ·exact O.ins z (by simp[hz])
  ·intro z hz;rcases List.mem_cons.1 hz with rfl |hz
   ·exact O.un x osQ
   ·exact O.un z (by simp[hz])
end
section
variable {g h:AH} {L R:List SP}
def WrC (w m:Nat) (l:List Cl):SP:=.ex λv=>.all [qw w [.int .i64 (m:Int),v],qy 164 2 l.length v (l.flatMap jP)]
theorem WrC.E {w m:Nat} {l:List Cl} (H:HS g h (WrC w m l::R)):∃v,HS g h (qw w [.int .i64 (m:Int),v]::qy 164 2 l.length v (l.flatMap jP)::R):=by obtain⟨v,H⟩:=H.exE;exact⟨v,H.allE⟩
theorem WrC.I {w m:Nat} {l:List Cl} {v:AV} (H:HS g h (qw w [.int .i64 (m:Int),v]::qy 164 2 l.length v (l.flatMap jP)::R)):HS g h (WrC w m l::R) :=
 HS.exI v (HS.allI H)
theorem qZC (l:List Cl):qp (l.flatMap jP)=true:=by unfold qp;rw[List.all_eq_true];intro v hv;obtain⟨c,_,hc⟩:=List.mem_flatMap.1 hv;simp[jP]at hc;rcases hc with rfl |rfl<;>rfl
theorem Kw {l:List Cl} {i:Nat} {c:Cl} (h:l[i]? =some c):((l.flatMap jP).drop (i*2)).take 2=jP c:=by obtain⟨hi,e⟩:=List.getElem?_eq_some_iff.1 h;rw[JZ jP (λ_=>rfl),List.drop_eq_getElem_cons hi,e,List.flatMap_cons];rfl
theorem qxH {l:List Cl} {i:Nat} {p x v:Int} (h:l[i]? =some (p,x)):(l.flatMap jP).set (i*2+1) (.int .u64 v)=(l.set i (p,v)).flatMap jP:=by
 have hi:=(List.getElem?_eq_some_iff.1 h).1;apply List.ext_getElem?;intro j;have hd:j=j/2*2+j%2:=by omega
 have hm:j%2<2:=by omega
 rw[List.getElem?_set,XG (sz:=2) jP (λ_=>rfl)];have e1:=Xf (sz:=2) jP (λ_=>rfl) l (j/2) (j%2) hm;have e2:=Xf (sz:=2) jP (λ_=>rfl) (l.set i (p,v)) (j/2) (j%2) hm;rw[← hd]at e1 e2;rw[e1,e2,List.getElem?_set];by_cases h1:i*2+1=j
 ·have:j/2=i:=by omega
  have h3:j%2=1:=by omega
  rw[iJ h1,iJ omQ,iJ this.symm,iJ hi,h3];rfl
 ·rw[iQ h1];by_cases h2:i=j/2
  ·have h3:j%2=0:=by omega
   rw[iJ h2,iJ hi,h3,← h2,h];rfl
  ·rw[iQ h2]
def zI (o:Option Nat):Int:=match o with |some i=>(i:Int) |none=>-1
theorem ZB {n:Nat} (hn:1≤n) {m:Nat} (hm:m≤96) (H:HS g h R):t_w n 149 [.int .i64 (m:Int)] h λv h'=>∃w,v=.ptr w 0∧HS g h' (WrC w m []::R):=by
 refine t_e1 rfl omQ λk hk=>?_;unfold S149;try simp only[iZ]
 refine ju (zD (qL rfl (qP H rfl λw h2 H2=>qj ⟨w,rfl,?_⟩)));rw[show max ((0:Nat):Int) (min (m:Int) ((96:Nat):Int))=(m:Int) by omega]at H2;exact WrC.I ((H2.nils).sel e_1 :)
theorem qWA {n:Nat} (hn:2≤n) {p:Int} {v:AV} {c0:Nat} {l:List Cl} (H:HS g h L) (S:Rd g L 2 l.length v (l.flatMap jP)) (s:Sel L (qw c0 [.int .i64 p]) R) (hl:l.length<1000000) :
  t_w n 322 [v,.fn 323 [] [.ptr c0 0]] h λv h'=>v=.int .i64 (zI (Gz p l))∧HS g h' L:=by
 refine t_e2 rfl omQ λk hk=>?_;unfold S322;try simp only[iZ]
 refine zu (S.sl H) ?_
 refine(jM (λm s h'=>∃i:Nat,s=(.int .i64 (i:Int),.int .i64 (l.length:Int),.fn 323 [] [.ptr c0 0],v,())∧i≤l.length∧m=l.length-i∧HS g h' L∧
  (∀j,j<i→∀c,l[j]? =some c→c.1≠p)) ?_ (m:=l.length) omQ ⟨0,rfl,by omega,by omega,H,λj hj=>by omega⟩)
 rintro m ih s' h' hih ⟨i,rfl,h1,rfl,H,h2⟩;refine zL (λhlt=>qZ ?_) λhge=>qJ (qk (qj ⟨?_,H⟩))
 ·have hi:i<l.length:=by omega
  have hc:l[i]? =some l[i]:=iW hi;refine zd (S.sl H) hi omQ (Kw hc)<|qG (Q':=λv h2=>v=.bool (decide (l[i].1=p))∧HS g h2 L) (qyU rfl omQ λk hk=>?_) ?_
  ·show wp (S323 (callT tab qx k) _ _ _).1 _;unfold S323;try simp only[ iZ]
   refine qP H rfl λb h3 H3=>?_;refine qQ (qX ‹_› .here rfl ?_);refine qX H3 (.there s) rfl (Xh (qj ⟨rfl,H3.drop⟩))
  ·rintro _ h3 ⟨rfl,H3⟩;refine qwA (λhe=>qk (qj ⟨?_,H3⟩)) λhne=>qc omQ ?_
   ·rw[qZm hi h2 ⟨l[i].2,by rw[hc,← he]⟩];rfl
   ·refine hih (l.length-(i+1)) _ _ omQ ⟨i+1,rfl,by omega,rfl,H3,λj hj c hc'=>?_⟩;by_cases h4:j<i
    ·exact h2 j h4 c hc'
    ·obtain rfl:j=i:=by omega
     rw[hc]at hc';cases hc';exact hne
 ·rw[qqA λc hc=>?_]
  ·rfl
  ·obtain⟨j,hj⟩:=List.getElem?_of_mem hc;exact h2 j (by have:=(List.getElem?_eq_some_iff.1 hj).1;omega) c hj
theorem qZA {n:Nat} (hn:3≤n) {w m:Nat} {l:List Cl} {p:Int} (H:HS g h (WrC w m l::R)) (hl:l.length<1000000) :
  t_w n 285 [.ptr w 0,.int .i64 p] h λv h'=>v=.int .i64 (zI (Gz p l))∧HS g h' (WrC w m l::R):=by
 refine t_e2 rfl omQ λk hk=>?_;unfold S285;try simp only[iZ]
 obtain⟨v,H⟩:=WrC.E H;refine Yq H ⟨rfl,rfl⟩ λc0 h2 H2=>?_;refine qW (qQ (qX ‹_› e_1 rfl ?_));refine qG (qWA omQ H2 (H2.rd e_2) .here hl) ?_;rintro _ h3 ⟨rfl,H3⟩;exact qj ⟨rfl,WrC.I H3.drop⟩
theorem qVn {n:Nat} (hn:4≤n) {w m:Nat} {l:List Cl} {p:Int} (H:HS g h (WrC w m l::R)) (hl:l.length<1000000) :
  t_w n 215 [.ptr w 0,.int .i64 p] h λv h'=>v=.tup [.int .u64 ((zg p l).getD 0),.bool (zg p l).isSome]∧HS g h' (WrC w m l::R):=by
 refine t_e2 rfl omQ λk hk=>?_;unfold S215;try simp only[iZ]
 refine qG (qZA omQ H hl) ?_;rintro _ h3 ⟨rfl,H3⟩;cases hi:Gz p l with
 |none=>refine zF (by show¬((0:Nat):Int)≤ -1;omega)<|qJ<|qj ⟨by rw[OG.1 hi];rfl,H3⟩
 |some i=>obtain⟨h1,⟨x,h2,h2'⟩,_⟩:=OE hi;refine zc (by show((0:Nat):Int)≤(i:Int);omega) ?_;obtain⟨v,H4⟩:=WrC.E H3;refine qZ (qW (qQ (qX ‹_› .here rfl ?_)));refine yn (H4.sl e_1) omQ h1 ?_ (qj ⟨by rw[h2'];rfl,H3⟩);rw[Xf jP (λ_=>rfl) _ _ _ omQ,h2];rfl
theorem qK5 {n:Nat} (hn:4≤n) {w m:Nat} {l:List Cl} {p x:Int} (H:HS g h (WrC w m l::R)) (hl:l.length<1000000) :
  t_w n 214 [.ptr w 0,.int .i64 p,.int .u64 x] h λv h'=>v=.int .i64 (YP m l p x).1∧HS g h' (WrC w m (YP m l p x).2::R):=by
 refine t_e3 rfl omQ λk hk=>?_;unfold S214;try simp only[iZ]
 unfold YP;by_cases hp:p<1∨256≤p
 ·rw[iJ hp]
  repeat' (first |refine qZ ?_ |refine qJ ?_ |(refine qa ?_;try dsimp only) |(refine qs ?_;try dsimp only) |(refine qT ?_;try dsimp only) |(refine qe ?_;try dsimp only) |(refine zK ?_;try dsimp only) |refine qD ?_ |refine qE ?_ |(with_reducible refine qV ?_;try dsimp only) |refine qk ?_ |refine jk ?_ |refine jA ?_ |refine qc omQ ?_ |refine zJ omQ ?_ |refine xr omQ ?_ |refine yy omQ ?_ |refine ju ?_ |refine zD ?_ |refine qg omQ ?_ |refine qK omQ ?_ |refine jX omQ ?_ |refine q9 omQ ?_ |refine jT omQ ?_ |refine jD omQ ?_ |refine Ji omQ ?_ |refine YV omQ ?_ |refine yp omQ ?_ |refine yT omQ ?_ |refine zc omQ ?_ |refine zF omQ ?_ |refine zL (λhc=>?_) (λhc=>?_) |refine kV (λhc=>?_) (λhc=>?_) |refine kG (λhc=>?_) (λhc=>?_) |refine yC (λhc=>?_) (λhc=>?_) |refine gK (λhc=>?_) (λhc=>?_) |refine yS (λhc=>?_) (λhc=>?_) |refine wG (λhc=>?_) (λhc=>?_))
  all_goals exact qj ⟨rfl,H⟩
 rw[iQ hp];refine jD omQ<|qV<|qe<|zF omQ<|qE (qJ ?_)
 refine qG (qZA omQ H hl) ?_;rintro _ h3 ⟨rfl,H3⟩;cases hi:Gz p l with
 |none=>
  refine zF (by show¬((0:Nat):Int)≤ -1;omega) ?_;have hg:=OG.1 hi;obtain⟨v,H4⟩:=WrC.E H3;refine qJ (qW (qQ (qX ‹_› .here rfl ?_)));refine qm ‹_› e_1<|qW (qQ (qX ‹_› .here rfl ?_));by_cases hf:m≤l.length
  ·rw[iJ ⟨hg,hf⟩];refine zc omQ<|qZ<|qj ⟨rfl,H3⟩
  ·rw[iQ (λh=>hf h.2)];refine zF omQ<|qJ (qW (qQ (qX ‹_› .here rfl ?_)));refine qL rfl<|qh H4 rfl rfl rfl rfl λv5 h5 H5=>?_;refine jf (H5.sel e_2) (H5.sl .here) omQ omQ rfl λv6 h6 H6=>?_;refine qW (qQ (qA H6 e_2 (H6.one .here) osQ λh7 H7=>qj ⟨rfl,WrC.I (v:=v6) ?_⟩));rw[Jk hg,List.flatMap_append,List.length_append];exact H7.pk [0,0] 1
 |some i=>obtain⟨h1,⟨y,h2,h2'⟩,h5⟩:=OE hi;refine zc (by show((0:Nat):Int)≤(i:Int);omega) ?_;obtain⟨v,H4⟩:=WrC.E H3;refine qZ (qW (qQ (qX ‹_› .here rfl ?_)));rw[iQ (λh=>by rw[h2']at h;cases h.1)];refine jQ7 (H4.sel e_1) h1 omQ ⟨rfl,rfl⟩ λh6 H6=>qj ⟨rfl,WrC.I (v:=v) ?_⟩;rw[qxH h2]at H6;rw[h5,List.length_set];exact H6.pk [1] 0
theorem qZH {n:Nat} (hn:1≤n) {v:AV} {l:List Cl} (H:HS g h L) (s:Sel L (qy 164 2 l.length v (l.flatMap jP)) R) (hl:l.length<1000000) :
  t_w n 157 [v] h λv' h'=>HS g h' (qy 164 2 l.length v' (l.flatMap jP)::L):=by
 refine t_e1 rfl omQ λk hk=>?_;unfold S157;try simp only[iZ]
 refine JS H s (λ_ h0=>qZ (qj ?_)) (qJ ?_)
 ·have:=iA h0;subst this;exact H.nils
 ·refine qh (l:=[]) H rfl rfl rfl rfl λv2 h2 H2=>?_;refine jf H2 (H2.sl (.there s)) omQ omQ (qZC l) λv3 h3 H3=>qj ?_;rw[Nat.zero_add,List.nil_append]at H3;exact H3
theorem Ge {n:Nat} (hn:2≤n) {w m:Nat} {l:List Cl} (H:HS g h (WrC w m l::R)) (hl:l.length<1000000) :
  t_w n 151 [.ptr w 0] h λv h'=>HS g h' (qy 164 2 l.length v (l.flatMap jP)::WrC w m l::R):=by
 refine t_e1 rfl omQ λk hk=>?_;unfold S151;try simp only[iZ]
 obtain⟨v,H⟩:=WrC.E H;refine qW (qQ (qX ‹_› .here rfl ?_));refine qG (qZH omQ H e_1 hl) λv3 h3 H3=>qj ?_;have:=WrC.I (H3.sub (L':=_::_::qy 164 2 l.length v3 (l.flatMap jP)::R) (.cons e_1 (.cons e_1 .refl)));exact this.pk [1] 0
theorem qwh {n:Nat} (hn:1≤n) {w m:Nat} {l:List Cl} (H:HS g h (WrC w m l::R)) :
  t_w n 324 [.ptr w 0] h λv h'=>v=.int .i64 (l.length:Int)∧h'=h:=by
 refine t_e1 rfl omQ λk hk=>?_;unfold S324;try simp only[iZ]
 obtain⟨v,H⟩:=WrC.E H;refine qW (qQ (qX ‹_› .here rfl ?_));refine qm ‹_› e_1<|qj ⟨rfl,rfl⟩
def kS (m:Nat) (l cs:List Cl):Int×List Cl:=if(Xs m l cs).1=0 then Xs m l cs else((Xs m l cs).1,l)
theorem GF {n:Nat} (hn:5≤n) {w m:Nat} {l cs:List Cl} {c:AV} (H:HS g h (WrC w m l::R)) (S:Rd g R 2 cs.length c (cs.flatMap jP)) (hl:l.length<100000) (hc:cs.length<100000) :
  t_w n 150 [.ptr w 0,c] h λv h'=>v=.int .i64 (kS m l cs).1∧HS g h' (WrC w m (kS m l cs).2::R):=by
 refine t_e2 rfl omQ λk hk=>?_;unfold S150;try simp only[iZ]
 refine qG (Ge omQ H omQ) λv0 h1 H1=>?_;refine zu (S.sl H1.drop.drop)<|jM (λk s h'=>∃(i:Nat) (l':List Cl),s=(.int .i64 (i:Int),.int .i64 (cs.length:Int),c,v0,.ptr w 0,())∧i≤cs.length∧k=cs.length-i∧l'.length≤l.length+i∧
  HS g h' (WrC w m l'::qy 164 2 l.length v0 (l.flatMap jP)::R)∧Xs m l cs=Xs m l' (cs.drop i)) ?_ (m:=cs.length) omQ ⟨0,l,rfl,by omega,by omega,by omega,H1.pk [1] 0,rfl⟩
 rintro k ih s h2 hih ⟨i,l',rfl,h1,rfl,hl',H,hT⟩;refine zL (λhlt=>qZ ?_) λhge=>qJ (qk (qj ?_))
 ·have hi:i<cs.length:=by omega
  have hci:cs[i]? =some cs[i]:=iW hi;refine zd (S.sl H.drop.drop) hi omQ (Kw hci)<|qP H rfl λb h3 H3=>qf H3 .here rfl (by show 0+2≤2;omega) rfl λh4 H4=>?_;have H5:HS g h4 (qw b (jP cs[i])::WrC w m l'::qy 164 2 l.length v0 (l.flatMap jP)::R):=H4;unfold jP at H5;refine qQ (qX ‹_› .here rfl ?_);refine qQ (qX ‹_› .here rfl ?_);refine qG (qK5 omQ H5.drop omQ) ?_;rintro _ h6 ⟨rfl,H6⟩;rw[List.drop_eq_getElem_cons hi,qKS]at hT;refine yS (λhne=>qZ ?_) λhe=>qJ (qc omQ ?_)
  ·have hne:¬(YP m l' cs[i].1 cs[i].2).1=0:=by simpa using hne
   rw[iQ hne]at hT;obtain⟨v7,H7⟩:=WrC.E H6;refine qW (qQ (qA H7 .here (H7.one e_2) osQ λh8 H8=>qk (qj ?_)));unfold kS;rw[hT,iQ hne];exact⟨rfl,WrC.I (v:=v0) (H8.pk [0,1] 1)⟩
  ·have he':(YP m l' cs[i].1 cs[i].2).1=0:=by simpa using he
   rw[iJ he']at hT;refine hih (cs.length-(i+1)) _ _ omQ ⟨i+1,_,rfl,by omega,rfl,?_,H6,hT⟩;have:=Gt (p:=cs[i].1) (v:=cs[i].2) (l:=l');unfold YP
   repeat' split
   all_goals dsimp only
   all_goals first |omega |(split at this<;>omega)
 ·rw[List.drop_of_length_le omQ]at hT;have hT:Xs m l cs=(0,l'):=hT;unfold kS;rw[hT,iJ rfl];exact⟨rfl,H.pk [0] 1⟩
end
section
variable {g h:AH} {L R:List SP}
def LvC (a:Nat) (x:LvM):SP:=.ex λw=>.ex λfv=>.all [qw a [.ptr w 0,fv],WrC w 96 x.1,qy 3 1 x.2.length fv (x.2.map (.int .i64))]
theorem LvC.E {a:Nat} {x:LvM} (H:HS g h (LvC a x::R)):∃w fv,HS g h (qw a [.ptr w 0,fv]::WrC w 96 x.1::qy 3 1 x.2.length fv (x.2.map (.int .i64))::R):=by obtain⟨w,H⟩:=H.exE;obtain⟨fv,H⟩:=H.exE;exact⟨w,fv,H.allE⟩
theorem LvC.I {a w:Nat} {fv:AV} {x:LvM} (H:HS g h (qw a [.ptr w 0,fv]::WrC w 96 x.1::qy 3 1 x.2.length fv (x.2.map (.int .i64))::R)):HS g h (LvC a x::R) :=
 HS.exI w (HS.exI fv (HS.allI H))
def yz (ps:List Nat):List AV:=ps.reverse.map λa=>.ptr a 0
def LgC (q most:Nat) (lv:List LvM):SP:=.ex λv=>.ex λps:List Nat=>.all (.pur (ps.length=lv.length)::qw q [.int .i64 (most:Int),v]::qy 234 1 lv.length v (yz ps)::List.zipWith LvC ps lv)
theorem LgC.E {q most:Nat} {lv:List LvM} (H:HS g h (LgC q most lv::R)):∃v ps,ps.length=lv.length∧HS g h (qw q [.int .i64 (most:Int),v]::qy 234 1 lv.length v (yz ps)::(List.zipWith LvC ps lv++R)):=by obtain⟨v,H⟩:=H.exE;obtain⟨ps,H⟩:=H.exE;obtain⟨e,H⟩:=HS.purE (H.allE);exact⟨v,ps,e,H⟩
theorem LgC.I {q most:Nat} {lv:List LvM} {v:AV} {ps:List Nat} (e:ps.length=lv.length) (H:HS g h (qw q [.int .i64 (most:Int),v]::qy 234 1 lv.length v (yz ps)::(List.zipWith LvC ps lv++R))):HS g h (LgC q most lv::R) :=
 HS.exI v (HS.exI ps (HS.allI (HS.purI e H)))
theorem LgC.E1 {q most:Nat} {x:LvM} {r:List LvM} (H:HS g h (LgC q most (x::r)::R)):∃v a ps,ps.length=r.length∧HS g h (qw q [.int .i64 (most:Int),v]::qy 234 1 (r.length+1) v (yz (a::ps))::LvC a x::(List.zipWith LvC ps r++R)):=by
 obtain⟨v,ps,e,H⟩:=LgC.E H;cases ps with
 |nil=>simp at e
 |cons a ps=>exact⟨v,a,ps,by simpa using e,H⟩
theorem LgC.I1 {q most:Nat} {x:LvM} {r:List LvM} {v:AV} {a:Nat} {ps:List Nat} (e:ps.length=r.length) (H:HS g h (qw q [.int .i64 (most:Int),v]::qy 234 1 (r.length+1) v (yz (a::ps))::LvC a x::(List.zipWith LvC ps r++R))):HS g h (LgC q most (x::r)::R) :=
 LgC.I (ps:=a::ps) (by simp[e]) H
theorem qZd (a:Nat) (ps:List Nat):(yz (a::ps))[ps.length]? =some (.ptr a 0):=by unfold yz;rw[List.reverse_cons,List.map_append,List.getElem?_append_right osQ];simp
theorem KC {ps:List Nat} {i:Nat} (hi:i<ps.length):(yz ps)[i]? =(ps[ps.length-1-i]?).map λa=>.ptr a 0:=by unfold yz;rw[List.getElem?_map,List.getElem?_reverse hi]
theorem UR {ps:List Nat}:∀{lv:List LvM} {i a:Nat} {x:LvM},ps[i]? =some a→lv[i]? =some x→∃T,Sel (List.zipWith LvC ps lv++R) (LvC a x) T:=by
 induction ps with
 |nil=>intro lv i a x h;simp at h
 |cons b ps ih=>
  intro lv i a x h1 h2;cases lv with
  |nil=>simp at h2
  |cons y lv=>
   cases i with
   |zero=>simp at h1 h2;subst h1;subst h2;exact⟨_,.here⟩
   |succ i=>obtain⟨T,s⟩:=ih (by simpa using h1) (by simpa using h2);exact⟨_,.there s⟩
theorem Y8 {n q:Nat} (hn:1≤n) {m v:AV} {a:Nat} {ps:List Nat} {R1 R2:List SP} {e:TypeId} (H:HS g h L) (s1:Sel L (qw q [m,v]) R1) (s2:Sel L (qy e 1 (ps.length+1) v (yz (a::ps))) R2) (hl:ps.length<1000000) :
  t_w n 216 [.ptr q 0] h λr h'=>r=.ptr a 0∧h'=h:=by
 refine t_e1 rfl omQ λk hk=>?_;unfold S216;try simp only[iZ]
 refine qW (qQ (qX H s1 rfl (qW (qQ (qX H s1 rfl (qm H s2 (zJ omQ ?_)))))));rw[show((ps.length+1:Nat):Int)-((1:Nat):Int)=((ps.length:Nat):Int) by omega];exact jO (H.sl s2) (qZd a ps) (qj ⟨rfl,rfl⟩)
theorem OF {n:Nat} (hn:2≤n) (H:HS g h R):t_w n 180 [] h λv h'=>∃a,v=.ptr a 0∧HS g h' (LvC a ([],[])::R):=by
 refine t_e0 rfl omQ λk hk=>?_;unfold S180;try simp only[iZ]
 refine qG (ZB omQ omQ H) ?_;rintro _ h2 ⟨w,rfl,H2⟩;refine qL rfl (qP H2 rfl λa h3 H3=>qj ⟨a,rfl,?_⟩);exact LvC.I (fv:=.nils) ((H3.nils).pk [1,1,0] 0)
theorem qvm {n:Nat} (hn:3≤n) {m:Int} (H:HS g h R):t_w n 130 [.int .i64 m] h λv h'=>∃q,v=.ptr q 0∧HS g h' (LgC q (max 0 (min m 96)).toNat [([],[])]::R):=by
 refine t_e1 rfl omQ λk hk=>?_;unfold S130;try simp only[iZ]
 refine ju (zD (qG (OF omQ H) ?_));rintro _ h2 ⟨a,rfl,H2⟩;refine qh H2 rfl rfl rfl rfl λv h3 H3=>?_;have h1:=H3.one .here;refine qL (by simp only[yM,h1.1];rfl)<|qP H3 (by show(true&&(v.one&&true))=true;rw[h1.2];rfl) λq h4 H4=>qj ⟨q,rfl,?_⟩;refine LgC.I1 (v:=v) (a:=a) (ps:=[]) rfl ?_;rw[show(((max 0 (min m 96)).toNat:Nat):Int)=max ((0:Nat):Int) (min m ((96:Nat):Int)) by omega];exact H4
theorem qqI {n q most:Nat} (hn:2≤n) {lv:List LvM} {b:Int} (H:HS g h (LgC q most lv::R)) (O:OkL most lv) (hf:∀x∈lv,x.2.length<1000000) :
  t_w n 315 [.ptr q 0,.int .i64 b] h λ_ h'=>HS g h' (LgC q most (XF lv b)::R):=by
 cases lv with
 |nil=>have:=O.one;simp at this
 |cons x r=>
 refine t_e2 rfl omQ λk hk=>?_;unfold S315;try simp only[iZ]
 obtain⟨v,a,ps,e,H⟩:=LgC.E1 H;rw[← e]at H;refine qG (Y8 omQ H .here e_1 (by have:=O.deep;simp at this;omega)) ?_;rintro _ _ ⟨rfl,rfl⟩;obtain⟨w,fv,H2⟩:=LvC.E (H.sel e_2);refine qW (qQ (qX ‹_› .here rfl ?_));refine qh H2 rfl rfl rfl rfl λv3 h3 H3=>?_;have:=hf x (iK ..);refine jf (H3.sel e_3) (H3.sl .here) omQ omQ rfl λv4 h4 H4=>?_;refine qW (qQ (qA H4 e_2 (H4.one .here) osQ λh5 H5=>qj ?_));refine LgC.I1 (v:=v) (a:=a) (ps:=ps) e ?_;rw[← e];have:=LvC.I (fv:=v4) (x:=(x.1,x.2++[b]))
  (by rw[List.map_append,List.length_append];exact H5.pk [0,2,0,1,1] 1)
 exact this.pk [1,1] 0
theorem qYf {n q most:Nat} (hn:1≤n) {lv:List LvM} (H:HS g h (LgC q most lv::R)) (O:OkL most lv) (hf:(gA lv).length<1000000) :
  t_w n 92 [.ptr q 0] h λv h'=>HS g h' (qy 3 1 (gA lv).length v ((gA lv).map (.int .i64))::LgC q most lv::R):=by
 refine t_e1 rfl omQ λk hk=>?_;unfold S92;try simp only[iZ]
 have hd:=O.deep;obtain⟨v,ps,e,H⟩:=LgC.E H;refine qW (qQ (qX ‹_› .here rfl ?_));refine qm ‹_› e_1<|jM (λm s h'=>∃(i:Nat) (acc:AV),s=(.int .i64 (i:Int),.int .i64 (lv.length:Int),v,acc,())∧i≤lv.length∧m=lv.length-i∧
  HS g h' (qy 3 1 ((lv.reverse.take i).flatMap (·.2)).length acc (((lv.reverse.take i).flatMap (·.2)).map (.int .i64))::qw q [.int .i64 (most:Int),v]::qy 234 1 lv.length v (yz ps)::(List.zipWith LvC ps lv++R)))
  ?_ (m:=lv.length) (by have:=O.deep;omega) ⟨0,.nils,rfl,by omega,by omega,H.nils⟩
 rintro m ih s h' hih ⟨i,acc,rfl,h1,rfl,H⟩;refine zL (λhlt=>qZ ?_) λhge=>qJ (qk (qj ?_))
 ·have hi:i<lv.length:=by omega
  have ha:ps[ps.length-1-i]? =some (ps[ps.length-1-i]'omQ):=iW _;have hx:lv[ps.length-1-i]? =some (lv[ps.length-1-i]'omQ):=iW _;generalize ps[ps.length-1-i]'omQ=a at ha;have hx2:lv.reverse[i]? =some (lv[ps.length-1-i]'omQ):=by rw[List.getElem?_reverse hi,← hx,e]
  generalize lv[ps.length-1-i]'omQ=x at hx hx2;refine jO (H.sl e_2) (by rw[KC omQ,ha];rfl) ?_;obtain⟨T,s⟩:=UR ha hx;have H2:=H.sel (.there (.there (.there s)));obtain⟨w,fv,H3⟩:=LvC.E H2;refine qW (qQ (qX ‹_› .here rfl ?_));have hlen:((lv.reverse.take i).flatMap (·.2)).length+x.2.length≤(gA lv).length:=by
   have e1:lv.reverse.flatMap (·.2)=(lv.reverse.take (i+1)).flatMap (·.2)++(lv.reverse.drop (i+1)).flatMap (·.2):=by rw[← List.flatMap_append,List.take_append_drop]
   unfold gA;rw[e1,List.take_add_one,hx2];simp
  refine jf (H3.sel e_3) (H3.sl e_2) omQ omQ ?_ λv4 h4 H4=>qc omQ ?_
  ·simp[qp,AV.one]
  refine hih (lv.length-(i+1)) _ _ omQ ⟨i+1,v4,rfl,by omega,rfl,?_⟩;rw[List.take_add_one,hx2,Option.toList_some,List.flatMap_append,List.map_append,List.length_append,List.flatMap_cons,List.flatMap_nil,List.append_nil];have H5:=LvC.I (a:=a) (w:=w) (fv:=fv) (x:=x) (H4.sub (.cons e_1 (.cons e_1 (.cons e_1 .refl))));exact HS.unsel (.there (.there (.there s))) (H5.sub (.refl))
 ·obtain rfl:i=lv.length:=by omega
  rw[List.take_of_length_le osQ]at H;exact(LgC.I (ps:=ps) e (HS.back (A:=_::_::List.zipWith LvC ps lv) H)).pk [1] 0
theorem rsum (l:List Nat):l.reverse.sum=l.sum:=by
 induction l with
 |nil=>rfl
 |cons a l ih=>rw[List.reverse_cons,List.sum_append,ih,List.sum_cons];simp[Nat.add_comm]
theorem qzm {n q most:Nat} (hn:2≤n) {lv:List LvM} (H:HS g h (LgC q most lv::R)) (O:OkL most lv) :
  t_w n 286 [.ptr q 0] h λv h'=>v=.int .i64 ((most:Int)-(yu lv:Int))∧h'=h:=by
 refine t_e1 rfl omQ λk hk=>?_;unfold S286;try simp only[iZ]
 obtain⟨v,ps,e,H⟩:=LgC.E H;have hh:=O.held;have hl:=O.le;have hd:=O.deep;refine qW (qQ (qX ‹_› .here rfl ?_));refine qW (qQ (qX ‹_› .here rfl ?_));refine qm ‹_› e_1<|jM (λm s h'=>∃(i:Nat),s=(.int .i64 (i:Int),.int .i64 (lv.length:Int),v,.int .i64 ((most:Int)-(((lv.reverse.take i).map λx=>x.1.length).sum:Nat)),())∧i≤lv.length∧m=lv.length-i∧h'=h)
  ?_ (m:=lv.length) omQ ⟨0,by simp,by omega,by omega,rfl⟩
 rintro m ih s h' hih ⟨i,rfl,h1,rfl,rfl⟩;have hsum:∀j,((lv.reverse.take j).map λx=>x.1.length).sum+((lv.reverse.drop j).map λx=>x.1.length).sum=yu lv:=by intro j;rw[← List.sum_append,← List.map_append,List.take_append_drop,List.map_reverse,rsum];rfl
 refine zL (λhlt=>qZ ?_) λhge=>qJ (qk (qj ⟨?_,rfl⟩))
 ·have hi:i<lv.length:=by omega
  have ha:ps[ps.length-1-i]? =some (ps[ps.length-1-i]'omQ):=iW _;have hx:lv[ps.length-1-i]? =some (lv[ps.length-1-i]'omQ):=iW _;generalize ps[ps.length-1-i]'omQ=a at ha;have hx2:lv.reverse[i]? =some (lv[ps.length-1-i]'omQ):=by rw[List.getElem?_reverse hi,← hx,e]
  generalize lv[ps.length-1-i]'omQ=x at hx hx2;refine jO (H.sl e_1) (by rw[KC omQ,ha];rfl) ?_;obtain⟨T,s⟩:=UR ha hx;obtain⟨w,fv,H3⟩:=LvC.E (H.sel (.there (.there s)));refine qW (qQ (qX ‹_› .here rfl ?_));refine qG (qwh omQ (H3.sel e_1)) ?_;rintro _ _ ⟨rfl,rfl⟩;have h3:=hsum (i+1);have h4:((lv.reverse.take (i+1)).map λx=>x.1.length).sum=((lv.reverse.take i).map λx=>x.1.length).sum+x.1.length:=by rw[List.take_add_one,hx2,Option.toList_some,List.map_append,List.sum_append];simp
  refine zJ omQ (qc omQ (hih (lv.length-(i+1)) _ _ omQ ⟨i+1,?_,by omega,rfl,rfl⟩));rw[h4];refine Prod.ext ?_ (Prod.ext rfl (Prod.ext rfl (Prod.ext ?_ rfl)))
  ·show AV.int _ _=AV.int _ _
   congr 1
  ·show AV.int _ _=AV.int _ _
   congr 1
   omega
 ·have h2:=hsum i;rw[List.drop_of_length_le (by simp;omega)]at h2;rw[show((lv.reverse.take i).map λx=>x.1.length).sum=yu lv by simpa using h2]
theorem qKs {k b0 l:Nat} {v:AV} {ps:List Nat} {Inv:Nat→AH→Prop} {Fin:AH→Prop}
  (hrd:∀i h,Inv i h→h.at b0 0=some v∧Sl (λ_=>True) h 1 ps.length v (yz ps))
  (hy:∀i a h,ps[i]? =some a→Inv i h→wp (callT tab qx k (.yield l) [.int .i64 ((ps.length-1-i:Nat):Int),.ptr a 0] h) λr h'=>(r=.bool true∧Inv (i+1) h')∨(r=.bool false∧Fin h'))
  (hl:ps.length<1000000) (h0:Inv 0 h):wp (callT tab qx (k+1) (.fn 213 [] [.ptr b0 0]) [.yield l] h) λ_ h'=>Inv ps.length h'∨Fin h':=by
 refine qyU rfl omQ λk' hk=>?_;obtain rfl:k'=k:=by omega
 unfold S213
 try simp only[iI,uU,iZ]
 obtain⟨r1,r2⟩:=hrd 0 h h0;refine JB r1 (zu r2 (zJ omQ ?_));refine jM (λm s h'=>∃i:Nat,s=(.int .i64 ((ps.length:Int)-((1:Nat):Int)-(i:Int)),.ptr b0 0,.yield l,())∧i≤ps.length∧m=ps.length-i∧Inv i h') ?_ (m:=ps.length) omQ ⟨0,by simp,by omega,by omega,h0⟩;rintro m ih s h' hih ⟨i,rfl,h1,rfl,hI⟩;obtain⟨r1,r2⟩:=hrd i h' hI;refine yC (λhlt=>qZ ?_) λhge=>qJ (qk (qj (.inl ?_)))
 ·have hi:i<ps.length:=by omega
  have ha:ps[i]? =some ps[i]:=iW hi;rw[show(ps.length:Int)-((1:Nat):Int)-(i:Int)=((ps.length-1-i:Nat):Int) by omega];refine JB r1 (jO r2 (by rw[KC omQ,show ps.length-1-(ps.length-1-i)=i by omega,ha];rfl) ?_);refine qG (hy i _ h' ha hI) ?_;rintro _ h2 (⟨rfl,hI2⟩ |⟨rfl,hF⟩)
  ·refine jk (qJ (zJ omQ (hih (ps.length-(i+1)) _ _ omQ ⟨i+1,?_,by omega,rfl,hI2⟩)));refine Prod.ext ?_ rfl;show AV.int _ _=AV.int _ _
   congr 1
   omega
  ·exact jA (qZ (qk (qj (.inr hF))))
 ·obtain rfl:i=ps.length:=by omega
  exact hI
theorem qV3 {p:Int}:∀{lv:List LvM},(∀(j:Nat) x,lv[j]? =some x→zg p x.1=none)→Gr p lv=none:=by
 intro lv
 induction lv with
 |nil=>intro _;rfl
 |cons x r ih=>intro h;unfold Gr;rw[h 0 x rfl];exact ih λj y hy=>h (j+1) y (by simpa using hy)
theorem qYR {p v:Int}:∀{lv:List LvM} {i:Nat} {x:LvM},(∀j,j<i→∀x,lv[j]? =some x→zg p x.1=none)→lv[i]? =some x→zg p x.1=some v→Gr p lv=some v:=by
 intro lv
 induction lv with
 |nil=>intro i x _ h;simp at h
 |cons y r ih=>
  intro i x h1 h2 h3;unfold Gr;cases i with
  |zero=>simp at h2;subst h2;rw[h3]
  |succ i=>rw[h1 0 omQ y rfl];exact ih (i:=i) (λj hj z hz=>h1 (j+1) omQ z (by simpa using hz)) (by simpa using h2) h3
theorem OkL.len {most:Nat} {lv:List LvM} (O:OkL most lv) {x:LvM} (hx:x∈lv):x.1.length≤96:=by
 have h1:=O.held;have h2:=O.le;have:x.1.length≤yu lv:=by
  clear h1 O
  induction lv with
  |nil=>cases hx
  |cons y r ih=>
   rw[xk];rcases List.mem_cons.1 hx with rfl |hx
   ·omega
   ·have:=ih hx;omega
 omega
theorem Ks {n:Nat} (hn:1≤n) {v:AV} (h1:One v) (H:HS g h L):t_w n 148 [v] h λr h'=>∃b,r=.fn 213 [] [.ptr b 0]∧HS g h' (qw b [v]::L):=by
 refine t_e1 rfl omQ λk hk=>?_;unfold S148;try simp only[iZ]
 exact Yq H h1 λb h2 H2=>qj ⟨b,rfl,H2⟩
theorem qgl {n q most:Nat} (hn:8≤n) {lv:List LvM} {p:Int} (H:HS g h (LgC q most lv::R)) (O:OkL most lv) :
  t_w n 153 [.ptr q 0,.int .i64 p] h λv h'=>v=.tup [.int .u64 ((Gr p lv).getD 0),.bool (Gr p lv).isSome]∧HS g h' (LgC q most lv::R):=by
 (refine qB rfl omQ λk hk=>?_;show wp (S153 (callT tab qx k) _ _ _) _;unfold S153;try simp only[iI,uU,iZ])
 obtain⟨v,ps,e,H⟩:=LgC.E H;have hd:=O.deep;refine Yq H ⟨rfl,rfl⟩ λb1 h1 H=>Yq H ⟨rfl,rfl⟩ λb2 h2 H=>Yq H ⟨rfl,rfl⟩ λb3 h3 H=>?_;refine qW (qQ (qX ‹_› e_3 rfl ?_));refine qG (Ks omQ (H.one e_4) H) ?_;rintro _ h4 ⟨b4,rfl,H⟩;have H5:=(H.newBlk .dfd).newBlk (.loop .ready none 153 [1,0,1,0] [5,4,3] [.ptr b3 0,.ptr b2 0,.ptr b1 0] h4.nx);generalize(h4.new .dfd).nx=l at H5 ⊢;generalize h4.nx=d at H5 ⊢;obtain⟨k2,rfl⟩:∃k2,k=k2+1:=⟨k-1,by omega⟩
 refine qJL (qKs (b0:=b4) (v:=v) (ps:=ps)
  (Inv:=λi h'=>HS g h' (kl l (.loop .ready none 153 [1,0,1,0] [5,4,3] [.ptr b3 0,.ptr b2 0,.ptr b1 0] d)::kl d .dfd::qw b4 [v]::qw b3 [.bool false]::qw b2 [.int .u64 ((0:Nat):Int)]::qw b1 [.int .i64 p]::
   qw q [.int .i64 (most:Int),v]::qy 234 1 lv.length v (yz ps)::(List.zipWith LvC ps lv++R))∧∀j,j<i→∀x,lv[j]? =some x→zg p x.1=none)
  (Fin:=λh'=>∃x,Gr p lv=some x∧HS g h' (kl l (.loop .done (some .ret) 153 [1,0,1,0] [5,4,3] [.ptr b3 0,.ptr b2 0,.ptr b1 0] d)::kl d .dfd::qw b4 [v]::qw b3 [.bool true]::qw b2 [.int .u64 x]::qw b1 [.int .i64 p]::
   qw q [.int .i64 (most:Int),v]::qy 234 1 lv.length v (yz ps)::(List.zipWith LvC ps lv++R)))
  ?_ ?_ omQ ⟨H5,λj hj=>by omega⟩) ?_
 ·rintro i h' ⟨H,_⟩;obtain⟨et,A⟩:=H.obj e_2;exact⟨A.at 0,e▸H.sl e_7⟩
 ·rintro i a h' ha ⟨H,hno⟩;have hi:=(List.getElem?_eq_some_iff.1 ha).1;have hx:lv[i]? =some (lv[i]'omQ):=iW _;have hm:lv[i]'omQ∈lv:=List.getElem_mem _;generalize lv[i]'omQ=x at hx hm;have hxl:=O.len hm;refine qJC (H.blk .here) rfl omQ λk3 hk3=>?_;show wp (B1 _ _ _ _ _ (.int .i64 ((ps.length-1-i:Nat):Int)) _ _) _;unfold B1
  try simp only[iI,uU,iZ]
  refine qQp H .here λh6 H=>?_;obtain⟨T,s⟩:=UR ha hx;obtain⟨w,fv,H7⟩:=LvC.E (H.sel (.there (.there (.there (.there (.there (.there (.there (.there s)))))))));refine qW (qQ (qX ‹_› .here rfl ?_));refine qX ‹_› e_8 rfl<|qG (qVn omQ (H7.sel e_1) omQ) ?_;rintro _ h8 ⟨rfl,H8⟩;refine qC rfl<|qC rfl ?_;cases hg:zg p x.1 with
  |none=>
   refine qJ (qVa H8 e_3 λh9 H9=>.inl ⟨rfl,?_,λj hj y hy=>?_⟩)
   ·have H10:=LvC.I (a:=a) (w:=w) (fv:=fv) (x:=x) (H9.sub (.cons e_2 (.cons e_1 (.cons e_1 .refl))));exact HS.unsel (.there (.there (.there (.there (.there (.there (.there (.there s)))))))) (H10.sub (.refl))
   ·by_cases hj':j<i
    ·exact hno j hj' y hy
    ·obtain rfl:j=i:=by omega
     rw[hx]at hy;cases hy;exact hg
  |some z=>refine qZ (qA H8 e_7 ⟨rfl,rfl⟩ osQ λh9 H9=>qA H9 e_7 ⟨rfl,rfl⟩ osQ λh10 H10=>qwc H10 e_5 λh11 H11=>.inr ⟨rfl,z,qYR hno hx hg,?_⟩);have H12:=LvC.I (a:=a) (w:=w) (fv:=fv) (x:=x) (H11.sub (.cons e_4 (.cons e_3 (.cons e_3 .refl))));exact HS.unsel (.there (.there (.there (.there (.there (.there (.there (.there s)))))))) (H12.pk [0,0,2,2,0,0] 0)
 ·rintro _ h6 (⟨H,hno⟩ |⟨x,hx,H⟩)
  ·have hg:Gr p lv=none:=qV3 λj x hj=>hno j (by have:=(List.getElem?_eq_some_iff.1 hj).1;omega) x hj;refine O7 H .here (nofun) λh7 H=>qQi (qA H e_4 ⟨rfl,rfl⟩ osQ λh8 H=>qA H e_4 ⟨rfl,rfl⟩ osQ λh9 H=>KF H e_3 λh10 H=>?_);refine qX ‹_› e_2 rfl<|qX ‹_› e_1 rfl<|qj ⟨by rw[hg];rfl,?_⟩;exact LgC.I (ps:=ps) e (H.pk [6,6] 6)
  ·refine O7 H .here (nofun) λh7 H=>qxr (jQm rfl (KF H e_1 λh8 H=>?_));refine qX ‹_› e_4 rfl<|qX ‹_› e_3 rfl<|qj ⟨by rw[hx];rfl,?_⟩;exact LgC.I (ps:=ps) e (H.pk [6,6] 6)
theorem jQS {x:LvM} {r:List LvM} {most:Nat} {p v:Int} (O:OkL most (x::r)) (hp:¬(p<1∨256≤p)) (hf:¬(zg p x.1=none∧most≤yu (x::r))):YP 96 x.1 p v=(0,vW p v x.1):=by have h1:=O.held;have h2:=O.le;rw[xk]at h1 hf;unfold YP;rw[iQ hp,iQ (λh=>hf ⟨h.1,by omega⟩)]
theorem qKu {n q most:Nat} (hn:5≤n) {lv:List LvM} {p v:Int} (H:HS g h (LgC q most lv::R)) (O:OkL most lv) :
  t_w n 217 [.ptr q 0,.int .i64 p,.int .u64 v] h λr h'=>r=.int .i64 (gw most lv p v).1∧HS g h' (LgC q most (gw most lv p v).2::R):=by
 cases lv with
 |nil=>have:=O.one;simp at this
 |cons x r=>
 have hxl:=O.len (x:=x) (iK ..);refine t_e3 rfl omQ λk hk=>?_;unfold S217;try simp only[iZ]
 unfold gw;by_cases hp:p<1∨256≤p
 ·simp only[iJ hp]
  repeat' (first |refine qZ ?_ |refine qJ ?_ |(refine qa ?_;try dsimp only) |(refine qs ?_;try dsimp only) |(refine qT ?_;try dsimp only) |(refine qe ?_;try dsimp only) |(refine zK ?_;try dsimp only) |refine qD ?_ |refine qE ?_ |(with_reducible refine qV ?_;try dsimp only) |refine qk ?_ |refine jk ?_ |refine jA ?_ |refine qc omQ ?_ |refine zJ omQ ?_ |refine xr omQ ?_ |refine yy omQ ?_ |refine ju ?_ |refine zD ?_ |refine qg omQ ?_ |refine qK omQ ?_ |refine jX omQ ?_ |refine q9 omQ ?_ |refine jT omQ ?_ |refine jD omQ ?_ |refine Ji omQ ?_ |refine YV omQ ?_ |refine yp omQ ?_ |refine yT omQ ?_ |refine zc omQ ?_ |refine zF omQ ?_ |refine zL (λhc=>?_) (λhc=>?_) |refine kV (λhc=>?_) (λhc=>?_) |refine kG (λhc=>?_) (λhc=>?_) |refine yC (λhc=>?_) (λhc=>?_) |refine gK (λhc=>?_) (λhc=>?_) |refine yS (λhc=>?_) (λhc=>?_) |refine wG (λhc=>?_) (λhc=>?_))
  all_goals exact qj ⟨rfl,H⟩
 simp only[iQ hp];refine jD omQ<|qV<|qe<|zF omQ<|qE (qJ ?_)
 obtain⟨sv,a,ps,e,H⟩:=LgC.E1 H;rw[← e]at H;refine qG (Y8 omQ H .here e_1 (by have:=O.deep;simp at this;omega)) ?_;rintro _ _ ⟨rfl,rfl⟩;obtain⟨w,fv,H2⟩:=LvC.E (H.sel e_2);refine qW (qQ (qX ‹_› .here rfl ?_));refine qG (qVn omQ (H2.sel e_1) omQ) ?_;rintro _ h3 ⟨rfl,H3⟩;refine qC rfl<|qC rfl ?_;have H4:HS g h3 (LgC q most (x::r)::R):=by have H4:=LvC.I (a:=a) (w:=w) (fv:=fv) (x:=x) (H3.sub (.cons e_1 (.cons .here .refl)));refine LgC.I1 (v:=sv) (a:=a) (ps:=ps) e ?_;rw[← e];exact H4.pk [1,1] 0
 have fin:¬(zg p x.1=none∧most≤yu (x::r))→∀h5,HS g h5 (WrC w 96 x.1::qw a [.ptr w 0,fv]::qy 3 1 x.2.length fv (x.2.map (.int .i64))::qw q [.int .i64 (most:Int),sv]::qy 234 1 (ps.length+1) sv (yz (a::ps))::(List.zipWith LvC ps r++R))→
   t_w k 214 [.ptr w 0,.int .i64 p,.int .u64 v] h5 λr' h'=>r'=.int .i64 0∧HS g h' (LgC q most ((vW p v x.1,x.2)::r)::R):=by
  intro hf h5 H5;refine(qK5 omQ H5 omQ).mono ?_;rintro _ h6 ⟨rfl,H6⟩;rw[jQS O hp hf]at H6 ⊢;refine⟨rfl,LgC.I1 (v:=sv) (a:=a) (ps:=ps) e ?_⟩;rw[← e];have H7:=LvC.I (a:=a) (w:=w) (fv:=fv) (x:=(vW p v x.1,x.2)) (H6.sub (.cons e_1 (.cons .here .refl)));exact H7.pk [1,1] 0
 cases hg:zg p x.1 with
 |some z=>
  simp only[Option.isSome_some];refine jk (qV ?_);refine qT<|qE (qJ ?_)
  rw[iQ (λh=>by cases h.1)];refine qG (fin (λh=>by rw[hg]at h;cases h.1) h3 (H3.sub (.refl))) ?_;rintro _ h6 ⟨rfl,H6⟩;exact qj ⟨rfl,H6⟩
 |none=>
  simp only[Option.isSome_none];refine jA (qV ?_);refine qa ?_;(try dsimp only)
  refine qG (qzm omQ H4 O) ?_;rintro _ _ ⟨rfl,rfl⟩;have hh:=O.held;refine gK (λh0=>?_) λh0=>?_
  ·refine qD (qZ ?_);rw[iJ ⟨by trivial,by omega⟩];exact qj ⟨rfl,H4⟩
  ·refine qD (qJ ?_);rw[iQ (λh=>h0 omQ)];refine qG (fin (λh=>h0 omQ) _ (H3.sub (.refl))) ?_;rintro _ h6 ⟨rfl,H6⟩;exact qj ⟨rfl,H6⟩
theorem KS {most:Nat} {x:LvM} {r:List LvM} {p v:Int}:∃c,(gw most (x::r) p v).2=(c,x.2)::r:=by
 unfold gw;dsimp only
 split
 ·exact⟨x.1,rfl⟩
 ·split
  ·exact⟨x.1,rfl⟩
  ·exact⟨_,rfl⟩
theorem qzE {n q most:Nat} (hn:7≤n) {lv:List LvM} {cs:List Cl} {c:AV} (H:HS g h (LgC q most lv::R)) (O:OkL most lv) (S:Rd g R 2 cs.length c (cs.flatMap jP)) (hc:cs.length<100000) :
  t_w n 154 [.ptr q 0,c] h λr h'=>r=.int .i64 (vt most lv lv cs).1∧HS g h' (LgC q most (vt most lv lv cs).2::R):=by
 cases lv with
 |nil=>have:=O.one;simp at this
 |cons x r=>
 have hxl:=O.len (x:=x) (iK ..);have hxi:=O.ins x (iK ..);have hxu:=O.un x (iK ..);refine t_e2 rfl omQ λk hk=>?_;unfold S154;try simp only[iZ]
 refine qG (ZB omQ omQ H) ?_;rintro _ h1 ⟨w0,rfl,H1⟩;obtain⟨sv,a,ps,e,H2⟩:=LgC.E1 (H1.sel e_1);rw[← e]at H2;refine qG (Y8 omQ H2 .here e_1 (by have:=O.deep;simp at this;omega)) ?_;rintro _ _ ⟨rfl,rfl⟩;obtain⟨w,fv,H3⟩:=LvC.E (H2.sel e_2);refine qW (qQ (qX ‹_› .here rfl ?_));refine qG (Ge omQ (H3.sel e_1) omQ) λva h4 H4=>?_;refine qG (GF omQ (H4.sel (.there (.there (.there (.there (.there (.there (Sel.skip _ .here))))))))  (.own .here) osQ omQ) ?_;rintro _ h5 ⟨_,H5⟩;have ht:kS 96 [] x.1=(0,x.1):=by unfold kS;rw[GP hxi (by simpa using hxl),NO hxu,iJ rfl]
 rw[ht]at H5;have H6:HS g h5 (LgC q most (x::r)::WrC w0 96 x.1::R):=by have H7:=LvC.I (a:=a) (w:=w) (fv:=fv) (x:=x) (H5.sub (.cons e_3 (.cons e_2 (.cons e_2 .refl))));refine LgC.I1 (v:=sv) (a:=a) (ps:=ps) e ?_;rw[← e];have H8:HS g h5 (WrC w0 96 x.1::(qw q [.int .i64 (most:Int),sv]::qy 234 1 (ps.length+1) sv (yz (a::ps))::LvC a x::List.zipWith LvC ps r)++R):=H7.pk [1,2,2,0] 1;exact HS.back H8
 refine zu (S.sl H6.drop.drop)<|jM (λk s h'=>∃(i:Nat) (c':List Cl),s=(.int .i64 (i:Int),.int .i64 (cs.length:Int),c,.ptr w0 0,.ptr q 0,())∧i≤cs.length∧k=cs.length-i∧OkL most ((c',x.2)::r)∧
  HS g h' (LgC q most ((c',x.2)::r)::WrC w0 96 x.1::R)∧vt most (x::r) (x::r) cs=vt most (x::r) ((c',x.2)::r) (cs.drop i)) ?_ (m:=cs.length) omQ ⟨0,x.1,rfl,by omega,by omega,O,H6,rfl⟩
 rintro k2 ih s h2 hih ⟨i,c',rfl,h1,rfl,O',H,hT⟩;refine zL (λhlt=>qZ ?_) λhge=>qJ (qk (qj ?_))
 ·have hi:i<cs.length:=by omega
  have hci:cs[i]? =some cs[i]:=iW hi;refine zd (S.sl H.drop.drop) hi omQ (Kw hci)<|qP H rfl λb h3 H3=>qf H3 .here rfl (by simp) rfl λh4 H4=>?_;have H5:HS g h4 (qw b (jP cs[i])::LgC q most ((c',x.2)::r)::WrC w0 96 x.1::R):=H4;unfold jP at H5;refine qQ (qX ‹_› .here rfl ?_);refine qQ (qX ‹_› .here rfl ?_);refine qG (qKu omQ H5.drop O') ?_;rintro _ h6 ⟨rfl,H6⟩;rw[List.drop_eq_getElem_cons hi,gC]at hT;have O2:=(Ob (p:=cs[i].1) (v:=cs[i].2) O').1;obtain⟨c2,hc2⟩:=KS;refine yS (λhne=>qZ ?_) λhe=>qJ (qc omQ ?_)
  ·have hne:¬(gw most ((c',x.2)::r) cs[i].1 cs[i].2).1=0:=by simpa using hne
   rw[iQ hne]at hT;rw[hc2]at H6;obtain⟨sv,a,ps,e,H7⟩:=LgC.E1 H6;rw[← e]at H7;refine qG (Y8 omQ H7 .here e_1 (by have:=O.deep;simp at this;omega)) ?_;rintro _ _ ⟨rfl,rfl⟩;obtain⟨w,fv,H8⟩:=LvC.E (H7.sel e_2);refine qW (qQ (qA H8 .here ⟨rfl,rfl⟩ osQ λh9 H9=>qk (qj ?_)));rw[hT];refine⟨rfl,LgC.I1 (v:=sv) (a:=a) (ps:=ps) e ?_⟩;rw[← e];obtain⟨T,sT,uT⟩:∃T,Sel (List.zipWith LvC ps r++WrC w0 96 x.1::R) (WrC w0 96 x.1) T∧T=List.zipWith LvC ps r++R:=⟨_,Sel.skip _ .here,rfl⟩;subst uT;have H10:=LvC.I (a:=a) (w:=w0) (fv:=fv) (x:=x) (H9.sub (.cons .here (.cons (.there (.there (.there (.there sT)))) (.cons e_1 (.drop .refl)))));exact H10.pk [1,1] 0
  ·have he':(gw most ((c',x.2)::r) cs[i].1 cs[i].2).1=0:=by simpa using he
   rw[iJ he',hc2]at hT;rw[hc2]at H6 O2;exact hih (cs.length-(i+1)) _ _ omQ ⟨i+1,c2,rfl,by omega,rfl,O2,H6,hT⟩
 ·rw[List.drop_of_length_le omQ]at hT;rw[hT];exact⟨rfl,H.pk [0] 1⟩
theorem VT (a:Nat) (ps:List Nat):yz (a::ps)=yz ps++[.ptr a 0]:=by unfold yz;rw[List.reverse_cons,List.map_append];rfl
theorem Nq (ps:List Nat):(yz ps).length=ps.length:=by simp[yz]
theorem qzb {n q most:Nat} (hn:3≤n) {lv:List LvM} (H:HS g h (LgC q most lv::R)) (O:OkL most lv) :
  t_w n 316 [.ptr q 0] h λv h'=>v=.int .i64 (QI lv).1∧HS g h' (LgC q most (QI lv).2::R):=by
 refine t_e1 rfl omQ λk hk=>?_;unfold S316;try simp only[iZ]
 have hH:=H;obtain⟨v,ps,e,H⟩:=LgC.E H;unfold QI;by_cases h6:6≤lv.length
 ·rw[iJ h6];refine qW (qQ (qX ‹_› .here rfl ?_));refine qm ‹_› e_1<|zc omQ<|qZ<|qj ⟨rfl,hH⟩
 ·rw[iQ h6];refine qW (qQ (qX ‹_› .here rfl ?_));refine qm ‹_› e_1<|zF omQ<|qJ (qV ?_);refine qW (qQ (qX ‹_› .here rfl ?_))
  refine qG (OF omQ H) ?_;rintro _ h2 ⟨a,rfl,H2⟩;refine qh H2 rfl rfl rfl rfl λv3 h3 H3=>?_;refine jf (H3.sel e_3) (H3.sl .here) omQ omQ rfl λv4 h4 H4=>?_;refine qW (qQ (qA H4 e_3 (H4.one .here) osQ λh5 H5=>?_));refine qd ‹_› .here rfl ‹_› e_1 rfl (HS.lt ‹_› .here)<|qj ⟨rfl,LgC.I1 (v:=v4) (a:=a) (ps:=ps) e ?_⟩;rw[VT];exact H5.pk [0,0,1] 1
theorem qZB {n q:Nat} (hn:1≤n) {m v:AV} {a:Nat} {ps:List Nat} (h1:1≤ps.length) (hl:ps.length<1000) (H:HS g h (qw q [m,v]::qy 234 1 (ps.length+1) v (yz (a::ps))::R)) :
  t_w n 278 [.ptr q 0] h λr h'=>r=.int .i64 0∧∃v',HS g h' (qw q [m,v']::qy 234 1 ps.length v' (yz ps)::R):=by
 refine t_e1 rfl omQ λk hk=>?_;unfold S278;try simp only[iZ]
 refine qW (qQ (qX ‹_› .here rfl ?_));refine qm ‹_› e_1<|qK omQ<|qJ (qW (qQ (qX ‹_› .here rfl ?_)));refine qW (qQ (qX ‹_› .here rfl ?_));refine qm ‹_› e_1<|zJ omQ ?_;rw[show((ps.length+1:Nat):Int)-((1:Nat):Int)=((ps.length:Nat):Int) by omega];refine YJ (H.sel e_1) omQ omQ λv' H2=>?_;refine qW (qQ (qA H2 e_1 (H2.one .here) osQ λh3 H3=>qj ⟨rfl,v',?_⟩));rw[VT,Nat.mul_one,← Nq ps,List.take_left,Nq]at H3;exact H3.pk [0] 0
theorem qQR {n q most:Nat} (hn:1≤n) {lv:List LvM} (H:HS g h (LgC q most lv::R)) (O:OkL most lv) :
  t_w n 278 [.ptr q 0] h λv h'=>v=.int .i64 (QH lv).1∧HS g h' (LgC q most (QH lv).2::R):=by
 unfold QH;by_cases h1:lv.length=1
 ·rw[iJ h1];refine t_e1 rfl omQ λk hk=>?_;unfold S278;try simp only[iZ]
  have hH:=H;obtain⟨v,ps,e,H⟩:=LgC.E H;refine qW (qQ (qX ‹_› .here rfl ?_));refine qm ‹_› e_1<|qg omQ<|qZ<|qj ⟨rfl,hH⟩
 ·rw[iQ h1];cases lv with
  |nil=>have:=O.one;simp at this
  |cons x r=>
  have hd:=O.deep;simp at h1 hd;have h1':1≤r.length:=by cases r with |nil=>simp at h1 |cons _ _=>simp
  obtain⟨v,a,ps,e,H⟩:=LgC.E1 H;rw[← e]at H;refine(qZB hn omQ omQ H).mono ?_;rintro _ h2 ⟨rfl,v',H2⟩;refine⟨rfl,LgC.I (v:=v') (ps:=ps) e ?_⟩;show HS g h2 (_::qy 234 1 r.length v' _::(List.zipWith LvC ps r++R));rw[← e];exact H2.pk [0,0] 1
theorem qxO {n q most:Nat} (hn:6≤n) {lv:List LvM} (H:HS g h (LgC q most lv::R)) (O:OkL most lv) (hf:∀x∈lv,x.2.length<1000000) :
  t_w n 276 [.ptr q 0] h λv h'=>v=.int .i64 (Jv lv).1∧HS g h' (LgC q most (Jv lv).2::R):=by
 rcases lv with _ |⟨x,_ |⟨y,r⟩⟩
 ·have:=O.one;simp at this
 ·
  refine t_e1 rfl omQ λk hk=>?_;unfold S276;try simp only[iZ]
  obtain⟨v,a,ps,e,H2⟩:=LgC.E1 H;rw[← e]at H2;refine qG (Y8 omQ H2 .here e_1 (by simp at e;simp[e])) ?_;rintro _ _ ⟨rfl,rfl⟩;refine qG (qQR omQ H O) ?_;rintro _ h3 ⟨rfl,H3⟩;rw[show QH [x]=(10,[x])from rfl]at H3 ⊢;refine jX omQ<|qZ<|qj ⟨rfl,H3⟩
 ·
  have hx:=hf x osQ;have hy:=hf y osQ;have hxi:=O.ins x osQ;have hd:=O.deep;have hh:=O.held;have hle:=O.le;rw[xk,xk]at hh;simp at hd;refine t_e1 rfl omQ λk hk=>?_;unfold S276;try simp only[iZ]
  obtain⟨v,a,ps,e,H2⟩:=LgC.E1 H;rw[← e]at H2;refine qG (Y8 omQ H2 .here e_1 (by simp at e;omega)) ?_;rintro _ _ ⟨rfl,rfl⟩;simp at e;refine qG (qZB omQ omQ omQ H2) ?_;rintro _ h3 ⟨rfl,v',H3⟩;cases ps with
  |nil=>simp at e
  |cons b ps=>
  simp at e;refine q9 omQ<|qJ (qG (Y8 omQ H3 .here e_1 omQ) ?_);rintro _ _ ⟨rfl,rfl⟩;have H4:HS g _ (LvC b y::LvC a x::qw q [.int .i64 (most:Int),v']::qy 234 1 (ps.length+1) v' (yz (b::ps))::(List.zipWith LvC ps r++R)):=H3.pk [3,2,0,0] 0;obtain⟨w1,f1,H4⟩:=LvC.E H4;obtain⟨w2,f2,H5⟩:=LvC.E (H4.sel e_3);refine qW (qQ (qX ‹_› e_3 rfl ?_));refine qW (qQ (qX ‹_› .here rfl ?_));refine jf (H5.sel e_5) (H5.sl e_2) omQ omQ ?_ λv6 h6 H6=>?_
  ·simp[qp,AV.one]
  refine qW (qQ (qA H6 e_4 (H6.one .here) osQ λh7 H7=>?_));simp only[List.set_cons_zero,List.set_cons_succ]at H7;refine qV<|qW (qQ (qX ‹_› .here rfl ?_));refine qW (qQ (qX ‹_› e_2 rfl ?_))
  refine qG (Ge omQ (H7.sel e_3) omQ) λv8 h8 H8=>?_;refine qG (GF omQ (H8.sel e_6) (.own .here) omQ omQ) ?_;rintro _ h9 ⟨rfl,H9⟩;have ht:kS 96 y.1 x.1=(0,vX y.1 x.1):=by unfold kS;rw[GP hxi omQ,iJ rfl]
  rw[ht]at H9 ⊢;refine qd ‹_› .here rfl ‹_› e_2 rfl (HS.lt ‹_› .here)<|qj ⟨rfl,LgC.I1 (v:=v') (a:=b) (ps:=ps) omQ ?_⟩;rw[← e];have H10:=LvC.I (fv:=v6) (x:=(vX y.1 x.1,y.2++x.2))
   (by rw[List.map_append,List.length_append];exact H9.pk [3,0,2,4,4] 4)
  exact H10.pk [1,1] 0
theorem Jd:∀(lv:List LvM) (out:List Cl),(lv.foldl (λout x=>vX x.1 out) out).length≤out.length+yu lv:=by
 intro lv
 induction lv with
 |nil=>intro out;simp
 |cons x r ih=>intro out;have h1:=ih (vX x.1 out);have h2:=Ur (cs:=out) (l:=x.1);rw[List.foldl_cons,xk];omega
theorem Mh:∀(lv:List LvM) (out:List Cl),InC out→(∀x∈lv,InC x.1)→InC (lv.foldl (λout x=>vX x.1 out) out):=by
 intro lv
 induction lv with
 |nil=>intro out h _;exact h
 |cons x r ih=>intro out h hx;exact ih _ ((hx x (iK ..)).puts h) λy hy=>hx y (iX _ hy)
theorem qWl (l1 l2:List LvM):yu (l1++l2)=yu l1+yu l2:=by simp[yu]
theorem qGc {n q most:Nat} (hn:9≤n) {lv:List LvM} (H:HS g h (LgC q most lv::R)) (O:OkL most lv) :
  t_w n 91 [.ptr q 0] h λv h'=>HS g h' (qy 164 2 (jZ lv).length v ((jZ lv).flatMap jP)::LgC q most lv::R):=by
 (refine qB rfl omQ λk hk=>?_;show wp (S91 (callT tab qx k) _ _) _;unfold S91;try simp only[iI,uU,iZ])
 obtain⟨v,ps,e,H⟩:=LgC.E H;have hd:=O.deep;have hle:=O.le;have hhe:=O.held;refine Yq (H.nils (e:=164) (sz:=2)) ⟨rfl,rfl⟩ λb1 h1 H=>?_;refine qW (qQ (qX ‹_› e_2 rfl ?_));refine qG (Ks omQ (H.one e_3) H) ?_;rintro _ h4 ⟨b4,rfl,H⟩;have H5:=(H.newBlk .dfd).newBlk (.loop .ready none 91 [1,1,0,1,0] [3] [.ptr b1 0] h4.nx);generalize(h4.new .dfd).nx=l at H5 ⊢;generalize h4.nx=d at H5 ⊢;obtain⟨k2,rfl⟩:∃k2,k=k2+1:=⟨k-1,by omega⟩
 refine qJL (qKs (b0:=b4) (v:=v) (ps:=ps)
  (Inv:=λi h'=>∃ov,HS g h' (kl l (.loop .ready none 91 [1,1,0,1,0] [3] [.ptr b1 0] d)::kl d .dfd::qw b4 [v]::qw b1 [ov]::qy 164 2 (jZ (lv.take i)).length ov ((jZ (lv.take i)).flatMap jP)::
   qw q [.int .i64 (most:Int),v]::qy 234 1 lv.length v (yz ps)::(List.zipWith LvC ps lv++R)))
  (Fin:=λ_=>False) ?_ ?_ omQ ⟨.nils,H5⟩) ?_
 ·rintro i h' ⟨ov,H⟩;obtain⟨et,A⟩:=H.obj e_2;exact⟨A.at 0,e▸H.sl e_6⟩
 ·rintro i a h' ha ⟨ov,H⟩;have hi:=(List.getElem?_eq_some_iff.1 ha).1;have hx:lv[i]? =some (lv[i]'omQ):=iW _;have hm:lv[i]'omQ∈lv:=List.getElem_mem _;generalize lv[i]'omQ=x at hx hm;have hxl:=O.len hm;have hxi:=O.ins x hm;have hxu:=O.un x hm;have hml:(jZ (lv.take i)).length+x.1.length≤96:=by
   have h1:=Jd (lv.take i) [];have h2:yu lv=yu (lv.take i)+(x.1.length+yu (lv.drop (i+1))):=by
    rw[← xk,← qWl]
    congr 1
    have h3:lv.drop i=x::lv.drop (i+1):=by
     have hi':i<lv.length:=by omega
     rw[List.drop_eq_getElem_cons hi'];rw[iW hi']at hx;rw[Option.some.inj hx]
    rw[← h3,List.take_append_drop]
   unfold jZ;simp at h1;omega
  have hmi:InC (jZ (lv.take i)):=Mh _ _ (λc hc=>by cases hc) λy hy=>O.ins y (List.mem_of_mem_take hy);have hms:jZ (lv.take (i+1))=vX x.1 (jZ (lv.take i)):=by unfold jZ;rw[List.take_add_one,hx,Option.toList_some,List.foldl_append];rfl
  refine qJC (H.blk .here) rfl omQ λk3 hk3=>?_;show wp (B0 _ _ _ (.int .i64 ((ps.length-1-i:Nat):Int)) _ _) _;unfold B0
  try simp only[iI,uU,iZ]
  refine qQp H .here λh6 H=>?_;refine qG (ZB omQ omQ H) ?_;rintro _ h7 ⟨w0,rfl,H⟩;obtain⟨T,s⟩:=UR ha hx;obtain⟨w,fv,H7⟩:=LvC.E (H.sel (.there (.there (.there (.there (.there (.there (.there (.there s)))))))));refine qW (qQ (qX ‹_› .here rfl ?_));refine qG (Ge omQ (H7.sel e_1) omQ) λva h8 H8=>?_;refine qG (GF omQ (H8.sel e_4) (.own .here) osQ omQ) ?_;rintro _ h9 ⟨_,H9⟩;have ht:kS 96 [] x.1=(0,x.1):=by unfold kS;rw[GP hxi (by simpa using hxl),NO hxu,iJ rfl]
  rw[ht]at H9;dsimp only at H9;refine qX ‹_› e_8 rfl ?_;have ht2:kS 96 x.1 (jZ (lv.take i))=(0,vX x.1 (jZ (lv.take i))):=by unfold kS;rw[GP hmi omQ,iJ rfl]
  have S2:Rd g _ 2 (jZ (lv.take i)).length ov ((jZ (lv.take i)).flatMap jP):=H9.drop.rd e_8
  refine qG (GF omQ H9 S2 omQ omQ) ?_;rintro _ h10 ⟨_,H10⟩;rw[ht2]at H10;dsimp only at H10;have hpl:=Ur (cs:=jZ (lv.take i)) (l:=x.1);refine qG (Ge omQ H10 omQ) λvb h11 H11=>?_;refine qA H11 e_9 (H11.one .here) osQ λh12 H12=>qVa H12 e_7 λh13 H13=>.inl ⟨rfl,vb,?_⟩;rw[hms]
  have H14:=LvC.I (fv:=fv) (H13.pk [6,5,5,0,4,4,0,0,3,3] 3)
  exact HS.unsel (.there (.there (.there (.there (.there (.there (.there s))))))) H14
 ·rintro _ h6 (⟨ov,H⟩ |hF)
  ·rw[List.take_of_length_le omQ]at H;refine O7 H .here (nofun) λh7 H=>qQi<|qX ‹_› e_3 rfl<|KF H e_1 λh10 H=>qj ?_
   exact(LgC.I (ps:=ps) e (HS.back (A:=_::_::List.zipWith LvC ps lv) (H.sub (L':=qy 164 2 (jZ lv).length ov ((jZ lv).flatMap jP)::qw q [.int .i64 (most:Int),v]::
    qy 234 1 lv.length v (yz ps)::(List.zipWith LvC ps lv++R)) (.cons e_4 (.cons e_4 (.cons e_4 (.drop (.drop (.drop (.drop (.refl))))))))))).pk [1] 0
  ·exact hF.elim
end
section
variable {g h:AH} {L R:List SP}
structure VM where
  sz:Nat
  K:List Cl
  most:Nat
  lv:List LvM
  need:Int
structure OkV (M:VM):Prop where
  lo:32≤M.sz
  hi:M.sz≤256
  lvs:OkL M.most M.lv
  ins:∀c∈M.K,1≤c.1∧c.1<M.sz
  un:UnC M.K
  fr:∀x∈M.lv,x.2.length<100000
def xW (M:VM) (p x:Int):Int×VM :=
 if 1≤p∧p<M.sz then match zg p M.K with
  |some y=>(if y=x then 0 else 14,M)
  |none=>(0,{ M with K:=M.K++[(p,x)] })
 else(2,M)
def qi (M:VM) (p:Int):(Int×Int)×VM :=
 if 1≤p∧p<M.sz then match Gr p M.lv with
  |some x=>((x,0),M)
  |none=>match zg p M.K with
   |some x=>((x,0),M)
   |none=>((0,11),{ M with need:=p })
 else((0,2),M)
def zw (M:VM) (cs:List Cl):Int×VM :=
 if∀c∈cs,1≤c.1∧c.1<M.sz then((vt M.most M.lv M.lv cs).1,{ M with lv:=(vt M.most M.lv M.lv cs).2 })else(2,M)
def freeV (M:VM) (b:Int):VM:={ M with lv:=XF M.lv b }
def vj (M:VM):Int×VM:=((QI M.lv).1,{ M with lv:=(QI M.lv).2 })
def xi (M:VM):Int×VM:=((QH M.lv).1,{ M with lv:=(QH M.lv).2 })
def vS (M:VM):Int×VM:=((Jv M.lv).1,{ M with lv:=(Jv M.lv).2 })
theorem GS:∀(n:Nat) (l:List Int),l.Nodup→(∀x∈l,0≤x∧x<n)→l.length≤n:=by
 intro n
 induction n with
 |zero=>
  intro l _ h;cases l with
  |nil=>exact Nat.le_refl _
  |cons x l=>have:=h x (iK ..);omega
 |succ n ih=>
  intro l hd h;by_cases hx:(n:Int)∈l
  ·have:=ih (l.erase n) (hd.erase _) (λx hx'=>by
    have h1:=h x (List.mem_of_mem_erase hx');have h2:x≠n:=by rintro rfl;exact(List.Nodup.not_mem_erase hd) hx'
    omega)
   rw[List.length_erase_of_mem hx]at this;omega
  ·have:=ih l hd (λx hx'=>by
    have h1:=h x hx';have h2:x≠n:=by rintro rfl;exact hx hx'
    omega)
   omega
theorem OkV.klen {M:VM} (O:OkV M):M.K.length≤256:=by
 have hu:(M.K.map (·.1)).Nodup:=O.un
 have:=GS M.sz _ hu (λx hx=>by
  obtain⟨c,hc,rfl⟩:=List.mem_map.1 hx;have:=O.ins c hc
  omega)
 rw[List.length_map]at this;have:=O.hi;omega
def Q3 (f:Int×Bool):List AV:=[.int .u64 f.1,.bool f.2]
def gT (K:List Cl) (i:Nat):Int×Bool:=match zg (i:Int) K with |some x=>(x,true) |none=>(0,false)
def yo (sz:Nat) (K:List Cl):List (Int×Bool):=(List.range sz).map (gT K)
theorem Js (sz:Nat) (K:List Cl):(yo sz K).length=sz:=by simp[yo]
theorem QN {sz:Nat} {K:List Cl} {i:Nat} (hi:i<sz):(yo sz K)[i]? =some (gT K i):=by simp[yo,List.getElem?_range hi]
theorem vI {α:Type} {sz:Nat} {enc:α→List AV} (he:∀a,(enc a).length=sz) {l:List α} {i:Nat} {a:α} (h:l[i]? =some a):((l.flatMap enc).drop (i*sz)).take sz=enc a:=by obtain⟨hi,e⟩:=List.getElem?_eq_some_iff.1 h;rw[JZ enc he,List.drop_eq_getElem_cons hi,e,List.flatMap_cons,← he a,List.take_left]
theorem Oe {α:Type} {sz:Nat} {enc:α→List AV} (he:∀a,(enc a).length=sz) {l:List α} {i:Nat} {a:α} (hi:i<l.length):kA (l.flatMap enc) (i*sz) (enc a)=(l.set i a).flatMap enc:=by
 have h1:(l.flatMap enc).take (i*sz)=(l.take i).flatMap enc:=by
  have e1:l.flatMap enc=(l.take i).flatMap enc++(l.drop i).flatMap enc:=by rw[← List.flatMap_append,List.take_append_drop]
  have e2:((l.take i).flatMap enc).length=i*sz:=by rw[XG enc he,List.length_take,Nat.min_eq_left omQ]
  rw[e1,← e2,List.take_left]
 have h2:(l.flatMap enc).drop (i*sz+sz)=(l.drop (i+1)).flatMap enc:=by rw[show i*sz+sz=(i+1)*sz by rw[Nat.add_mul,Nat.one_mul],JZ enc he]
 unfold kA;rw[he,h1,h2,List.set_eq_take_append_cons_drop,iJ hi,List.flatMap_append,List.flatMap_cons,List.append_assoc]
theorem qWT {α:Type} {enc:α→List AV} {a:α}:∀n,vE (enc a) n=(List.replicate n a).flatMap enc:=by
 intro n
 induction n with
 |zero=>rfl
 |succ n ih=>rw[vE,ih,List.replicate_succ,List.flatMap_cons]
theorem qKA (sz:Nat):yo sz []=List.replicate sz (0,false):=by unfold yo;rw[show gT []=λ_=>((0,false):Int×Bool)from rfl,List.map_const',List.length_range]
theorem qKa {sz:Nat} {K:List Cl} {i:Nat} {x:Int} (hi:i<sz) (hn:zg (i:Int) K=none):yo sz (K++[((i:Int),x)])=(yo sz K).set i (x,true):=by
 have e:∀j:Nat,zg (j:Int) (K++[((i:Int),x)])=if j=i then some x else zg (j:Int) K:=by
  intro j;rw[← Jk hn,VG];by_cases h:j=i
  ·rw[iJ h,iJ (by rw[h])]
  ·rw[iQ h,iQ omQ]
 apply List.ext_getElem?;intro j;rw[List.getElem?_set,Js];by_cases hj:j<sz
 ·rw[QN hj];by_cases h:i=j
  ·subst h;rw[iJ rfl,iJ hi];unfold gT;rw[e,iJ rfl]
  ·rw[iQ h,QN hj];unfold gT;rw[e,iQ omQ]
 ·rw[List.getElem?_eq_none (by rw[Js];omega),iQ omQ,List.getElem?_eq_none (by rw[Js];omega)]
def ViewC (v:Nat) (M:VM):SP:=.ex λfv=>.ex λov=>.ex λq=>.ex λe=>.all [qw v [fv,ov,.ptr q 0,.int .i64 M.need],qy e 2 M.sz fv ((yo M.sz M.K).flatMap Q3),
 qy 3 1 M.K.length ov (M.K.map λc=>.int .i64 c.1),LgC q M.most M.lv]
theorem ViewC.E {v:Nat} {M:VM} (H:HS g h (ViewC v M::R)):∃fv ov q e,HS g h (qw v [fv,ov,.ptr q 0,.int .i64 M.need]::qy e 2 M.sz fv ((yo M.sz M.K).flatMap Q3)::
  qy 3 1 M.K.length ov (M.K.map λc=>.int .i64 c.1)::LgC q M.most M.lv::R):=by
 obtain⟨fv,H⟩:=H.exE;obtain⟨ov,H⟩:=H.exE;obtain⟨q,H⟩:=H.exE;obtain⟨e,H⟩:=H.exE;exact⟨fv,ov,q,e,H.allE⟩
theorem ViewC.I {v:Nat} {M:VM} {fv ov:AV} {q:Nat} {e:TypeId} (H:HS g h (qw v [fv,ov,.ptr q 0,.int .i64 M.need]::qy e 2 M.sz fv ((yo M.sz M.K).flatMap Q3)::
  qy 3 1 M.K.length ov (M.K.map λc=>.int .i64 c.1)::LgC q M.most M.lv::R)):HS g h (ViewC v M::R) :=
 HS.exI fv (HS.exI ov (HS.exI q (HS.exI e (HS.allI H))))
def szZ (n:Int):Nat:=(max 32 (min n 256)).toNat
theorem MV (n:Int):32≤szZ n∧szZ n≤256:=by unfold szZ;omega
def w7 (words most:Int):VM:=⟨szZ words,[],(max 0 (min most 96)).toNat,[([],[])],0⟩
theorem qVp {m:Nat} (hm:m≤96):OkL m [([],[])]:=⟨by simp[yu],hm,by intro x hx;simp at hx;subst hx;intro c hc;simp at hc,by intro x hx;simp at hx;subst hx;exact List.nodup_nil,by simp,by simp⟩
theorem qvS (words most:Int):OkV (w7 words most) :=
 ⟨(MV _).1,(MV _).2,qVp (by show(max 0 (min most 96)).toNat≤96;omega),by intro c hc;simp[w7]at hc,List.nodup_nil,by intro x hx;simp[w7]at hx;subst hx;simp⟩
theorem qVl {n:Nat} (hn:4≤n) {w m:Int} (H:HS g h R):t_w n 80 [.int .i64 w,.int .i64 m] h λr h'=>∃v,r=.ptr v 0∧HS g h' (ViewC v (w7 w m)::R):=by
 refine t_e2 rfl omQ λk hk=>?_;unfold S80;try simp only[iZ]
 refine ju (zD ?_);have hb:=MV w;rw[show max ((32:Nat):Int) (min w ((256:Nat):Int))=((szZ w:Nat):Int) by unfold szZ;omega];refine Gb H rfl (Nat.le_refl _) omQ λfv h2 H2=>?_;refine qG (qvm omQ H2) ?_;rintro _ h3 ⟨q,rfl,H3⟩;have h1:=H3.one e_1;refine qL (by unfold yM;rw[h1.1];rfl)<|qP H3 (by show(fv.one&&(true&&(true&&(true&&true))))=true;rw[h1.2];rfl) λv h4 H4=>qj ⟨v,rfl,?_⟩;rw[List.take_of_length_le (by rw[kH];exact Nat.le_refl _),show vE [AV.int .u64 ((0:Nat):Int),AV.bool false] (szZ w)=(yo (szZ w) []).flatMap Q3 by rw[qKA,← qWT];rfl]at H4;exact ViewC.I ((H4.nils).pk [1,2,0,0] 0)
theorem G8 {n:Nat} (hn:1≤n) {v:Nat} {M:VM} (H:HS g h (ViewC v M::R)):t_w n 81 [.ptr v 0] h λr h'=>r=.int .i64 (M.sz:Int)∧h'=h:=by
 refine t_e1 rfl omQ λk hk=>?_;unfold S81;try simp only[iZ]
 obtain⟨fv,ov,q,e,H⟩:=ViewC.E H;refine qW (qQ (qX ‹_› .here rfl ?_));refine qm ‹_› e_1<|qj ⟨rfl,rfl⟩
theorem ZT {n:Nat} (hn:1≤n) {v:Nat} {M:VM} {p:Int} (H:HS g h (ViewC v M::R)):t_w n 131 [.ptr v 0,.int .i64 p] h λr h'=>r=.bool (decide (1≤p∧p<M.sz))∧h'=h:=by
 refine t_e2 rfl omQ λk hk=>?_;unfold S131;try simp only[iZ]
 obtain⟨fv,ov,q,e,H⟩:=ViewC.E H;by_cases h1:1≤p
 ·refine zc omQ<|qV<|qa ?_;(try dsimp only);refine qW (qQ (qX ‹_› .here rfl ?_));refine qm ‹_› e_1 ?_
  refine Q2 (qD (qj ⟨?_,rfl⟩))
  congr 1
  exact decide_eq_decide.2 ⟨λh2=>⟨h1,h2⟩,λh2=>h2.2⟩
 ·refine zF omQ<|qV<|qT<|qE ?_
  exact qj ⟨by rw[iV (λh2=>h1 h2.1)],rfl⟩
theorem MB {M:VM} {p x:Int} (O:OkV M):OkV (xW M p x).2:=by
 unfold xW
 split
 ·rename_i hp
  split
  ·exact O
  ·rename_i hn;refine⟨O.lo,O.hi,O.lvs,?_,?_,O.fr⟩
   ·intro c hc;rcases List.mem_append.1 hc with hc |hc
    ·exact O.ins c hc
    ·rw[List.mem_singleton]at hc;subst hc;exact hp
   ·have:=O.un.put (p:=p) (v:=x);rw[Jk hn]at this;exact this
 ·exact O
theorem qJR {n:Nat} (hn:2≤n) {v:Nat} {M:VM} {p x:Int} (H:HS g h (ViewC v M::R)) (O:OkV M) :
  t_w n 82 [.ptr v 0,.int .i64 p,.int .u64 x] h λr h'=>r=.int .i64 (xW M p x).1∧HS g h' (ViewC v (xW M p x).2::R):=by
 refine t_e3 rfl omQ λk hk=>?_;unfold S82;try simp only[iZ]
 refine qG (ZT omQ H) ?_;rintro _ _ ⟨rfl,rfl⟩;unfold xW;by_cases hp:1≤p∧p<M.sz
 ·rw[iJ hp,iG hp];obtain⟨i,rfl⟩:∃i:Nat,p=(i:Int):=⟨p.toNat,by omega⟩;have hi:i<M.sz:=by omega
  obtain⟨fv,ov,q,e,H⟩:=ViewC.E H;refine jk (qJ (qW (qQ (qX ‹_› .here rfl ?_))));refine zd (H.sl e_1) hi omQ (vI (sz:=2) (λ_=>rfl) (QN hi))<|qP H rfl λb h3 H3=>qf H3 .here rfl (by simp) rfl λh4 H4=>?_
  have H5:HS g h4 (qw b (Q3 (gT M.K i))::qw v [fv,ov,.ptr q 0,.int .i64 M.need]::qy e 2 M.sz fv ((yo M.sz M.K).flatMap Q3)::
   qy 3 1 M.K.length ov (M.K.map λc=>.int .i64 c.1)::LgC q M.most M.lv::R):=H4
  unfold Q3 at H5;cases hg:zg (i:Int) M.K with
  |some y=>
   rw[show gT M.K i=(y,true) by unfold gT;rw[hg]]at H5;refine qQ (qX ‹_› .here rfl ?_);refine qZ (qQ (qX ‹_› .here rfl ?_));have H6:=ViewC.I (H5.drop);by_cases hy:y=x
   ·refine q9 omQ<|qJ (qj ⟨by dsimp only;rw[iJ hy];rfl,H6⟩)
   ·refine jX omQ<|qZ (qj ⟨by dsimp only;rw[iQ hy];rfl,H6⟩)
  |none=>
   rw[show gT M.K i=(0,false) by unfold gT;rw[hg]]at H5;have hkl:=O.klen;refine qQ (qX ‹_› .here rfl ?_);refine qJ (qW (qQ (qX ‹_› e_1 rfl ?_)));refine qL rfl<|qXe (H5.drop.sel (P:=qy e 2 M.sz fv ((yo M.sz M.K).flatMap Q3)) e_1) hi rfl rfl λh6 H6=>?_
   rw[show kA ((yo M.sz M.K).flatMap Q3) (i*2) [AV.int .u64 x,AV.bool true]=(yo M.sz (M.K++[((i:Int),x)])).flatMap Q3 by
    rw[qKa hi hg,← Oe (sz:=2) (λ_=>rfl) (by rw[Js];exact hi)];rfl]at H6
   refine qW (qQ (qX ‹_› e_1 rfl ?_));refine qh H6 rfl rfl rfl rfl λv7 h7 H7=>?_;refine jf (H7.sel e_3) (H7.sl .here) omQ omQ rfl λv8 h8 H8=>?_;refine qW (qQ (qA H8 e_3 (H8.one .here) osQ λh9 H9=>qj ⟨rfl,ViewC.I (fv:=fv) (ov:=v8) (q:=q) (e:=e) ?_⟩));rw[List.map_append,List.length_append];exact H9.pk [0,2,0,1] 1
 ·rw[iQ hp,iV hp];refine jA (qZ ?_);exact qj ⟨rfl,H⟩
theorem yJ {M:VM} {p:Int} (O:OkV M):OkV (qi M p).2:=by
 unfold qi
 repeat' split
 all_goals exact⟨O.lo,O.hi,O.lvs,O.ins,O.un,O.fr⟩
theorem JD {n:Nat} (hn:9≤n) {v:Nat} {M:VM} {p:Int} (H:HS g h (ViewC v M::R)) (O:OkV M) :
  t_w n 94 [.ptr v 0,.int .i64 p] h λr h'=>r=.tup [.int .u64 (qi M p).1.1,.int .i64 (qi M p).1.2]∧HS g h' (ViewC v (qi M p).2::R):=by
 refine t_e2 rfl omQ λk hk=>?_;unfold S94;try simp only[iZ]
 refine qG (ZT omQ H) ?_;rintro _ _ ⟨rfl,rfl⟩;unfold qi;by_cases hp:1≤p∧p<M.sz
 ·rw[iJ hp,iG hp];obtain⟨i,rfl⟩:∃i:Nat,p=(i:Int):=⟨p.toNat,by omega⟩;have hi:i<M.sz:=by omega
  obtain⟨fv,ov,q,e,H⟩:=ViewC.E H;refine jk (qJ (qW (qQ (qX ‹_› .here rfl ?_))));refine qG (qgl omQ (H.sel e_3) O.lvs) ?_;rintro _ h2 ⟨rfl,H2⟩;refine qC rfl<|qC rfl ?_;cases hl:Gr (i:Int) M.lv with
  |some y=>simp;refine qZ<|qj ⟨rfl,ViewC.I (H2.pk [1,1,1] 0)⟩
  |none=>
   simp;refine qJ (qW (qQ (qX ‹_› e_1 rfl ?_)));refine zd (H2.sl e_2) hi omQ (vI (sz:=2) (λ_=>rfl) (QN hi))<|qP H2 rfl λb h3 H3=>qf H3 .here rfl (by simp) rfl λh4 H4=>?_
   have H5:HS g h4 (qw b (Q3 (gT M.K i))::LgC q M.most M.lv::qw v [fv,ov,.ptr q 0,.int .i64 M.need]::qy e 2 M.sz fv ((yo M.sz M.K).flatMap Q3)::
    qy 3 1 M.K.length ov (M.K.map λc=>.int .i64 c.1)::R):=H4
   unfold Q3 at H5;cases hg:zg (i:Int) M.K with
   |some y=>rw[show gT M.K i=(y,true) by unfold gT;rw[hg]]at H5;refine qQ (qX ‹_› .here rfl ?_);refine qZ (qQ (qX ‹_› .here rfl ?_));exact qj ⟨rfl,ViewC.I (H5.drop.pk [1,1,1] 0)⟩
   |none=>rw[show gT M.K i=(0,false) by unfold gT;rw[hg]]at H5;refine qQ (qX ‹_› .here rfl ?_);refine qJ (qW (qQ ?_));refine qA H5 e_2 ⟨rfl,rfl⟩ osQ λh9 H9=>qj ⟨rfl,ViewC.I (fv:=fv) (ov:=ov) (H9.pk [0,2,2,1] 1)⟩
 ·rw[iQ hp,iV hp];refine jA (qZ ?_);exact qj ⟨rfl,H⟩
theorem qgI {most:Nat} {lv:List LvM} {p v:Int} {n:Nat} (h:∀x∈lv,x.2.length<n):∀x∈(gw most lv p v).2,x.2.length<n:=by
 cases lv with
 |nil=>exact h
 |cons y r=>
  obtain⟨c,hc⟩:=KS;rw[hc];intro x hx;rcases List.mem_cons.1 hx with rfl |hx
  ·exact h y (iK ..)
  ·exact h x (iX _ hx)
theorem qjB {most:Nat} {was:List LvM} {n:Nat} (hw:∀x∈was,x.2.length<n):∀{cs:List Cl} {lv:List LvM},(∀x∈lv,x.2.length<n)→∀x∈(vt most was lv cs).2,x.2.length<n:=by
 intro cs
 induction cs with
 |nil=>intro lv h;exact h
 |cons c cs ih=>
  intro lv h;rw[gC]
  split
  ·exact ih (qgI h)
  ·exact hw
theorem qQA {M:VM} {cs:List Cl} (O:OkV M):OkV (zw M cs).2:=by
 unfold zw
 split
 ·exact⟨O.lo,O.hi,(qQm O.lvs O.lvs rfl).1,O.ins,O.un,qjB O.fr O.fr⟩
 ·exact O
theorem KZ {n:Nat} (hn:8≤n) {v:Nat} {M:VM} {cs:List Cl} {c:AV} (H:HS g h (ViewC v M::R)) (O:OkV M) (S:Rd g R 2 cs.length c (cs.flatMap jP)) (hc:cs.length<100000) :
  t_w n 96 [.ptr v 0,c] h λr h'=>r=.int .i64 (zw M cs).1∧HS g h' (ViewC v (zw M cs).2::R):=by
 refine t_e2 rfl omQ λk hk=>?_;unfold S96;try simp only[iZ]
 refine zu (S.sl H.drop)<|jM (λk s h'=>∃i:Nat,s=(.int .i64 (i:Int),.int .i64 (cs.length:Int),c,c,.ptr v 0,())∧i≤cs.length∧k=cs.length-i∧HS g h' (ViewC v M::R)∧∀j,j<i→∀d,cs[j]? =some d→1≤d.1∧d.1<M.sz)
  ?_ (m:=cs.length) omQ ⟨0,rfl,by omega,by omega,H,λj hj=>by omega⟩
 rintro k2 ih s h2 hih ⟨i,rfl,h1,rfl,H,hno⟩;refine zL (λhlt=>qZ ?_) λhge=>qJ ?_
 ·have hi:i<cs.length:=by omega
  have hci:cs[i]? =some cs[i]:=iW hi;refine zd (S.sl H.drop) hi omQ (Kw hci)<|qP H rfl λb h3 H3=>qf H3 .here rfl (by simp) rfl λh4 H4=>?_;have H5:HS g h4 (qw b (jP cs[i])::ViewC v M::R):=H4;unfold jP at H5;refine qQ (qX ‹_› .here rfl ?_);refine qG (ZT omQ H5.drop) ?_;rintro _ _ ⟨rfl,rfl⟩;by_cases hin:1≤cs[i].1∧cs[i].1<M.sz
  ·rw[iG hin];refine jk (qJ (qc omQ ?_));refine hih (cs.length-(i+1)) _ _ omQ ⟨i+1,rfl,by omega,rfl,H5.drop,λj hj d hd=>?_⟩;by_cases hj':j<i
   ·exact hno j hj' d hd
   ·obtain rfl:j=i:=by omega
    rw[hci]at hd;cases hd;exact hin
  ·rw[iV hin];refine jA (qZ (qk ?_));unfold zw;rw[iQ (λh=>hin (h _ (List.getElem_mem hi)))];exact qj ⟨rfl,H5.drop⟩
 ·have hall:∀d∈cs,1≤d.1∧d.1<M.sz:=by
   intro d hd;obtain⟨j,hj⟩:=List.getElem?_of_mem hd;exact hno j (by have:=(List.getElem?_eq_some_iff.1 hj).1;omega) d hj
  obtain⟨fv,ov,q,e,H⟩:=ViewC.E H;refine qW (qQ (qX ‹_› .here rfl ?_));refine qG (qzE omQ (H.sel e_3) O.lvs (S.more.more.more) hc) ?_;rintro _ h4 ⟨rfl,H4⟩;unfold zw;rw[iJ hall];exact qk (qj ⟨rfl,ViewC.I (fv:=fv) (ov:=ov) (H4.pk [1,1,1] 0)⟩)
theorem qj3 {n:Nat} (hn:4≤n) {v:Nat} {M:VM} (H:HS g h (ViewC v M::R)) (O:OkV M) :
  t_w n 274 [.ptr v 0] h λr h'=>r=.int .i64 (vj M).1∧HS g h' (ViewC v (vj M).2::R):=by
 refine t_e1 rfl omQ λk hk=>?_;unfold S274;try simp only[iZ]
 obtain⟨fv,ov,q,e,H⟩:=ViewC.E H;refine qW (qQ (qX ‹_› .here rfl ?_));refine qG (qzb omQ (H.sel e_3) O.lvs) ?_;rintro _ h2 ⟨rfl,H2⟩;exact qj ⟨rfl,ViewC.I (fv:=fv) (ov:=ov) (H2.pk [1,1,1,0] 0)⟩
theorem Ze {n:Nat} (hn:2≤n) {v:Nat} {M:VM} (H:HS g h (ViewC v M::R)) (O:OkV M) :
  t_w n 208 [.ptr v 0] h λr h'=>r=.int .i64 (xi M).1∧HS g h' (ViewC v (xi M).2::R):=by
 refine t_e1 rfl omQ λk hk=>?_;unfold S208;try simp only[iZ]
 obtain⟨fv,ov,q,e,H⟩:=ViewC.E H;refine qW (qQ (qX ‹_› .here rfl ?_));refine qG (qQR omQ (H.sel e_3) O.lvs) ?_;rintro _ h2 ⟨rfl,H2⟩;exact qj ⟨rfl,ViewC.I (fv:=fv) (ov:=ov) (H2.pk [1,1,1,0] 0)⟩
theorem qJ9 {n:Nat} (hn:7≤n) {v:Nat} {M:VM} (H:HS g h (ViewC v M::R)) (O:OkV M) :
  t_w n 206 [.ptr v 0] h λr h'=>r=.int .i64 (vS M).1∧HS g h' (ViewC v (vS M).2::R):=by
 refine t_e1 rfl omQ λk hk=>?_;unfold S206;try simp only[iZ]
 obtain⟨fv,ov,q,e,H⟩:=ViewC.E H;refine qW (qQ (qX ‹_› .here rfl ?_));refine qG (qxO omQ (H.sel e_3) O.lvs λx hx=>Nat.lt_trans (O.fr x hx) omQ) ?_;rintro _ h2 ⟨rfl,H2⟩;exact qj ⟨rfl,ViewC.I (fv:=fv) (ov:=ov) (H2.pk [1,1,1,0] 0)⟩
theorem qjl {n:Nat} (hn:3≤n) {v:Nat} {M:VM} {b:Int} (H:HS g h (ViewC v M::R)) (O:OkV M) :
  t_w n 273 [.ptr v 0,.int .i64 b] h λ_ h'=>HS g h' (ViewC v (freeV M b)::R):=by
 refine t_e2 rfl omQ λk hk=>?_;unfold S273;try simp only[iZ]
 obtain⟨fv,ov,q,e,H⟩:=ViewC.E H;refine qW (qQ (qX ‹_› .here rfl ?_));refine qG (qqI omQ (H.sel e_3) O.lvs λx hx=>Nat.lt_trans (O.fr x hx) omQ) ?_;intro _ h2 H2;exact qj (ViewC.I (fv:=fv) (ov:=ov) (H2.pk [1,1,1,0] 0))
theorem Mk {n:Nat} (hn:1≤n) {v:Nat} {M:VM} (H:HS g h (ViewC v M::R)) :
  t_w n 170 [.ptr v 0] h λr h'=>r=.int .i64 M.need∧h'=h:=by
 refine t_e1 rfl omQ λk hk=>?_;unfold S170;try simp only[iZ]
 obtain⟨fv,ov,q,e,H⟩:=ViewC.E H;refine qW (qQ (qX ‹_› .here rfl ?_));exact qj ⟨rfl,rfl⟩
theorem Jx {n:Nat} (hn:10≤n) {v:Nat} {M:VM} (H:HS g h (ViewC v M::R)) (O:OkV M) :
  t_w n 46 [.ptr v 0] h λr h'=>HS g h' (qy 164 2 (jZ M.lv).length r ((jZ M.lv).flatMap jP)::ViewC v M::R):=by
 refine t_e1 rfl omQ λk hk=>?_;unfold S46;try simp only[iZ]
 obtain⟨fv,ov,q,e,H⟩:=ViewC.E H;refine qW (qQ (qX ‹_› .here rfl ?_));refine qG (qGc omQ (H.sel e_3) O.lvs) ?_;intro r h2 H2;refine qj ?_;have H3:=ViewC.I (v:=v) (M:=M) (fv:=fv) (ov:=ov) (q:=q) (e:=e) (R:=qy 164 2 (jZ M.lv).length r ((jZ M.lv).flatMap jP)::R) (H2.sub (.cons e_2 (.cons e_2 (.cons e_2 (.cons e_1 (.refl))))));exact H3.pk [1] 0
theorem qYh {n:Nat}:∀{l:List LvM},(∀x∈l,x.2.length<n)→(l.flatMap (·.2)).length≤l.length*n:=by
 intro l h
 induction l with
 |nil=>simp
 |cons x r ih=>have h1:=h x (iK ..);have h2:=ih λy hy=>h y (iX _ hy);rw[List.flatMap_cons,List.length_append,List.length_cons,Nat.add_mul,Nat.one_mul];omega
theorem qXI {n:Nat} {lv:List LvM} (h:∀x∈lv,x.2.length<n):(gA lv).length≤lv.length*n:=by have:=qYh λx hx=>h x (List.mem_reverse.1 hx);rw[List.length_reverse]at this;exact this
theorem NW {n:Nat} (hn:2≤n) {v:Nat} {M:VM} (H:HS g h (ViewC v M::R)) (O:OkV M) :
  t_w n 47 [.ptr v 0] h λr h'=>HS g h' (qy 3 1 (gA M.lv).length r ((gA M.lv).map (.int .i64))::ViewC v M::R):=by
 refine t_e1 rfl omQ λk hk=>?_;unfold S47;try simp only[iZ]
 obtain⟨fv,ov,q,e,H⟩:=ViewC.E H;refine qW (qQ (qX ‹_› .here rfl ?_));have hfl:=qXI O.fr;have hd:=O.lvs.deep;refine qG (qYf omQ (H.sel e_3) O.lvs omQ) ?_;intro r h2 H2;refine qj ?_;have H3:=ViewC.I (v:=v) (M:=M) (fv:=fv) (ov:=ov) (q:=q) (e:=e) (R:=qy 3 1 (gA M.lv).length r ((gA M.lv).map (.int .i64))::R) (H2.sub (.cons e_2 (.cons e_2 (.cons e_2 (.cons e_1 (.refl))))));exact H3.pk [1] 0
def xh (zs:List Int) (i:Nat):Int:=zs[i]?.getD 0
def kW (zs:List Int):List Cl:=(List.range (szZ zs.length-1)).map λi=>(((i+1:Nat):Int),xh zs (i+1))
def jV (zs:List Int) (most:Int):VM:=⟨szZ zs.length,kW zs,(max 0 (min most 96)).toNat,[([],[])],0⟩
theorem qXR (zs:List Int):(kW zs).length=szZ zs.length-1:=by simp[kW]
theorem O3 (zs:List Int) {i:Nat} (hi:i+1<szZ zs.length):(kW zs)[i]? =some (((i+1:Nat):Int),xh zs (i+1)):=by unfold kW;rw[List.getElem?_map,List.getElem?_range omQ];rfl
theorem qKe (zs:List Int) {i:Nat} {p:Int} (hp:(i:Int)<p):zg p ((kW zs).take i)=none:=by rw[qQN];intro hm;obtain⟨c,hc,he⟩:=List.mem_map.1 hm;obtain⟨j,hj⟩:=List.getElem?_of_mem hc;have hjl:=(List.getElem?_eq_some_iff.1 hj).1;simp[qXR]at hjl;rw[List.getElem?_take_of_lt omQ,O3 zs omQ]at hj;cases hj;dsimp only at he;omega
def Uk (zs:List Int) (most:Int) (i:Nat):VM:={ jV zs most with K:=(kW zs).take i }
theorem qKt (zs:List Int) (most:Int) (i:Nat):OkV (Uk zs most i):=by
 have hb:=MV (zs.length:Int);refine⟨hb.1,hb.2,qVp (by show(max 0 (min most 96)).toNat≤96;omega),?_,?_,by intro x hx;simp[Uk,jV]at hx;subst hx;simp⟩
 ·intro c hc;obtain⟨j,hj⟩:=List.getElem?_of_mem (List.mem_of_mem_take hc);have hjl:=(List.getElem?_eq_some_iff.1 hj).1;rw[qXR]at hjl;rw[O3 zs omQ]at hj;cases hj;show 1≤((j+1:Nat):Int)∧((j+1:Nat):Int)<((szZ zs.length:Nat):Int);omega
 ·refine List.Nodup.sublist ((List.take_sublist i _).map _) ?_;unfold kW;rw[List.map_map];refine List.Pairwise.map _ ?_ (List.nodup_range);intro a b hab;simp;omega
theorem OJ (zs:List Int) (most:Int):OkV (jV zs most):=by have:=qKt zs most (kW zs).length;unfold Uk at this;rw[List.take_length]at this;exact this
theorem NE {n:Nat} (hn:5≤n) {zs:List Int} {a0:AV} {m:Int} (H:HS g h R) (S:Rd g R 1 zs.length a0 (zs.map (.int .u64))) :
  t_w n 40 [a0,.int .i64 m] h λr h'=>∃v,r=.ptr v 0∧HS g h' (ViewC v (jV zs m)::R):=by
 refine t_e2 rfl omQ λk hk=>?_;unfold S40;try simp only[iZ]
 have hb:=MV (zs.length:Int);refine zu (S.sl H)<|qG (qVl omQ H) ?_;rintro _ h1 ⟨v,rfl,H1⟩;refine jM (λk s h'=>∃i:Nat,s=(.int .i64 ((i+1:Nat):Int),.ptr v 0,a0,())∧i+1≤szZ zs.length∧k=szZ zs.length-(i+1)∧HS g h' (ViewC v (Uk zs m i)::R)) ?_ (m:=szZ zs.length-1) omQ ⟨0,rfl,by omega,by omega,H1⟩;rintro k2 ih s h' hih ⟨i,rfl,h1,rfl,H⟩;refine qG (G8 omQ H) ?_;rintro _ _ ⟨rfl,rfl⟩;show wp (zG .lss _ (.int .i64 ((szZ zs.length:Nat):Int)) _) _;refine zL (λhlt=>qZ ?_) λhge=>qJ (qk (qj ⟨v,rfl,?_⟩))
 ·have hi:i+1<szZ zs.length:=by omega
  refine ji [] (λs g'=>s=(.int .u64 (xh zs (i+1)),.int .i64 ((i+1:Nat):Int),.ptr v 0,a0,())∧HS g g' (ViewC v (Uk zs m i)::R)) ?_ ?_
  ·intro j hj;refine zu (S.sl H.drop)<|zL (λhl=>qZ ?_) λhl=>qJ ?_
   ·refine jO (S.sl H.drop) ?_ (hj _ _ ⟨rfl,H⟩);unfold xh;rw[List.getElem?_map,iW omQ];rfl
   ·refine hj _ _ ⟨?_,H⟩;unfold xh;rw[List.getElem?_eq_none omQ];rfl
  ·rintro s g' ⟨rfl,H2⟩;refine qG (qJR omQ H2 (qKt zs m i)) ?_;rintro _ h4 ⟨_,H4⟩;have hk:(xW (Uk zs m i) ((i+1:Nat):Int) (xh zs (i+1))).2=Uk zs m (i+1):=by
    unfold xW;rw[iJ (show 1≤((i+1:Nat):Int)∧((i+1:Nat):Int)<((Uk zs m i).sz:Int)from⟨by omega,show((i+1:Nat):Int)<((szZ zs.length:Nat):Int) by omega⟩)]
    show(match zg ((i+1:Nat):Int) ((kW zs).take i)with
     |some y=>(if y=xh zs (i+1)then(0:Int)else 14,Uk zs m i)
     |none=>(0,{ Uk zs m i with K:=(kW zs).take i++[(((i+1:Nat):Int),xh zs (i+1))] })).2=_
    rw[qKe zs omQ];unfold Uk;rw[List.take_add_one,O3 zs hi];rfl
   rw[hk]at H4;refine qc omQ (hih (szZ zs.length-(i+1+1)) _ _ omQ ⟨i+1,rfl,by omega,rfl,H4⟩)
 ·have hi:i=(kW zs).length:=by rw[qXR];omega
  subst hi;unfold Uk at H;rw[List.take_length]at H;exact H
end
section
abbrev qR:Type:=Int×Int×Int×Int×Int
def jg (x:qR):List AV:=[.int .i64 x.1,.int .i64 x.2.1,.int .i64 x.2.2.1,.int .i64 x.2.2.2.1,.int .u64 x.2.2.2.2]
theorem K5 (l:List qR):qp (l.flatMap jg)=true:=by unfold qp;rw[List.all_eq_true];intro v hv;obtain⟨c,_,hc⟩:=List.mem_flatMap.1 hv;simp[jg]at hc;rcases hc with rfl |rfl |rfl |rfl |rfl<;>rfl
def ja (op:Int):(Int×Int)×(Int×Int)×(Int×Int) :=
 if op=1∨op=11∨op=21 then((0,7),(0,0),(0,0))
 else if op=2∨op=10 then((0,7),(0,7),(0,0))
 else if op=3∨op=4∨op=5∨op=6∨op=7 then((0,7),(0,7),(0,7))
 else if op=8∨op=9 then((0,7),(0,7),(0,15))
 else if op=12 then((0,0),(0,0),(0,40))
 else if op=13 then((0,7),(0,0),(0,40))
 else if op=23 then((1,12),(0,7),(0,6))
 else((0,0),(0,0),(0,0))
def vu (f:Int×Int) (n:Int):Bool:=decide (f.1≤n∧n≤f.2)
def gQ (x:qR):Bool:=decide (1≤x.1∧x.1≤23)&&vu (ja x.1).1 x.2.1&&vu (ja x.1).2.1 x.2.2.1&&vu (ja x.1).2.2 x.2.2.2.1&&decide (x.2.2.2.2=0∨x.1=1)
def xj (op:Int):Bool:=decide (op=14∨op=17)
def zX (op:Int):Int:=if op=15 then 14 else if op=18 then 17 else if op=19 then 18 else 0
def jJ (st:List Int):Int:=st.getLast?.getD (-1)
def qS (l:List qR) (i:Int):qR:=(l[i.toNat]?).getD (0,0,0,0,0)
def opM (l:List qR) (st:List Int):Int:=if st=[]then 0 else(qS l (jJ st)).1
def zo (l:List qR) (st:List Int) (x:qR):Int :=
 if gQ x=false then 8
 else if 0<zX x.1∧opM l st≠zX x.1 then 12
 else if x.1=16∧opM l st≠14 then 12
 else if xj x.1=true∧5≤st.length then 9
 else 0
def jz (st:List Int) (i op:Int):List Int :=
 if xj op=true∨op=18 then(if 0<zX op then st.dropLast else st)++[i]else(if 0<zX op then st.dropLast else st)
def goM (l:List qR):List qR→Nat→List Int→(Int×Int) ⊕ List Int
 |[],_,st=>.inr st
 |x::r,i,st=>if zo l st x=0 then goM l r (i+1) (jz st i x.1)else .inl (i,zo l st x)
def vU:List qR→Nat→List Int→List Int
 |[],_,_=>[]
 |x::r,i,st=>jJ st::vU r (i+1) (jz st i x.1)
def qM (a:List Int) (i:Int):Int:=(a[i.toNat]?).getD 0
def XA (l:List qR) (a:List Int) (i:Nat) (x:qR):Prop :=
 (x.1=12∨x.1=13)∧((l.length:Int)<x.2.2.2.1∨(x.2.2.2.1=l.length∧qM a i≠ -1)∨(x.2.2.2.1<l.length∧qM a x.2.2.2.1≠qM a i))
instance {l:List qR} {a:List Int} {i:Nat} {x:qR}:Decidable (XA l a i x):=by unfold XA;infer_instance
def XE (l:List qR) (a:List Int):List qR→Nat→Int×Int
 |[],_=>(0,0)
 |x::r,i=>if XA l a i x then((i:Int),2)else XE l a r (i+1)
def zb (l:List qR):Int×Int :=
 if l.length=0∨40<l.length then(0,4)
 else match goM l l 0 []with
  | .inl r=>r
  | .inr st=>if st=[]then XE l (vU l 0 []) l 0 else(jJ st,12)
def StOk (i:Nat) (st:List Int):Prop:=∀y∈st,0≤y∧y<(i:Int)
theorem StOk.nil {i:Nat}:StOk i []:=λ_ h=>by cases h
theorem StOk.dropLast {i:Nat} {st:List Int} (h:StOk i st):StOk i st.dropLast:=λy hy=>h y ((List.dropLast_sublist st).subset hy)
theorem StOk.behind {i:Nat} {st:List Int} {op:Int} (h:StOk i st):StOk (i+1) (jz st i op):=by
 have h1:∀s,StOk i s→StOk (i+1) s:=λs hs y hy=>by have:=hs y hy;omega
 have h2:∀s,StOk i s→StOk (i+1) (s++[(i:Int)]):=by
  intro s hs y hy;rcases List.mem_append.1 hy with hy |hy
  ·exact h1 s hs y hy
  ·rw[List.mem_singleton]at hy;omega
 unfold jz
 repeat' split
 ·exact h2 _ h.dropLast
 ·exact h2 _ h
 ·exact h1 _ h.dropLast
 ·exact h1 _ h
theorem StOk.inmost {i:Nat} {st:List Int} (h:StOk i st) (hn:st≠[]):0≤jJ st∧jJ st<(i:Int):=by refine h _ ?_;unfold jJ;rw[List.getLast?_eq_some_getLast hn];exact List.getLast_mem hn
theorem U6 (st:List Int) (i op:Int):(jz st i op).length≤st.length+1:=by
 unfold jz
 repeat' split
 all_goals simp
 all_goals omega
theorem Y5:jJ []= -1:=rfl
theorem xH {l:List qR} {st:List Int} {x:qR} (h:zo l st x=0):gQ x=true∧(0<zX x.1∨x.1=16→st≠[])∧(xj x.1=true→st.length<5):=by
 unfold zo at h
 split at h
 ·cases h
 ·rename_i h1
  split at h
  ·cases h
  ·rename_i h2
   split at h
   ·cases h
   ·rename_i h3
    split at h
    ·cases h
    ·rename_i h4
     refine⟨by simpa using h1,?_,λhb=>by
      by_cases h5:5≤st.length
      ·exact absurd ⟨hb,h5⟩ h4
      ·omega⟩
     rintro ho rfl;have h0:opM l []=0:=rfl;rw[h0]at h2 h3;rcases ho with ho |ho
     ·exact h2 ⟨ho,by omega⟩
     ·exact h3 ⟨ho,by omega⟩
theorem GH {l r:List qR} {x:qR} {i:Nat} {st:List Int}:goM l (x::r) i st=if zo l st x=0 then goM l r (i+1) (jz st i x.1)else .inl (i,zo l st x):=rfl
theorem Uo:∀{r:List qR} {i:Nat} {st:List Int},(vU r i st).length=r.length:=by
 intro r
 induction r with
 |nil=>intro i st;rfl
 |cons x r ih=>intro i st;show(vU r (i+1) _).length+1=_;rw[ih];rfl
theorem qjd:∀{r:List qR} {i j:Nat} {st:List Int},j<r.length→∃s,(vU r i st)[j]? =some (jJ s)∧(∀{l:List qR} {st':List Int},goM l r i st=.inr st'→StOk i st→StOk (i+j) s∧∀x,r[j]? =some x→zo l s x=0):=by
 intro r
 induction r with
 |nil=>intro i j st h;simp at h
 |cons x r ih=>
  intro i j st h;cases j with
  |zero=>
   refine⟨st,rfl,λ{l st'} hg hs=>⟨hs,?_⟩⟩;intro y hy;simp at hy;subst hy;rw[GH]at hg
   split at hg
   ·assumption
   ·cases hg
  |succ j=>
   obtain⟨s,h1,h2⟩:=ih (by simp at h;omega);refine⟨s,h1,λ{l st'} hg hs=>?_⟩;rw[GH]at hg
   split at hg
   ·have:=h2 hg hs.behind;rw[show i+1+j=i+(j+1) by omega]at this;exact this
   ·cases hg
end
section
variable {g h:AH} {L R:List SP}
theorem kh {D:Nat→Prop} {sz n:Nat} {v:AV} {xs:List AV} (S:Sl D h sz n v xs):One v:=by cases S<;>exact⟨rfl,rfl⟩
theorem vQ {v:AV} (o:One v):qp [v]=true:=by simp[qp,o.2]
theorem zn {g' ha:AH} {b off n nx:Nat} {xs ys l:List AV} {L2 R2:List SP} {K0:Go.Ae.R} {Q:AV→AH→Prop} (H:HS g h L) (s:Sel L (qw b xs) R) (hx:(xs.drop off).take n=l) (H2:HS g' ha L2) (s2:Sel L2 (qw b ys) R2) (hx2:(ys.drop off).take n=l) (hl:l.length=n) (h0:0<n) (hlt:b<nx)
  (w:wp K0 Q):wp (Jz (.ptr b off) (some n) (.agg l) h ha nx K0) Q:=by
 obtain⟨e,A⟩:=H.obj s;obtain⟨e2,A2⟩:=H2.obj s2;exact qvI hl h0 (λi hi=>by rw[A.at,← hx,List.getElem?_take_of_lt hi,List.getElem?_drop]) (λi hi=>by rw[A2.at,← hx2,List.getElem?_take_of_lt hi,List.getElem?_drop]) hlt w
theorem qJm {u x:Bool} {r:AV} {K:AV→Go.Ae.R} {Q:AV→AH→Prop} (hr:u=true→r=.bool x) (w:wp (K (.bool (u&&x))) Q):wp (ky (.bool u) r (.bool false) K) Q:=by
 cases u
 ·exact w
 ·rw[hr rfl];exact w
end
section
variable {g h:AH} {L R:List SP}
theorem qyC {s:List UInt8} {K:AV→Go.Ae.R} {Q:AV→AH→Prop} {t:Bool} (ht:qQe .neq s []=some (.bool t)) (w:wp (K (.bool t)) Q):wp (MN .neq (.str s) (.str []) K) Q:=by show wp (ob (qQe .neq s []) K) Q;rw[ht];exact w
theorem G9 {n:Nat} (hn:1≤n) {x:Int}:t_w n 137 [.int .i64 x] h λv h'=>v=.int .i64 (zX x)∧h'=h:=by
 refine t_e1 rfl omQ λk hk=>?_;unfold S137;try simp only[iZ]
 repeat' (first |refine qZ ?_ |refine qJ ?_ |(refine qa ?_;try dsimp only) |(refine qs ?_;try dsimp only) |(refine qT ?_;try dsimp only) |(refine qe ?_;try dsimp only) |(refine zK ?_;try dsimp only) |refine qD ?_ |refine qE ?_ |(with_reducible refine qV ?_;try dsimp only) |refine qk ?_ |refine jk ?_ |refine jA ?_ |refine qc omQ ?_ |refine zJ omQ ?_ |refine xr omQ ?_ |refine yy omQ ?_ |refine ju ?_ |refine zD ?_ |refine zL (λhc=>?_) (λhc=>?_) |refine kV (λhc=>?_) (λhc=>?_) |refine kG (λhc=>?_) (λhc=>?_) |refine yC (λhc=>?_) (λhc=>?_) |refine gK (λhc=>?_) (λhc=>?_) |refine yS (λhc=>?_) (λhc=>?_) |refine wG (λhc=>?_) (λhc=>?_))
 all_goals refine qj ⟨?_,rfl⟩
 all_goals unfold zX
 all_goals congr 1
 all_goals (repeat' split)
 all_goals omega
theorem U4 {n:Nat} (hn:1≤n) {x:Int}:t_w n 183 [.int .i64 x] h λv h'=>v=.bool (xj x)∧h'=h:=by
 refine t_e1 rfl omQ λk hk=>?_;unfold S183;try simp only[iZ]
 unfold xj;by_cases h1:x=14
 ·refine qg omQ<|qV<|qs<|qD ?_
  exact qj ⟨by rw[iG (.inl h1)],rfl⟩
 ·refine qK omQ<|qV<|qe ?_;(try dsimp only)
  refine Xh (qE ?_);exact qj ⟨by congr 1;exact decide_eq_decide.2 ⟨.inr,λh=>h.resolve_left h1⟩,rfl⟩
theorem qkN {n:Nat} (hn:1≤n) {x:Int}:t_w n 184 [.int .i64 x] h λv h'=>v=.bool (decide (x=12∨x=13))∧h'=h:=by
 refine t_e1 rfl omQ λk hk=>?_;unfold S184;try simp only[iZ]
 by_cases h1:x=12
 ·refine qg omQ<|qV<|qs<|qD ?_
  exact qj ⟨by rw[iG (.inl h1)],rfl⟩
 ·refine qK omQ<|qV<|qe ?_;(try dsimp only)
  refine Xh (qE ?_);exact qj ⟨by congr 1;exact decide_eq_decide.2 ⟨.inr,λh=>h.resolve_left h1⟩,rfl⟩
theorem Y4 {D:Nat→Prop} {n:Nat} (hn:1≤n) {st:List Int} {v:AV} (S:Sl D h 1 st.length v (st.map (.int .i64))) (hl:st.length<1000) :
  t_w n 134 [v] h λr h'=>r=.int .i64 (jJ st)∧h'=h:=by
 refine t_e1 rfl omQ λk hk=>?_;unfold S134;try simp only[iZ]
 refine zu S ?_;by_cases h0:st.length=0
 ·obtain rfl:=iA h0;refine qg omQ<|qZ<|qj ⟨rfl,rfl⟩
 ·refine qK omQ<|qJ (zu S ?_);refine zJ omQ ?_;rw[show(st.length:Int)-((1:Nat):Int)=((st.length-1:Nat):Int) by omega];have hne:st≠[]:=by rintro rfl;exact h0 rfl
  refine jO S ?_ (qj ⟨rfl,rfl⟩);unfold jJ;rw[List.getElem?_map,← List.getLast?_eq_getElem?,List.getLast?_eq_some_getLast hne];rfl
theorem U8 {n:Nat} (hn:1≤n) {f:Int×Int} {x:Int} (H:HS g h R):t_w n 234 [.agg [.int .i64 f.1,.int .i64 f.2],.int .i64 x] h λv h'=>v=.bool (vu f x)∧HS g h' R:=by
 refine t_e2 rfl omQ λk hk=>?_;unfold S234;try simp only[iZ]
 refine qP H rfl λb h1 H1=>?_;unfold vu;by_cases c1:f.1≤x
 ·refine qQ (qX ‹_› .here rfl ?_);refine zc omQ<|qV<|qa ?_;(try dsimp only);refine qQ (qX ‹_› .here rfl ?_)
  refine OO (qD ?_);exact qj ⟨by congr 1;exact decide_eq_decide.2 ⟨λh=>⟨c1,h⟩,λh=>h.2⟩,H1.drop⟩
 ·refine qQ (qX ‹_› .here rfl ?_);refine zF omQ<|qV<|qT<|qE ?_
  exact qj ⟨by rw[iV (λh=>c1 h.1)],H1.drop⟩
def vT (f:Int×Int):List AV:=[.int .i64 f.1,.int .i64 f.2]
theorem qZe {n:Nat} (hn:1≤n) {x:Int} (H:HS g h R):t_w n 232 [.int .i64 x] h λv h'=>v=.tup [.agg (vT (ja x).1),.agg (vT (ja x).2.1),.agg (vT (ja x).2.2)]∧HS g h' R:=by
 refine t_e1 rfl omQ λk hk=>?_;unfold S232;try simp only[iZ]
 refine qP H rfl λb0 h1 H1=>?_;refine qP H1 rfl λb2 h2 H2=>?_;refine qP H2 rfl λb4 h3 H3=>?_;refine qL rfl<|qP H3 rfl λb7 h4 H4=>?_;refine qf H4 .here rfl osQ rfl λh5 H5=>?_;refine ji [] (λs h'=>s=(.ptr b4 0,.ptr b2 0,.ptr b0 0,())∧HS g h' (qw b0 (vT (ja x).1)::qw b2 (vT (ja x).2.1)::qw b4 (vT (ja x).2.2)::R)) ?_ ?_
 ·intro j hj;by_cases ha:x=1∨x=11∨x=21
  ·have e:ja x=((0,7),(0,0),(0,0)):=by unfold ja;rw[iJ ha]
   rw[e]at hj;rcases ha with rfl |rfl |rfl
   all_goals (first |(refine qV<|qK omQ<|qJ<|qK omQ<|qJ<|qg omQ<|qZ ?_) |(refine qV<|qK omQ<|qJ<|qg omQ<|qZ<|qZ ?_) |(refine qV<|qg omQ<|qZ<|qZ ?_))
   all_goals refine qF H5 .here rfl omQ rfl ?_
   all_goals refine qf H5 e_3 rfl (by simp[vT]) rfl λh6 H6=>?_
   all_goals exact hj _ _ ⟨rfl,H6.pk [0,2,1] 1⟩
  by_cases hb:x=2∨x=10
  ·have e:ja x=((0,7),(0,7),(0,0)):=by unfold ja;rw[iQ ha,iJ hb]
   rw[e]at hj;rcases hb with rfl |rfl
   all_goals (first |(refine qV<|qK omQ<|qJ<|qK omQ<|qJ<|qK omQ<|qJ<|qV<|qK omQ<|qJ<|qg omQ<|qZ<|qV ?_;(try dsimp only)) |(refine qV<|qK omQ<|qJ<|qK omQ<|qJ<|qK omQ<|qJ<|qV<|qg omQ<|qZ<|qZ<|qV ?_;(try dsimp only)))
   all_goals refine qF H5 .here rfl omQ rfl ?_
   all_goals refine qF H5 .here rfl omQ rfl ?_
   all_goals refine qf H5 e_3 rfl (by simp[vT]) rfl λh6 H6=>?_
   all_goals refine qf H6 e_3 rfl (by simp[vT]) rfl λh7 H7=>?_
   all_goals refine zn H5 .here rfl H6 e_1 rfl rfl omQ (HS.lt H5 .here) ?_
   all_goals exact hj _ _ ⟨rfl,H7.pk [1,0,1] 1⟩
  by_cases hc:x=3∨x=4∨x=5∨x=6∨x=7
  ·have e:ja x=((0,7),(0,7),(0,7)):=by unfold ja;rw[iQ ha,iQ hb,iJ hc]
   rw[e]at hj;rcases hc with rfl |rfl |rfl |rfl |rfl
   all_goals (first |(refine qV<|qK omQ<|qJ<|qK omQ<|qJ<|qK omQ<|qJ<|qV<|qK omQ<|qJ<|qK omQ<|qJ<|qV<|qK omQ<|qJ<|qK omQ<|qJ<|qK omQ<|qJ<|qK omQ<|qJ<|qg omQ<|qZ<|qV ?_;(try dsimp only)) |(refine qV<|qK omQ<|qJ<|qK omQ<|qJ<|qK omQ<|qJ<|qV<|qK omQ<|qJ<|qK omQ<|qJ<|qV<|qK omQ<|qJ<|qK omQ<|qJ<|qK omQ<|qJ<|qg omQ<|qZ<|qZ<|qV ?_;(try dsimp only)) |(refine qV<|qK omQ<|qJ<|qK omQ<|qJ<|qK omQ<|qJ<|qV<|qK omQ<|qJ<|qK omQ<|qJ<|qV<|qK omQ<|qJ<|qK omQ<|qJ<|qg omQ<|qZ<|qZ<|qV ?_;(try dsimp only)) |(refine qV<|qK omQ<|qJ<|qK omQ<|qJ<|qK omQ<|qJ<|qV<|qK omQ<|qJ<|qK omQ<|qJ<|qV<|qK omQ<|qJ<|qg omQ<|qZ<|qZ<|qV ?_;(try dsimp only)) |(refine qV<|qK omQ<|qJ<|qK omQ<|qJ<|qK omQ<|qJ<|qV<|qK omQ<|qJ<|qK omQ<|qJ<|qV<|qg omQ<|qZ<|qZ<|qV ?_;(try dsimp only)))
   all_goals refine qF H5 .here rfl omQ rfl ?_
   all_goals refine qF H5 .here rfl omQ rfl ?_
   all_goals refine qF H5 .here rfl omQ rfl ?_
   all_goals refine qf H5 e_3 rfl (by simp[vT]) rfl λh6 H6=>?_
   all_goals refine qf H6 e_3 rfl (by simp[vT]) rfl λh7 H7=>?_
   all_goals refine qf H7 e_3 rfl (by simp[vT]) rfl λh8 H8=>?_
   all_goals refine zn H6 e_1 rfl H7 e_2 rfl rfl omQ (HS.lt H5 .here) ?_
   all_goals refine zn H5 .here rfl H6 e_1 rfl rfl omQ (HS.lt H5 .here) ?_
   all_goals refine zn H5 .here rfl H6 e_1 rfl rfl omQ (HS.lt H5 .here) ?_
   all_goals exact hj _ _ ⟨rfl,H8.pk [2,1,0] 1⟩
  by_cases hd:x=8∨x=9
  ·have e:ja x=((0,7),(0,7),(0,15)):=by unfold ja;rw[iQ ha,iQ hb,iQ hc,iJ hd]
   rw[e]at hj;rcases hd with rfl |rfl
   all_goals (first |(refine qV<|qK omQ<|qJ<|qK omQ<|qJ<|qK omQ<|qJ<|qV<|qK omQ<|qJ<|qK omQ<|qJ<|qV<|qK omQ<|qJ<|qK omQ<|qJ<|qK omQ<|qJ<|qK omQ<|qJ<|qK omQ<|qJ<|qV<|qK omQ<|qJ<|qg omQ<|qZ<|qV ?_;(try dsimp only)) |(refine qV<|qK omQ<|qJ<|qK omQ<|qJ<|qK omQ<|qJ<|qV<|qK omQ<|qJ<|qK omQ<|qJ<|qV<|qK omQ<|qJ<|qK omQ<|qJ<|qK omQ<|qJ<|qK omQ<|qJ<|qK omQ<|qJ<|qV<|qg omQ<|qZ<|qZ<|qV ?_;(try dsimp only)))
   all_goals refine qF H5 .here rfl omQ rfl ?_
   all_goals refine qF H5 .here rfl omQ rfl ?_
   all_goals refine qL rfl ?_
   all_goals refine qf H5 e_3 rfl (by simp[vT]) rfl λh6 H6=>?_
   all_goals refine qf H6 e_3 rfl (by simp[vT]) rfl λh7 H7=>?_
   all_goals refine qf H7 e_3 rfl (by simp[vT]) rfl λh8 H8=>?_
   all_goals refine zn H5 .here rfl H6 e_1 rfl rfl omQ (HS.lt H5 .here) ?_
   all_goals exact hj _ _ ⟨rfl,H8.pk [2,1,0] 1⟩
  by_cases he:x=12
  ·have e:ja x=((0,0),(0,0),(0,40)):=by unfold ja;rw[iQ ha,iQ hb,iQ hc,iQ hd,iJ he]
   rw[e]at hj;subst he;refine qV<|qK omQ<|qJ (qK omQ ?_);refine qJ (qK omQ ?_);refine qJ (qV ?_);refine qK omQ<|qJ (qK omQ ?_);refine qJ (qV ?_);refine qK omQ<|qJ (qK omQ ?_);refine qJ (qK omQ ?_);refine qJ (qK omQ ?_);refine qJ (qK omQ ?_);refine qJ (qV ?_);refine qK omQ<|qJ (qK omQ ?_);refine qJ (qg omQ ?_);refine qZ (qL rfl ?_)
   refine qf H5 e_1 rfl (by simp[vT]) rfl λh6 H6=>?_;exact hj _ _ ⟨rfl,H6.pk [3,2,0] 1⟩
  by_cases hf:x=13
  ·have e:ja x=((0,7),(0,0),(0,40)):=by unfold ja;rw[iQ ha,iQ hb,iQ hc,iQ hd,iQ he,iJ hf]
   rw[e]at hj;subst hf;refine qV<|qK omQ<|qJ (qK omQ ?_);refine qJ (qK omQ ?_);refine qJ (qV ?_);refine qK omQ<|qJ (qK omQ ?_);refine qJ (qV ?_);refine qK omQ<|qJ (qK omQ ?_);refine qJ (qK omQ ?_);refine qJ (qK omQ ?_);refine qJ (qK omQ ?_);refine qJ (qV ?_);refine qK omQ<|qJ (qK omQ ?_);refine qJ (qK omQ ?_);refine qJ (qg omQ ?_);refine qZ<|qF H5 .here rfl omQ rfl<|qL rfl<|qf H5 e_3 rfl (by simp[vT]) rfl λh6 H6=>?_;refine qf H6 e_2 rfl (by simp[vT]) rfl λh7 H7=>?_;exact hj _ _ ⟨rfl,H7.pk [1,2,0] 1⟩
  by_cases hg:x=23
  ·have e:ja x=((1,12),(0,7),(0,6)):=by unfold ja;rw[iQ ha,iQ hb,iQ hc,iQ hd,iQ he,iQ hf,iJ hg]
   rw[e]at hj;subst hg;refine qV<|qK omQ<|qJ (qK omQ ?_);refine qJ (qK omQ ?_);refine qJ (qV ?_);refine qK omQ<|qJ (qK omQ ?_);refine qJ (qV ?_);refine qK omQ<|qJ (qK omQ ?_);refine qJ (qK omQ ?_);refine qJ (qK omQ ?_);refine qJ (qK omQ ?_);refine qJ (qV ?_);refine qK omQ<|qJ (qK omQ ?_);refine qJ (qK omQ ?_);refine qJ (qK omQ ?_);refine qJ (qg omQ ?_);refine qZ (qL rfl ?_);refine qL rfl<|qL rfl<|qf H5 e_3 rfl (by simp[vT]) rfl λh6 H6=>?_;refine qf H6 e_3 rfl (by simp[vT]) rfl λh7 H7=>?_;refine qf H7 e_3 rfl (by simp[vT]) rfl λh8 H8=>?_;exact hj _ _ ⟨rfl,H8.pk [2,1,0] 1⟩
  ·have e:ja x=((0,0),(0,0),(0,0)):=by unfold ja;rw[iQ ha,iQ hb,iQ hc,iQ hd,iQ he,iQ hf,iQ hg]
   rw[e]at hj ⊢;refine qV<|qK omQ<|qJ (qK omQ ?_);refine qJ (qK omQ ?_);refine qJ (qV ?_);refine qK omQ<|qJ (qK omQ ?_);refine qJ (qV ?_);refine qK omQ<|qJ (qK omQ ?_);refine qJ (qK omQ ?_);refine qJ (qK omQ ?_);refine qJ (qK omQ ?_);refine qJ (qV ?_);refine qK omQ<|qJ (qK omQ ?_);refine qJ (qK omQ ?_);refine qJ (qK omQ ?_);refine qJ (qK omQ ?_);refine qJ ?_
   exact hj _ _ ⟨rfl,H5.pk [3,2,1] 1⟩
 ·rintro s h6 ⟨rfl,H6⟩;generalize ja x=F at*;refine qV (qF H6 .here rfl omQ rfl ?_);refine qF H6 e_1 rfl omQ rfl<|qF H6 e_2 rfl omQ rfl<|qf H6 .here rfl (by simp[vT]) rfl λh7 H7=>?_;refine qf H7 e_1 rfl (by simp[vT]) rfl λh8 H8=>?_;refine qf H8 e_2 rfl (by simp[vT]) rfl λh9 H9=>?_;refine zn H7 e_2 rfl H8 e_2 rfl rfl omQ (HS.lt H6 e_2)<|zn H6 e_2 rfl H7 e_2 rfl rfl omQ (HS.lt H6 e_2)<|zn H6 e_1 rfl H7 e_1 rfl rfl omQ (HS.lt H6 e_1)<|qk (qF H9 e_2 rfl omQ rfl ?_);refine qF H9 e_1 rfl omQ rfl<|qF H9 .here rfl omQ rfl<|qj ⟨rfl,H9.drop.drop.drop⟩
def nameL:List (List UInt8):=[[],[115,101,116],[109,111,118,101],[97,100,100],[115,117,98],[109,117,108],[108,101,115,115],[101,113,117,97,108],[108,111,97,100],[115,116,111,114,101],[97,108,108,111,99],[102,114,101,101],[106,117,109,112],[122,101,114,111],[111,112,101,110],[99,108,111,115,101],[117,110,100,111],[101,105,116,104,101,114],[111,114],[100,111,110,101],[114,101,116,114,121],[101,109,105,116],[102,97,105,108],[99,97,108,108]]
theorem qvd {p:Nat} (hp:p<24):∃s,nameL[p]? =some s∧qQe .neq s []=some (.bool (decide (1≤(p:Int)∧(p:Int)≤23))):=by
 match p,hp with
 | 0,_=>exact⟨_,rfl,rfl⟩
 | 1,_=>exact⟨_,rfl,rfl⟩
 | 2,_=>exact⟨_,rfl,rfl⟩
 | 3,_=>exact⟨_,rfl,rfl⟩
 | 4,_=>exact⟨_,rfl,rfl⟩
 | 5,_=>exact⟨_,rfl,rfl⟩
 | 6,_=>exact⟨_,rfl,rfl⟩
 | 7,_=>exact⟨_,rfl,rfl⟩
 | 8,_=>exact⟨_,rfl,rfl⟩
 | 9,_=>exact⟨_,rfl,rfl⟩
 | 10,_=>exact⟨_,rfl,rfl⟩
 | 11,_=>exact⟨_,rfl,rfl⟩
 | 12,_=>exact⟨_,rfl,rfl⟩
 | 13,_=>exact⟨_,rfl,rfl⟩
 | 14,_=>exact⟨_,rfl,rfl⟩
 | 15,_=>exact⟨_,rfl,rfl⟩
 | 16,_=>exact⟨_,rfl,rfl⟩
 | 17,_=>exact⟨_,rfl,rfl⟩
 | 18,_=>exact⟨_,rfl,rfl⟩
 | 19,_=>exact⟨_,rfl,rfl⟩
 | 20,_=>exact⟨_,rfl,rfl⟩
 | 21,_=>exact⟨_,rfl,rfl⟩
 | 22,_=>exact⟨_,rfl,rfl⟩
 | 23,_=>exact⟨_,rfl,rfl⟩
 |k+24,h=>exact absurd h omQ
theorem qj1 {n:Nat} (hn:2≤n) {x:Int} (H:HS g h R):t_w n 233 [.int .i64 x] h λv h'=>∃s,v=.str s∧qQe .neq s []=some (.bool (decide (1≤x∧x≤23)))∧HS g h' R:=by
 refine t_e1 rfl omQ λk hk=>?_;unfold S233;try simp only[iZ]
 refine qG (Q':=λv h'=>∃e,HS g h' (qy e 1 24 v (nameL.map .str)::R)) ?_ ?_
 ·(refine qB rfl omQ λk hk=>?_;show wp (S297 (callT tab qx k) _) _;unfold S297;try simp only[iI,uU,iZ])
  exact qh H rfl rfl rfl rfl λv h1 H1=>qj ⟨_,H1⟩
 rintro v h1 ⟨e,H1⟩;refine qG (Q':=λw h'=>∃s,w=.str s∧qQe .neq s []=some (.bool (decide (1≤x∧x≤23)))∧h'=h1) ?_ ?_
 ·refine t_e2 rfl omQ λk hk=>?_;unfold S296;try simp only[iZ]
  by_cases c0:x<0
  ·refine jT omQ<|qV<|qs<|qD (qZ ?_)
   exact qj ⟨[],rfl,by rw[iV omQ];rfl,rfl⟩
  ·refine jD omQ<|qV<|qe<|qm ‹_› .here ?_
   by_cases c1:x<24
   ·obtain⟨p,rfl⟩:∃p:Nat,x=(p:Int):=⟨x.toNat,by omega⟩;obtain⟨s,hs,ht⟩:=qvd (show p<24 by omega);refine zF omQ<|qE (qJ (jO (H1.sl .here) (by rw[List.getElem?_map,hs];rfl) (qj ⟨s,rfl,ht,rfl⟩)))
   ·refine zc omQ<|qE (qZ ?_);exact qj ⟨[],rfl,by rw[iV omQ];rfl,rfl⟩
 ·rintro _ h2 ⟨s,rfl,ht,rfl⟩;exact qj ⟨s,rfl,ht,H1.drop⟩
theorem qkh {n:Nat} (hn:3≤n) {x:qR} (H:HS g h R):t_w n 181 [.agg (jg x)] h λv h'=>v=.bool (gQ x)∧HS g h' R:=by
 refine t_e1 rfl omQ λk hk=>?_;unfold S181;try simp only[iZ]
 obtain⟨op,a,b,c,q⟩:=x;refine qP H rfl λb0 h1 H1=>?_;refine qQ (qX ‹_› .here rfl ?_);refine qG (qZe omQ H1) ?_;rintro _ h2 ⟨rfl,H2⟩;have hM:gQ (op,a,b,c,q)=(decide (1≤op∧op≤23)&&vu (ja op).1 a&&vu (ja op).2.1 b&&vu (ja op).2.2 c&&decide (q=0∨op=1)):=rfl;rw[hM];generalize ja op=F at*;obtain⟨f1,f2,f3⟩:=F;refine qC rfl<|qC rfl<|qC rfl<|qP H2 rfl λb1 h3 H3=>?_;refine qP H3 rfl λb2 h4 H4=>?_;refine qP H4 rfl λb3 h5 H5=>?_;refine qf H5 e_2 rfl osQ rfl λh6 H6=>?_;refine qf H6 e_2 rfl osQ rfl λh7 H7=>?_;refine qf H7 e_2 rfl osQ rfl λh8 H8=>?_;refine qQ (qX ‹_› e_3 rfl ?_);refine qG (qj1 omQ H8) ?_;rintro _ h9 ⟨s,rfl,ht,H⟩;refine qyC ht ?_;by_cases c1:1≤op∧op≤23
 rotate_left
 ·rw[iV c1];refine qV<|qT<|qE (qV ?_);refine qT<|qE (qV ?_);refine qT<|qE (qV ?_);refine qT<|qV<|zK<|qV<|qT<|qE ?_
  exact qj ⟨rfl,H.drop.drop.drop.drop⟩
 rw[iG c1];refine qV<|qa ?_;(try dsimp only)
 refine qF H e_2 rfl omQ rfl<|qQ (qX ‹_› e_3 rfl ?_);refine qG (U8 omQ H) ?_;rintro _ h10 ⟨rfl,H10⟩;cases hf1:vu f1 a
 ·refine qD (qV ?_);refine qT<|qE (qV ?_);refine qT<|qE (qV ?_);refine qT<|qV<|zK<|qV<|qT<|qE ?_
  exact qj ⟨rfl,H10.drop.drop.drop.drop⟩
 refine qD (qV ?_);refine qa ?_;(try dsimp only)
 refine qF H10 e_1 rfl omQ rfl<|qQ (qX ‹_› e_3 rfl ?_);refine qG (U8 omQ H10) ?_;rintro _ h11 ⟨rfl,H11⟩;cases hf2:vu f2 b
 ·refine qD (qV ?_);refine qT<|qE (qV ?_);refine qT<|qV<|zK<|qV<|qT<|qE ?_
  exact qj ⟨rfl,H11.drop.drop.drop.drop⟩
 refine qD (qV ?_);refine qa ?_;(try dsimp only)
 refine qF H11 .here rfl omQ rfl<|qQ (qX ‹_› e_3 rfl ?_);refine qG (U8 omQ H11) ?_;rintro _ h12 ⟨rfl,H12⟩;cases hf3:vu f3 c
 ·refine qD (qV ?_);refine qT<|qV<|zK<|qV<|qT<|qE ?_
  exact qj ⟨rfl,H12.drop.drop.drop.drop⟩
 by_cases c2:q=0
 ·refine qD (qV ?_);refine qa<|qQ (qX ‹_› e_3 rfl ?_);refine qg omQ<|qV<|qs<|qV<|qa<|qD (qD ?_)
  exact qj ⟨by rw[iG (.inl c2)];rfl,H12.drop.drop.drop.drop⟩
 by_cases c3:op=1
 ·refine qD (qV ?_);refine qa<|qQ (qX ‹_› e_3 rfl ?_);refine qK omQ<|qV<|qe<|qQ (qX ‹_› e_3 rfl ?_);refine qg omQ<|qV<|qa<|qE (qD ?_)
  exact qj ⟨by rw[iG (.inr c3)];rfl,H12.drop.drop.drop.drop⟩
 ·refine qD (qV ?_);refine qa<|qQ (qX ‹_› e_3 rfl ?_);refine qK omQ<|qV<|qe<|qQ (qX ‹_› e_3 rfl ?_);refine qK omQ<|qV<|qa<|qE (qD ?_)
  exact qj ⟨by rw[iV (λh=>h.elim c2 c3)];rfl,H12.drop.drop.drop.drop⟩
end
section
variable {g h:AH} {L R:List SP}
theorem qgM {l:List qR} {i:Nat} (hi:i<l.length):qS l (i:Int)=l[i]:=by unfold qS;rw[show((i:Int)).toNat=i by omega,iW hi];rfl
theorem qxN {n:Nat} (hn:2≤n) {l:List qR} {st:List Int} {sv tv:AV} (H:HS g h R) (S:Rd g R 5 l.length sv (l.flatMap jg)) (T:Rd g R 1 st.length tv (st.map (.int .i64))) (hs:StOk l.length st) (hl:st.length<1000) :
  t_w n 182 [tv,.agg [sv]] h λv h'=>v=.int .i64 (opM l st)∧HS g h' R:=by
 refine t_e2 rfl omQ λk hk=>?_;unfold S182;try simp only[iZ]
 refine qP H (vQ (kh (S.sl H))) λb h1 H1=>?_;refine zu (T.sl H1.drop) ?_;unfold opM;by_cases h0:st=[]
 ·subst h0;rw[iJ rfl]
  skip
  exact qj ⟨rfl,H1.drop⟩
 ·have hl0:st.length≠0:=λh=>h0 (iA h);rw[iQ h0];refine qK omQ<|qJ (qV ?_);refine qQ (qX ‹_› .here rfl ?_)
  refine qG (Y4 omQ (T.sl H1.drop) hl) ?_;rintro _ h1 ⟨rfl,rfl⟩;have hi:=hs.inmost h0;generalize jJ st=p at*;obtain⟨p,rfl⟩:∃q:Nat,p=(q:Int):=⟨p.toNat,by omega⟩;have hp:p<l.length:=by omega
  refine yn (S.sl H1.drop) omQ hp (by rw[Xf jg (λ_=>rfl) _ _ _ omQ,iW hp];rfl)<|qd ‹_› .here rfl ‹_› .here rfl (HS.lt ‹_› .here)<|qj ⟨by rw[qgM hp],H1.drop⟩
theorem qGN {n:Nat} (hn:4≤n) {l:List qR} {st:List Int} {sv tv:AV} {x:qR} (H:HS g h R) (S:Rd g R 5 l.length sv (l.flatMap jg)) (T:Rd g R 1 st.length tv (st.map (.int .i64))) (hs:StOk l.length st) (hl:st.length<1000) :
  t_w n 132 [.agg [sv],tv,.agg (jg x)] h λv h'=>v=.int .i64 (zo l st x)∧HS g h' R:=by
 refine t_e3 rfl omQ λk hk=>?_;unfold S132;try simp only[iZ]
 refine qP H (vQ (kh (S.sl H))) λb0 h1 H1=>?_;refine qP H1 rfl λb2 h2 H2=>?_;refine qF H2 .here rfl omQ rfl<|qG (qkh omQ H2) ?_;rintro _ h3 ⟨rfl,H3⟩;obtain⟨op,a,b,c,q⟩:=x;have hW:zo l st (op,a,b,c,q)=if gQ (op,a,b,c,q)=false then 8 else if 0<zX op∧opM l st≠zX op then 12 else if op=16∧opM l st≠14 then 12 else if xj op=true∧5≤st.length then 9 else 0:=rfl
 rw[hW];cases gQ (op,a,b,c,q)
 ·refine jA (qZ ?_);exact qj ⟨rfl,H3.drop.drop⟩
 rw[iQ osQ]
 (first |refine qZ ?_ |with_reducible refine qJ ?_ |(refine qa ?_;try dsimp only) |(refine qs ?_;try dsimp only) |(refine qT ?_;try dsimp only) |(refine qe ?_;try dsimp only) |(refine zK ?_;try dsimp only) |refine qD ?_ |refine qE ?_ |(refine qV ?_;try dsimp only) |refine qk ?_ |refine jk ?_ |refine jA ?_ |refine qc omQ ?_ |refine zJ omQ ?_ |refine xr omQ ?_ |refine yy omQ ?_ |refine ju ?_ |refine zD ?_)
 (first |refine qZ ?_ |refine qJ ?_ |(refine qa ?_;try dsimp only) |(refine qs ?_;try dsimp only) |(refine qT ?_;try dsimp only) |(refine qe ?_;try dsimp only) |(refine zK ?_;try dsimp only) |refine qD ?_ |refine qE ?_ |(refine qV ?_;try dsimp only) |refine qk ?_ |refine jk ?_ |refine jA ?_ |refine qc omQ ?_ |refine zJ omQ ?_ |refine xr omQ ?_ |refine yy omQ ?_ |refine ju ?_ |refine zD ?_)
 refine Kk (λs h'=>s=(.bool (decide (0<zX op∧opM l st≠zX op)),.ptr b2 0,.ptr b0 0,tv,())∧HS g h' (qw b2 [.int .i64 op,.int .i64 a,.int .i64 b,.int .i64 c,.int .u64 q]::qw b0 [sv]::R)) ?_ ?_
 ·intro j hj;refine qQ (qX ‹_› .here rfl ?_);refine qG (G9 omQ) ?_;rintro _ h3 ⟨rfl,rfl⟩;by_cases h1:0<zX op
  ·refine yp omQ<|qa ?_;(try dsimp only)
   refine qF H3 e_1 rfl omQ rfl<|qG (qxN omQ H3 S.more.more T.more.more hs hl) ?_;rintro _ h4 ⟨rfl,H4⟩;refine qQ (qX ‹_› .here rfl ?_);refine qG (G9 omQ) ?_;rintro _ h4 ⟨rfl,rfl⟩;refine MK (qD (qd ‹_› .here rfl ‹_› .here rfl (HS.lt ‹_› .here) ?_));refine hj _ _ ⟨?_,H4⟩
   congr 2
   exact decide_eq_decide.2 ⟨λh=>⟨h1,h⟩,λh=>h.2⟩
  ·refine yT omQ<|qT<|qE ?_
   refine hj _ _ ⟨?_,H3⟩;rw[iV (λh=>h1 h.1)]
 rintro s h4 ⟨rfl,H⟩;by_cases hA:0<zX op∧opM l st≠zX op
 ·rw[iG hA,iJ hA];refine qZ<|qj ⟨rfl,H.drop.drop⟩
 rw[iV hA,iQ hA];refine qJ (qQ (qX ‹_› .here rfl ?_));refine Xh (Kk (λs h'=>∃(r:AV) (u x:Bool),s=(r,.bool u,.ptr b2 0,tv,())∧(u=true→r=.bool x)∧((u&&x)=decide (op=16∧opM l st≠14))∧HS g h' (qw b2 [.int .i64 op,.int .i64 a,.int .i64 b,.int .i64 c,.int .u64 q]::qw b0 [sv]::R)) ?_ ?_)
 ·intro j hj;by_cases h1:op=16
  ·rw[iG (show op=((16:Nat):Int)from h1)];refine qa ?_;(try dsimp only)
   refine qF H e_1 rfl omQ rfl<|qG (qxN omQ H S.more.more T.more.more hs hl) ?_;rintro _ h4 ⟨rfl,H4⟩;refine MK (hj _ _ ⟨_,true,decide (¬opM l st=14),rfl,λ_=>rfl,?_,H4⟩);rw[Bool.true_and];exact decide_eq_decide.2 ⟨λh=>⟨h1,h⟩,λh=>h.2⟩
  ·rw[iV (show¬op=((16:Nat):Int)from h1)];refine qT ?_;(try dsimp only)
   refine hj _ _ ⟨_,false,false,rfl,(nofun),?_,H⟩;rw[iV (λh=>h1 h.1)];rfl
 rintro s h4 ⟨r,u,y,rfl,hr,hu,H⟩;refine qJm hr ?_;rw[hu];by_cases hB:op=16∧opM l st≠14
 ·rw[iG hB,iJ hB];refine qZ<|qj ⟨rfl,H.drop.drop⟩
 rw[iV hB,iQ hB];refine qJ (qQ (qX ‹_› .here rfl ?_));refine qG (U4 omQ) ?_;rintro _ h4 ⟨rfl,rfl⟩;cases hb:xj op
 ·rw[iQ osQ];refine qV<|qT<|qE (qJ ?_)
  exact qj ⟨rfl,H.drop.drop⟩
 ·refine qV<|qa ?_;(try dsimp only)
  refine zu (T.sl H.drop.drop) ?_;by_cases h5:5≤st.length
  ·rw[iJ ⟨rfl,h5⟩];refine zc omQ<|qD (qZ ?_);exact qj ⟨rfl,H.drop.drop⟩
  ·rw[iQ (λh=>h5 h.2)];refine zF omQ<|qD (qJ ?_);exact qj ⟨rfl,H.drop.drop⟩
def StC (v:AV) (st:List Int):SP:=qy 3 1 st.length v (st.map (.int .i64))
theorem Vm {n:Nat} (hn:2≤n) {st:List Int} {tv:AV} {i op:Int} (H:HS g h (StC tv st::R)) (hs:0<zX op→st≠[]) (hl:st.length<1000) :
  t_w n 133 [tv,.int .i64 i,.int .i64 op] h λv h'=>HS g h' (StC v (jz st i op)::R):=by
 refine t_e3 rfl omQ λk hk=>?_;unfold S133;try simp only[iZ]
 refine ji [] (λs h'=>∃v,s=(.int .i64 op,.int .i64 i,v,())∧HS g h' (StC v (if 0<zX op then st.dropLast else st)::R)) ?_ ?_
 ·intro j hj;refine qG (G9 omQ) ?_;rintro _ h ⟨rfl,rfl⟩;by_cases h1:0<zX op
  ·have hne:=hs h1;have hl0:st.length≠0:=λh=>hne (iA h);rw[iJ h1]at hj;refine yp h1 (qZ ?_);refine zu (H.sl .here)<|zJ omQ ?_;rw[show(st.length:Int)-((1:Nat):Int)=((st.length-1:Nat):Int) by omega];refine YJ H omQ omQ λv H1=>?_;refine hj _ _ ⟨v,rfl,?_⟩;unfold StC;rw[List.length_dropLast,List.dropLast_eq_take,List.map_take];rw[Nat.mul_one]at H1;exact H1
  ·rw[iQ h1]at hj;refine yT h1 (qJ ?_);exact hj _ _ ⟨tv,rfl,H⟩
 rintro s h1 ⟨v,rfl,H⟩;unfold jz;have hl2:(if 0<zX op then st.dropLast else st).length<1000:=by
  split
  ·rw[List.length_dropLast];omega
  ·exact hl
 generalize(if 0<zX op then st.dropLast else st)=st at*;refine qV ?_;(try dsimp only)
 refine qG (U4 omQ) ?_;rintro _ h1 ⟨rfl,rfl⟩;have push:∀{K:AV→AH→Go.Ae.R} {Q:AV→AH→Prop},(∀v' h',HS g h' (StC v' (st++[i])::R)→wp (K v' h') Q)→
   wp (xX h1 3 [.int .i64 ((0:Nat):Int)] 1 [(0,1,.int .i64 i)] λv15 h16=>xx h16 3 1 v v15 K) Q:=by
  intro K Q w;refine qh H rfl rfl rfl rfl λv5 h5 H5=>?_;refine jf (H5.sel e_1) (H5.sl .here) omQ omQ rfl λv6 h6 H6=>w v6 h6 ?_;unfold StC;rw[List.map_append,List.length_append];exact H6.pk [0] 1
 cases hb:xj op
 ·by_cases h18:op=18
  ·rw[iJ (.inr h18)];refine qV<|qe<|qg omQ<|qE (qZ ?_)
   exact push λv' h' H'=>qk (qj H')
  ·rw[iQ (by simp;exact h18)];refine qV<|qe<|qK omQ<|qE (qJ (qk ?_))
   exact qj H
 ·rw[iJ (.inl rfl)];refine qV<|qs<|qD (qZ ?_)
  exact push λv' h' H'=>qk (qj H')
theorem G6 {l:List qR} {i:Nat} {st:List Int} (hi:i<l.length):goM l (l.drop i) i st=if zo l st l[i]=0 then goM l (l.drop (i+1)) (i+1) (jz st i l[i].1)else .inl ((i:Int),zo l st l[i]):=by rw[List.drop_eq_getElem_cons hi];rfl
theorem Nx {l:List qR} {i:Nat} {st:List Int} (hi:i<l.length):vU (l.drop i) i st=jJ st::vU (l.drop (i+1)) (i+1) (jz st i l[i].1):=by rw[List.drop_eq_getElem_cons hi];rfl
theorem Y2 {l:List qR} {a:List Int} {i:Nat} (hi:i<l.length):XE l a (l.drop i) i=if XA l a i l[i]then((i:Int),2)else XE l a (l.drop (i+1)) (i+1):=by rw[List.drop_eq_getElem_cons hi];rfl
theorem YO {l:List qR} {i:Nat} (hi:i<l.length):((l.flatMap jg).drop (i*5)).take 5=jg l[i]:=vI (sz:=5) (λ_=>rfl) (iW hi)
theorem K4 {n:Nat} (hn:3≤n) {l:List qR} {st':List Int} {sv:AV} (H:HS g h R) (S:Rd g R 5 l.length sv (l.flatMap jg)) (hg:goM l l 0 []=.inr st') (hl:l.length≤100) :
  t_w n 136 [.agg [sv]] h λv h'=>HS g h' (qy 3 1 l.length v ((vU l 0 []).map (.int .i64))::R):=by
 refine t_e1 rfl omQ λk hk=>?_;unfold S136;try simp only[iZ]
 refine qP H (vQ (kh (S.sl H))) λb0 h1 H1=>?_;refine qQ (qX ‹_› .here rfl ?_);refine zu (S.sl H1.drop)<|Xe H1 omQ λov h2 H2=>?_;refine qQ (qX ‹_› e_1 rfl ?_);refine zu (S.sl H2.drop.drop)<|jM (λm s h'=>∃(i:Nat) (st A:List Int) (tv:AV),s=(.int .i64 (i:Int),.int .i64 (l.length:Int),sv,tv,ov,())∧i≤l.length∧m=l.length-i∧StOk i st∧st.length≤i∧goM l (l.drop i) i st=.inr st'∧A.length=i∧vU l 0 []=A++vU (l.drop i) i st∧
  HS g h' (qy 3 1 l.length ov ((A++List.replicate (l.length-i) 0).map (.int .i64))::StC tv st::R))
  ?_ (m:=l.length) omQ ⟨0,[],[],.nils,rfl,by omega,by omega,StOk.nil,by simp,hg,rfl,rfl,by
   rw[List.nil_append,List.map_replicate]
   exact(H2.nils).pk [1,0] 1⟩
 rintro m ih s h3 hih ⟨i,st,A,tv,rfl,hi,rfl,hs,hsl,hgo,hA,hR,H⟩;by_cases hlt:i<l.length
 ·rw[G6 hlt]at hgo;rw[Nx hlt]at hR;have hrow:=YO hlt;generalize l[i]=x at*;by_cases hw:zo l st x=0
  rotate_left
  ·rw[iQ hw]at hgo;cases hgo
  rw[iJ hw]at hgo;have ho:=xH hw;refine jT omQ<|qZ (zd (S.sl H.drop.drop) hlt omQ hrow ?_);refine qP H rfl λb h4 H4=>?_;refine qf H4 .here rfl (by simp[jg]) rfl λh5 H5=>?_;unfold jg at H5;refine qG (Y4 omQ (H5.sl e_2) omQ) ?_;rintro _ h5 ⟨rfl,rfl⟩;refine Yo (H5.sel e_1) omQ ⟨rfl,rfl⟩ λh6 H6=>?_;have hset:((A++List.replicate (l.length-i) 0).map (AV.int .i64)).set i (.int .i64 (jJ st))=((A++[jJ st])++List.replicate (l.length-(i+1)) 0).map (.int .i64):=by
   rw[← List.map_set]
   congr 1
   rw[List.set_append_right _ _ omQ,hA,Nat.sub_self,show l.length-i=(l.length-(i+1))+1 by omega,List.replicate_succ];simp
  rw[hset]at H6;refine qQ (qX ‹_› e_1 rfl ?_);refine qG (Vm omQ (H6.sub (L':=StC tv st::qw b [.int .i64 x.1,.int .i64 x.2.1,.int .i64 x.2.2.1,.int .i64 x.2.2.2.1,.int .u64 x.2.2.2.2]::qy 3 1 l.length ov (((A++[jJ st])++List.replicate (l.length-(i+1)) 0).map (.int .i64))::R) (.cons e_2 (.cons e_1 (.cons .here .refl)))) (λh=>ho.2.1 (.inl h)) omQ) ?_;intro tv2 h8 H8;refine qc omQ ?_;have hbl:=U6 st i x.1;exact hih (l.length-(i+1)) _ _ omQ ⟨i+1,jz st i x.1,A++[jJ st],tv2,rfl,by omega,rfl,hs.behind,by omega,hgo,by simp[hA],by rw[hR];simp,H8.pk [2,0] 1⟩
 ·obtain rfl:i=l.length:=by omega
  refine jD omQ<|qJ (qk (qj ?_));rw[hR];rw[Nat.sub_self,List.replicate_zero,List.append_nil]at H;rw[List.drop_length];show HS g h3 (qy _ 1 l.length ov ((A++[]).map _)::R);rw[List.append_nil];exact H.pk [0] 1
theorem qqd {x:qR} (h:gQ x=true) (hj:x.1=12∨x.1=13):0≤x.2.2.2.1∧x.2.2.2.1≤40:=by
 have e:(ja x.1).2.2=(0,40):=by
  rcases hj with e |e<;>rw[e]<;>rfl
 unfold gQ at h;rw[e]at h;simp only[Bool.and_eq_true,vu,decide_eq_true_eq]at h;exact h.1.2
theorem qVr {n:Nat} (hn:2≤n) {l:List qR} {a:List Int} {sv av:AV} (H:HS g h R) (S:Rd g R 5 l.length sv (l.flatMap jg)) (T:Rd g R 1 a.length av (a.map (.int .i64))) (ha:a.length=l.length) (hm:∀x∈l,gQ x=true) (hl:l.length≤100) :
  t_w n 135 [.agg [sv],av] h λv h'=>v=.tup [.int .i64 (XE l a l 0).1,.int .i64 (XE l a l 0).2]∧HS g h' R:=by
 refine t_e2 rfl omQ λk hk=>?_;unfold S135;try simp only[iZ]
 refine qP H (vQ (kh (S.sl H))) λb0 h1 H1=>?_;have hLV:=(S.sl H).lenV;refine qQ (qX ‹_› .here rfl ?_);refine yU ‹_›<|jM (λm s h'=>∃i:Nat,s=(.int .i64 (i:Int),.int .i64 (l.length:Int),sv,.ptr b0 0,av,())∧i≤l.length∧m=l.length-i∧XE l a l 0=XE l a (l.drop i) i∧HS g h' (qw b0 [sv]::R))
  ?_ (m:=l.length) omQ ⟨0,rfl,by omega,by omega,rfl,H1⟩
 rintro m ih s h2 hih ⟨i,rfl,hi,rfl,hJ,H⟩;by_cases hlt:i<l.length
 rotate_left
 ·obtain rfl:i=l.length:=by omega
  rw[List.drop_length]at hJ;rw[hJ];refine jD omQ<|qJ (qk ?_);exact qj ⟨rfl,H.drop⟩
 rw[Y2 hlt]at hJ;have hrow:=YO hlt;have hmx:=hm l[i] (List.getElem_mem hlt);generalize l[i]=x at*;obtain⟨op,xa,xb,c,q⟩:=x;unfold jg at hrow;refine jT omQ (qZ ?_);refine ji [] (λs h'=>s=(.int .i64 (i:Int),.int .i64 (l.length:Int),sv,.ptr b0 0,av,())∧¬XA l a i (op,xa,xb,c,q)∧HS g h' (qw b0 [sv]::R)) ?_ ?_
 rotate_left
 ·rintro s h3 ⟨rfl,hno,H3⟩;rw[iQ hno]at hJ;refine qc omQ<|hih (l.length-(i+1)) _ _ omQ ⟨i+1,rfl,by omega,rfl,hJ,H3⟩
 intro j hj;refine zd (S.sl H.drop) hlt omQ hrow<|qP H rfl λb h4 H4=>?_;refine qf H4 .here rfl osQ rfl λh5 H5=>?_;have H5:HS g h5 (qw b [.int .i64 op,.int .i64 xa,.int .i64 xb,.int .i64 c,.int .u64 q]::qw b0 [sv]::R):=H5;refine qQ (qX ‹_› .here rfl ?_);refine qG (qkN omQ) ?_;rintro _ h5 ⟨rfl,rfl⟩;by_cases hjm:op=12∨op=13
 rotate_left
 ·rw[iV hjm];refine jA (qZ ?_);exact hj _ _ ⟨rfl,λh=>hjm h.1,H5.drop⟩
 rw[iG hjm];have hc:=qqd hmx hjm;dsimp only at hc;obtain⟨p,rfl⟩:∃p:Nat,c=(p:Int):=⟨c.toNat,by omega⟩;have hcell:∀k:Nat,k<l.length→(a.map (AV.int .i64))[k]? =some (.int .i64 (qM a (k:Int))):=by intro k hk;unfold qM;rw[List.getElem?_map,show((k:Int)).toNat=k by omega,iW omQ];rfl
 have Ta:Sl (λ_=>True) h5 1 a.length av (a.map (.int .i64)):=T.sl H5.drop.drop;by_cases c1:l.length<p
 ·rw[iJ ⟨hjm,.inl (by dsimp only;omega)⟩]at hJ;rw[hJ];refine jk (qJ (qQ (qX ‹_› .here rfl ?_)));refine qQ (qX ‹_› e_1 rfl ?_);refine yU ‹_›<|yp omQ<|qV<|qs<|qV<|zK<|qV<|qs<|qD (qV ?_);refine qs<|qV<|zK<|qV<|qs<|qD (qZ (qk ?_))
  exact qj ⟨rfl,H5.drop.drop⟩
 by_cases c2:p=l.length
 ·subst c2;refine jk (qJ (qQ (qX ‹_› .here rfl ?_)));refine qQ (qX ‹_› e_1 rfl ?_);refine yU ‹_›<|yT omQ<|qV<|qe<|qQ (qX ‹_› .here rfl ?_);refine qQ (qX ‹_› e_1 rfl ?_);refine yU ‹_›<|qg omQ<|qV<|qa ?_;(try dsimp only)
  refine jO Ta (hcell i hlt) ?_;by_cases c3:qM a i= -1
  ·refine q9 (by rw[c3];decide)<|qV<|qe<|qD (qE (qV ?_));refine qe<|qQ (qX ‹_› .here rfl ?_);refine qQ (qX ‹_› e_1 rfl ?_);refine yU ‹_›<|jD omQ<|qV<|qT<|qV<|qe<|qE (qE (qJ ?_))
   exact hj _ _ ⟨rfl,λh=>by
    rcases h.2 with h |h |h
    ·dsimp only at h;omega
    ·exact h.2 c3
    ·dsimp only at h;omega,H5.drop⟩
  ·refine jX (λh=>c3 (by rw[h];decide)) ?_;rw[iJ ⟨hjm,.inr (.inl ⟨rfl,c3⟩)⟩]at hJ;rw[hJ];refine qV<|qe<|qD (qE (qV ?_));refine qs<|qV<|zK<|qV<|qs<|qD (qZ (qk ?_))
   exact qj ⟨rfl,H5.drop.drop⟩
 ·refine jk (qJ (qQ (qX ‹_› .here rfl ?_)));refine qQ (qX ‹_› e_1 rfl ?_);refine yU ‹_›<|yT omQ<|qV<|qe<|qQ (qX ‹_› .here rfl ?_);refine qQ (qX ‹_› e_1 rfl ?_);refine yU ‹_›<|qK omQ<|qV<|qT<|qV<|qe<|qE (qE (qV ?_));refine qe<|qQ (qX ‹_› .here rfl ?_);refine qQ (qX ‹_› e_1 rfl ?_);refine yU ‹_›<|jT omQ<|qV<|qa<|qQ (qX ‹_› .here rfl ?_)
  refine jO Ta (hcell p omQ)<|jO Ta (hcell i hlt) ?_;by_cases c3:qM a p=qM a i
  ·refine q9 c3<|qV<|qe<|qD (qE (qJ ?_))
   exact hj _ _ ⟨rfl,λh=>by
    rcases h.2 with h |h |h
    ·dsimp only at h;omega
    ·have:=h.1;dsimp only at this;omega
    ·exact h.2 c3,H5.drop⟩
  ·refine jX c3 ?_;rw[iJ ⟨hjm,.inr (.inr ⟨by dsimp only;omega,c3⟩)⟩]at hJ;rw[hJ];refine qV<|qe<|qD (qE (qZ (qk ?_)))
   exact qj ⟨rfl,H5.drop.drop⟩
theorem qgR {l:List qR}:∀{r:List qR} {i:Nat} {st st':List Int},goM l r i st=.inr st'→∀x∈r,gQ x=true:=by
 intro r
 induction r with
 |nil=>intro i st st' _ x hx;cases hx
 |cons y r ih=>
  intro i st st' h x hx;rw[GH]at h
  split at h
  ·rename_i hw;rcases List.mem_cons.1 hx with rfl |hx
   ·exact(xH hw).1
   ·exact ih h x hx
  ·cases h
theorem qk7 {l:List qR}:∀{r:List qR} {i:Nat} {st:List Int} {q:Int×Int},goM l r i st=.inl q→q.2≠0:=by
 intro r
 induction r with
 |nil=>intro i st q h;cases h
 |cons y r ih=>
  intro i st q h;rw[GH]at h
  split at h
  ·exact ih h
  ·rename_i hw;cases h;exact hw
theorem Ve {l:List qR} (h:(zb l).2=0):goM l l 0 []=.inr []:=by
 unfold zb at h
 split at h
 ·cases h
 ·cases hg:goM l l 0 []with
  |inl q=>rw[hg]at h;exact absurd h (qk7 hg)
  |inr st=>
   rw[hg]at h;dsimp only at h
   split at h
   ·rename_i h0;rw[h0]
   ·cases h
theorem Ok {n:Nat} (hn:6≤n) {l:List qR} {sv:AV} (H:HS g h R) (S:Rd g R 5 l.length sv (l.flatMap jg)) (hl:l.length≤100) :
  t_w n 83 [.agg [sv]] h λv h'=>v=.tup [.int .i64 (zb l).1,.int .i64 (zb l).2]∧HS g h' R:=by
 refine t_e1 rfl omQ λk hk=>?_;unfold S83;try simp only[iZ]
 refine qP H (vQ (kh (S.sl H))) λb0 h1 H1=>?_;have hLV:=(S.sl H).lenV;have hC:zb l=if l.length=0∨40<l.length then(0,4)else match goM l l 0 []with
  | .inl r=>r
  | .inr st=>if st=[]then XE l (vU l 0 []) l 0 else(jJ st,12):=rfl
 generalize zb l=C at*;refine qQ (qX ‹_› .here rfl ?_);refine yU ‹_› ?_;by_cases c0:l.length=0
 ·rw[iJ (.inl c0)]at hC;subst hC;refine qg omQ<|qV<|qs<|qD (qZ ?_)
  exact qj ⟨rfl,H1.drop⟩
 by_cases c1:40<l.length
 ·rw[iJ (.inr c1)]at hC;subst hC;refine qK omQ<|qV<|qe<|qQ (qX ‹_› .here rfl ?_);refine yU ‹_›<|yp omQ<|qE (qZ ?_)
  exact qj ⟨rfl,H1.drop⟩
 rw[iQ omQ]at hC;refine qK omQ<|qV<|qe<|qQ (qX ‹_› .here rfl ?_);refine yU ‹_›<|yT omQ<|qE (qJ (qQ (qX ‹_› .here rfl ?_)));refine yU ‹_› ?_
 generalize hG:goM l l 0 []=G at hC;refine jM (λm s h'=>∃(i:Nat) (st:List Int) (tv:AV),s=(.int .i64 (i:Int),.int .i64 (l.length:Int),sv,tv,.ptr b0 0,())∧i≤l.length∧m=l.length-i∧StOk i st∧st.length≤i∧goM l (l.drop i) i st=G∧HS g h' (StC tv st::qw b0 [sv]::R))
  ?_ (m:=l.length) omQ ⟨0,[],.nils,rfl,by omega,by omega,StOk.nil,by simp,hG,H1.nils⟩
 rintro m ih s h2 hih ⟨i,st,tv,rfl,hi,rfl,hs,hsl,hgo,H⟩;by_cases hlt:i<l.length
 ·rw[G6 hlt]at hgo;have hrow:=YO hlt;generalize l[i]=x at*;refine jT omQ<|qZ (zd (S.sl H.drop.drop) hlt omQ hrow ?_);refine qP H rfl λb h4 H4=>?_;refine qf H4 .here rfl (by simp[jg]) rfl λh5 H5=>?_;refine qF H5 e_2 rfl omQ rfl<|qF H5 .here rfl omQ rfl<|qG (qGN omQ H5 S.more.more.more (Rd.own e_1) (λy hy=>by have:=hs y hy;omega) omQ) ?_;rintro _ h6 ⟨rfl,H6⟩;by_cases hw:zo l st x=0
  ·rw[iJ hw]at hgo;have ho:=xH hw;refine q9 hw ?_;unfold jg at H6;refine qJ (qQ (qX ‹_› .here rfl ?_));refine qG (Vm omQ (H6.sel e_1) (λh=>ho.2.1 (.inl h)) omQ) ?_;intro tv2 h8 H8;have hbl:=U6 st i x.1;refine qc omQ<|hih (l.length-(i+1)) _ _ omQ ⟨i+1,jz st i x.1,tv2,rfl,by omega,rfl,hs.behind,by omega,hgo,H8.pk [0] 1⟩
  ·rw[iQ hw]at hgo;subst hgo;rw[hC];refine jX hw<|qZ (qk ?_);exact qj ⟨rfl,H6.drop.drop.drop⟩
 ·obtain rfl:i=l.length:=by omega
  rw[List.drop_length]at hgo;have hgo:(Sum.inr st:(Int×Int) ⊕ List Int)=G:=hgo;subst hgo;dsimp only at hC;refine jD omQ (qJ ?_);refine zu (H.sl .here) ?_;by_cases h0:st=[]
  ·subst h0;rw[iJ rfl]at hC;rw[show([]:List Int).length=0 from rfl];refine yT omQ<|qJ (qV ?_);(try dsimp only)
   refine qF H e_1 rfl omQ rfl<|qF H e_1 rfl omQ rfl<|qG (K4 omQ H S.more.more hG hl) ?_;intro av h3 H3;refine qG (qVr omQ H3 S.more.more.more (by rw[Uo];exact Rd.own .here) Uo (qgR hG) hl) ?_;rintro _ h4 ⟨rfl,H4⟩;rw[← hC];refine qC rfl<|qC rfl<|zn H e_1 rfl H3 e_2 rfl rfl omQ (HS.lt H e_1)<|qk<|qj ⟨rfl,H4.drop.drop.drop⟩
  ·rw[iQ h0]at hC;subst hC;have hl0:st.length≠0:=λh=>h0 (iA h);refine yp omQ<|qZ (qG (Y4 omQ (H.sl .here) omQ) ?_);rintro _ h3 ⟨rfl,rfl⟩;refine qk<|qj ⟨rfl,H.drop.drop⟩
theorem jJA {l:List qR} {st':List Int} (hg:goM l l 0 []=.inr st') {i:Nat} (hi:i<l.length) (ho:0<zX l[i].1∨l[i].1=16):∃p:Nat,(vU l 0 [])[i]? =some (p:Int)∧p<l.length:=by
 obtain⟨s,h1,h2⟩:=qjd hi;obtain⟨h3,h4⟩:=h2 hg StOk.nil;have hw:=h4 l[i] (iW hi);have hne:=(xH hw).2.1 ho;have hin:=h3.inmost hne;refine⟨(jJ s).toNat,?_,by omega⟩;rw[h1]
 congr 1
 omega
end
section
variable {g h:AH} {L R:List SP}
theorem Sel.app {A A':List SP} {P:SP} (s:Sel A P A') (R:List SP):Sel (A++R) P (A'++R):=by
 induction s with
 |here=>exact .here
 |there s ih=>exact .there ih
theorem HS.allSel {A A':List SP} {P:SP} (s:Sel A P A') (H:HS g h (.all A::R)):HS g h (P:: .all A'::R):=by have H1:=(H.allE).sel (Sel.app s R);have H2:=HS.allI (HS.back (A:=A') H1);exact H2.pk [1] 0
theorem HS.allUn {A A':List SP} {P:SP} (s:Sel A P A') (H:HS g h (P:: .all A'::R)):HS g h (.all A::R):=by have H1:HS g h (.all A'::P::R):=H.pk [1] 0;have H2:=(H1.allE).sel (Sel.skip A' .here);exact HS.allI (HS.unsel (Sel.app s R) H2)
def RlC (p:AV×AV) (x:LvM):SP:=.all [qy 164 2 x.1.length p.1 (x.1.flatMap jP),qy 3 1 x.2.length p.2 (x.2.map (.int .i64))]
theorem RlC.E {p:AV×AV} {x:LvM} (H:HS g h (RlC p x::R)):HS g h (qy 164 2 x.1.length p.1 (x.1.flatMap jP)::qy 3 1 x.2.length p.2 (x.2.map (.int .i64))::R):=H.allE
theorem RlC.I {p:AV×AV} {x:LvM} (H:HS g h (qy 164 2 x.1.length p.1 (x.1.flatMap jP)::qy 3 1 x.2.length p.2 (x.2.map (.int .i64))::R)):HS g h (RlC p x::R):=H.allI
def Oa (ps:List (AV×AV)):List AV:=ps.reverse.flatMap λp=>[p.1,p.2]
end
section
variable {g h:AH} {L R:List SP}
def frS (lv:List LvM):Nat:=(lv.map λx=>x.2.length).sum
theorem QF (x:LvM) (r:List LvM):frS (x::r)=x.2.length+frS r:=by simp[frS]
theorem qqa {x y:LvM} {r:List LvM}:frS (Jv (x::y::r)).2=frS (x::y::r):=by unfold frS Jv;simp;omega
end
end Go.Proofs.YtbiljkdgeekpbacGreatDoor
