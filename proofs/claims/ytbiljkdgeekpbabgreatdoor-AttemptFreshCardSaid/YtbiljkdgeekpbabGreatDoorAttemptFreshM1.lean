/- Lemmas for 'quietus/quietuslaw26.AttemptFresh': What a transaction knows and writes, as plain data: cells, levels, views;Write sets: by the program;Levels of cells and frees: by the program;Views: by the ... No condition. -/
import Derived.Test.YtbiljkdgeekpbabGreatDoorAttemptFreshAe7
import Derived.Test.YtbiljkdgeekpbabGreatDoorAttemptFreshT
import Derived.KernelRfl
namespace Go.Proofs.YtbiljkdgeekpbabGreatDoor
open Go Go.Ae
set_option maxRecDepth 100000
section
abbrev Cl:Type:=Int×Int
def jU (c:Int×Int):List AV:=[.int .i64 c.1,.int .u64 c.2]
def JO (p:Int):List Cl→Option Nat
 |[]=>none
 |c::l=>if c.1=p then some 0 else(JO p l).map (· +1)
def zC (p:Int):List Cl→Option Int
 |[]=>none
 |c::l=>if c.1=p then some c.2 else zC p l
def yK (p v:Int):List Cl→List Cl
 |[]=>[(p,v)]
 |c::l=>if c.1=p then(p,v)::l else c::yK p v l
def yQ (l cs:List Cl):List Cl:=cs.foldl (λl c=>yK c.1 c.2 l) l
theorem K4 {p:Int} {l:List Cl}:JO p l=none↔zC p l=none:=by
 induction l with
 |nil=>simp[JO,zC]
 |cons c l ih=>
  unfold JO zC
  split
  ·simp
  ·simp[ih]
theorem UV {p:Int}:∀{l:List Cl} {i:Nat},JO p l=some i→i<l.length∧(∃x,l[i]? =some (p,x)∧zC p l=some x)∧∀v,yK p v l=l.set i (p,v):=by
 intro l
 induction l with
 |nil=>intro i h;cases h
 |cons c l ih=>
  intro i h;unfold JO at h;unfold zC
  split at h
  ·rename_i hc;cases h;rw[iJ hc];refine⟨by simp,⟨c.2,by rw[← hc];rfl,rfl⟩,λv=>?_⟩;unfold yK;rw[iJ hc];rfl
  ·rename_i hc;rw[iQ hc];cases hi:JO p l with
   |none=>rw[hi]at h;cases h
   |some j=>rw[hi]at h;cases h;obtain⟨h1,⟨x,h2,h2'⟩,h3⟩:=ih hi;refine⟨by simp;omega,⟨x,by simpa using h2,h2'⟩,λv=>?_⟩;unfold yK;rw[iQ hc,h3];rfl
theorem QU {p v:Int} {l:List Cl} (h:zC p l=none):yK p v l=l++[(p,v)]:=by
 induction l with
 |nil=>rfl
 |cons c l ih=>
  unfold zC at h
  split at h
  ·cases h
  ·rename_i hc;unfold yK;rw[iQ hc,ih h];rfl
theorem NZ {p:Int}:∀{l:List Cl} {i:Nat},i<l.length→(∀j,j<i→∀c,l[j]? =some c→c.1≠p)→(∃x,l[i]? =some (p,x))→JO p l=some i:=by
 intro l
 induction l with
 |nil=>intro i h;simp at h
 |cons c l ih=>
  intro i hi h1 ⟨x,h2⟩;unfold JO;cases i with
  |zero=>simp at h2;rw[iJ (by rw[h2])]
  |succ i=>rw[iQ (h1 0 omQ c rfl),ih (by simpa using hi) (λj hj c' hc'=>h1 (j+1) omQ c' (by simpa using hc')) ⟨x,by simpa using h2⟩];rfl
theorem qJN {p:Int}:∀{l:List Cl},(∀c∈l,c.1≠p)→JO p l=none:=by
 intro l
 induction l with
 |nil=>intro _;rfl
 |cons c l ih=>intro h;unfold JO;rw[iQ (h c (iK ..)),ih λc' hc'=>h c' (iX _ hc')];rfl
theorem J7 {p v:Int} {l:List Cl}:(yK p v l).length=if zC p l=none then l.length+1 else l.length:=by
 induction l with
 |nil=>simp[yK,zC]
 |cons c l ih=>
  unfold yK zC
  split
  ·simp
  ·rw[List.length_cons,ih]
   split<;>simp
theorem Va {p q v:Int} {l:List Cl}:zC q (yK p v l)=if q=p then some v else zC q l:=by
 induction l with
 |nil=>
  simp only[yK,zC];by_cases h:p=q
  ·simp[h]
  ·rw[iQ h,iQ (λh'=>h h'.symm)]
 |cons c l ih=>
  unfold yK
  split
  ·rename_i hc;simp only[zC];by_cases h:p=q
   ·simp[h]
   ·rw[iQ h,iQ (λh'=>h h'.symm),iQ (by rw[hc];exact h)]
  ·rename_i hc;simp only[zC,ih];by_cases h:c.1=q
   ·rw[iJ h,iJ h,iQ (by rintro rfl;exact hc h)]
   ·rw[iQ h,iQ h]
def InC (l:List Cl):Prop:=∀c∈l,1≤c.1∧c.1<256
theorem InC.put {l:List Cl} {p v:Int} (h:InC l) (hp:1≤p∧p<256):InC (yK p v l):=by
 induction l with
 |nil=>intro c hc;simp[yK]at hc;subst hc;exact hp
 |cons a l ih=>
  unfold yK
  split
  ·intro c hc;rcases List.mem_cons.1 hc with rfl |hc
   ·exact hp
   ·exact h c (iX _ hc)
  ·intro c hc;rcases List.mem_cons.1 hc with rfl |hc
   ·exact h _ (iK ..)
   ·exact ih (λc hc=>h c (iX _ hc)) c hc
def UnC (l:List Cl):Prop:=(l.map (·.1)).Nodup
theorem qJ9 {p:Int} {l:List Cl}:zC p l=none↔p∉l.map (·.1):=by
 induction l with
 |nil=>simp[zC]
 |cons c l ih=>
  unfold zC
  split
  ·rename_i h;simp[h]
  ·rename_i h;rw[ih,List.map_cons,List.mem_cons,not_or];exact⟨λh'=>⟨λh2=>h h2.symm,h'⟩,λh'=>h'.2⟩
theorem qQ5 {p v:Int} {l:List Cl}:(yK p v l).map (·.1)=if zC p l=none then l.map (·.1)++[p]else l.map (·.1):=by
 induction l with
 |nil=>simp[yK,zC]
 |cons c l ih=>
  unfold yK zC
  split
  ·rename_i h;simp[h]
  ·rw[List.map_cons,ih]
   split<;>simp
theorem UnC.put {l:List Cl} {p v:Int} (h:UnC l):UnC (yK p v l):=by
 unfold UnC;rw[qQ5]
 split
 ·rename_i hp;rw[qJ9]at hp;rw[List.nodup_append];exact⟨h,by simp,λa ha b hb=>by rw[List.mem_singleton]at hb;subst hb;rintro rfl;exact hp ha⟩
 ·exact h
theorem qJ0 {l:List Cl}:∀{cs:List Cl},UnC cs→(∀c∈cs,zC c.1 l=none)→yQ l cs=l++cs:=by
 intro cs
 induction cs generalizing l with
 |nil=>intro _ _;simp[yQ]
 |cons c cs ih=>
  intro hu hn;have hu':UnC cs:=(List.nodup_cons.1 hu).2;have hc:c.1∉cs.map (·.1):=(List.nodup_cons.1 hu).1;show yQ (yK c.1 c.2 l) cs=_
  rw[ih hu' (λd hd=>by
   rw[Va,iQ (by rintro h;exact hc (by rw[← h];exact List.mem_map_of_mem hd))]
   exact hn d (iX _ hd)),QU (hn c (iK ..)),List.append_assoc]
  rfl
theorem KT {cs:List Cl} (h:UnC cs):yQ [] cs=cs:=by rw[qJ0 h (λ_ _=>rfl),List.nil_append]
def Qu (m:Nat) (l:List Cl) (p v:Int):Int×List Cl :=
 if p<1∨256≤p then(2,l)else if zC p l=none∧m≤l.length then(5,l)else(0,yK p v l)
def QA (m:Nat) (l:List Cl):List Cl→Int×List Cl
 |[]=>(0,l)
 |c::cs=>if(Qu m l c.1 c.2).1=0 then QA m (Qu m l c.1 c.2).2 cs else Qu m l c.1 c.2
theorem OK {m:Nat} {l:List Cl} {c:Cl} {cs:List Cl}:QA m l (c::cs)=if(Qu m l c.1 c.2).1=0 then QA m (Qu m l c.1 c.2).2 cs else Qu m l c.1 c.2:=rfl
theorem Ji {m:Nat}:∀{cs l:List Cl},InC cs→l.length+cs.length≤m→QA m l cs=(0,yQ l cs):=by
 intro cs
 induction cs with
 |nil=>intro l _ _;rfl
 |cons c cs ih=>
  intro l hi hl;have hc:=hi c (iK ..);have hp:Qu m l c.1 c.2=(0,yK c.1 c.2 l):=by unfold Qu;rw[iQ omQ,iQ (by simp at hl;omega)]
  unfold QA
  rw[hp,iJ rfl,ih (λd hd=>hi d (iX _ hd)) (by
   have:=J7 (p:=c.1) (v:=c.2) (l:=l);simp at hl;show(yK c.1 c.2 l).length+cs.length≤m
   split at this<;>omega)]
  rfl
abbrev LvM:Type:=List Cl×List Int
def J5 (p:Int):List LvM→Option Int
 |[]=>none
 |x::r=>match zC p x.1 with |some v=>some v |none=>J5 p r
def yV (lv:List LvM):Nat:=(lv.map λx=>x.1.length).sum
def jO (lv:List LvM):List Cl:=lv.foldl (λout x=>yQ x.1 out) []
structure OkL (most:Nat) (lv:List LvM):Prop where
  held:yV lv≤most
  le:most≤96
  ins:∀x∈lv,InC x.1
  un:∀x∈lv,UnC x.1
  one:1≤lv.length
  deep:lv.length≤6
def y5 (most:Nat) (lv:List LvM) (p v:Int):Int×List LvM :=
 match lv with
 |[]=>(0,[])
 |x::r=>if p<1∨256≤p then(2,lv)else if zC p x.1=none∧most≤yV lv then(5,lv)else(0,(yK p v x.1,x.2)::r)
def yn (most:Nat) (was lv:List LvM):List Cl→Int×List LvM
 |[]=>(0,lv)
 |c::cs=>if(y5 most lv c.1 c.2).1=0 then yn most was (y5 most lv c.1 c.2).2 cs else((y5 most lv c.1 c.2).1,was)
def wx (lv:List LvM):Int×List LvM:=if 6≤lv.length then(9,lv)else(0,([],[])::lv)
def wz (lv:List LvM):Int×List LvM:=if lv.length=1 then(10,lv)else(0,lv.tail)
def w8 (lv:List LvM):Int×List LvM:=match lv with
 |x::y::r=>(0,(yQ y.1 x.1,y.2++x.2)::r)
 |_=>(10,lv)
def QJ (lv:List LvM) (b:Int):List LvM:=match lv with
 |x::r=>(x.1,x.2++[b])::r
 |[]=>[]
theorem y7 {most:Nat} {was lv:List LvM} {c:Cl} {cs:List Cl}:yn most was lv (c::cs)=if(y5 most lv c.1 c.2).1=0 then yn most was (y5 most lv c.1 c.2).2 cs else((y5 most lv c.1 c.2).1,was):=rfl
theorem zL {x:LvM} {r:List LvM}:yV (x::r)=x.1.length+yV r:=by simp[yV]
theorem UC {most:Nat} {lv:List LvM} {p v:Int} (O:OkL most lv):OkL most (y5 most lv p v).2∧(y5 most lv p v).2.length=lv.length:=by
 cases lv with
 |nil=>have:=O.one;simp at this
 |cons x r=>
  unfold y5;dsimp only
  split
  ·exact⟨O,rfl⟩
  ·rename_i hp
   split
   ·exact⟨O,rfl⟩
   ·rename_i h1;have hh:=O.held;rw[zL]at hh;refine⟨⟨?_,O.le,?_,?_,by simp,O.deep⟩,rfl⟩
    ·show yV ((yK p v x.1,x.2)::r)≤most;rw[zL,J7]
     split
     ·rename_i h2;rw[zL]at h1;have:¬most≤x.1.length+yV r:=λh3=>h1 ⟨h2,h3⟩;omega
     ·exact hh
    ·intro y hy;rcases List.mem_cons.1 hy with rfl |hy
     ·exact(O.ins x (iK ..)).put omQ
     ·exact O.ins y (iX _ hy)
    ·intro y hy;rcases List.mem_cons.1 hy with rfl |hy
     ·exact(O.un x (iK ..)).put
     ·exact O.un y (iX _ hy)
theorem Vs {most:Nat} {was:List LvM} (W:OkL most was):∀{cs:List Cl} {lv:List LvM},OkL most lv→lv.length=was.length→OkL most (yn most was lv cs).2∧(yn most was lv cs).2.length=was.length:=by
 intro cs
 induction cs with
 |nil=>intro lv O hl;exact⟨O,hl⟩
 |cons c cs ih=>
  intro lv O hl;unfold yn
  split
  ·exact ih (UC O).1 ((UC O).2.trans hl)
  ·exact⟨W,rfl⟩
theorem qKc {most:Nat} {lv:List LvM} (O:OkL most lv):OkL most (wx lv).2:=by
 unfold wx
 split
 ·exact O
 ·refine⟨by rw[zL];have:=O.held;simpa using this,O.le,?_,?_,by simp,by simp;omega⟩
  ·intro y hy;rcases List.mem_cons.1 hy with rfl |hy
   ·intro c hc;cases hc
   ·exact O.ins y hy
  ·intro y hy;rcases List.mem_cons.1 hy with rfl |hy
   ·exact List.nodup_nil
   ·exact O.un y hy
theorem qXe {most:Nat} {lv:List LvM} (O:OkL most lv):OkL most (wz lv).2:=by
 unfold wz
 split
 ·exact O
 ·rename_i h1;cases lv with
  |nil=>have:=O.one;simp at this
  |cons x r=>
   have hh:=O.held;have h2:=O.deep;rw[zL]at hh;simp at h1 h2;refine⟨by show yV r≤most;omega,O.le,λy hy=>O.ins y (iX _ hy),λy hy=>O.un y (iX _ hy),?_,by show r.length≤6;omega⟩;show 1≤r.length;cases r with
   |nil=>simp at h1
   |cons _ _=>simp
theorem YN:∀{cs l:List Cl},(yQ l cs).length≤l.length+cs.length:=by
 intro cs
 induction cs with
 |nil=>intro l;exact Nat.le_refl _
 |cons c cs ih=>
  intro l;have:=ih (l:=yK c.1 c.2 l);have h2:=J7 (p:=c.1) (v:=c.2) (l:=l);show(yQ (yK c.1 c.2 l) cs).length≤_;rw[List.length_cons]
  split at h2<;>omega
theorem InC.puts:∀{cs l:List Cl},InC l→InC cs→InC (yQ l cs):=by
 intro cs
 induction cs with
 |nil=>intro l h _;exact h
 |cons c cs ih=>intro l h hc;exact ih (h.put (hc c (iK ..))) λd hd=>hc d (iX _ hd)
theorem UnC.puts:∀{cs l:List Cl},UnC l→UnC (yQ l cs):=by
 intro cs
 induction cs with
 |nil=>intro l h;exact h
 |cons c cs ih=>intro l h;exact ih h.put
theorem qKI {most:Nat} {lv:List LvM} (O:OkL most lv):OkL most (w8 lv).2:=by
 match lv,O with
 |[],O=>exact O
 |[x],O=>exact O
 |x::y::r,O=>
  have hh:=O.held;have h2:=O.deep;rw[zL,zL]at hh;have:=YN (cs:=x.1) (l:=y.1);refine⟨by show yV ((yQ y.1 x.1,y.2++x.2)::r)≤most;rw[zL];dsimp only;omega,O.le,?_,?_,by simp[w8],by simp[w8]at h2 ⊢;omega⟩
  ·intro z hz;rcases List.mem_cons.1 hz with rfl |hz
   ·exact(O.ins y osQ).puts (O.ins x osQ)
   ·exact O.ins z (by simp[hz])
  ·intro z hz;rcases List.mem_cons.1 hz with rfl |hz
   ·exact(O.un y osQ).puts
   ·exact O.un z (by simp[hz])
theorem qZo {most:Nat} {lv:List LvM} {b:Int} (O:OkL most lv):OkL most (QJ lv b):=by
 cases lv with
 |nil=>exact O
 |cons x r=>
  refine⟨O.held,O.le,?_,?_,by simp[QJ],O.deep⟩
  ·intro z hz;rcases List.mem_cons.1 hz with rfl |hz
   ·exact O.ins x osQ
   ·exact O.ins z (by simp[hz])
  ·intro z hz;rcases List.mem_cons.1 hz with rfl |hz
   ·exact O.un x osQ
   ·exact O.un z (by simp[hz])
end
section
variable {g h:AH} {L R:List SP}
def WrC (w m:Nat) (l:List Cl):SP:=.ex λv=>.all [qw w [.int .i64 (m:Int),v],qL 61 2 l.length v (l.flatMap jU)]
theorem WrC.E {w m:Nat} {l:List Cl} (H:HS g h (WrC w m l::R)):∃v,HS g h (qw w [.int .i64 (m:Int),v]::qL 61 2 l.length v (l.flatMap jU)::R):=by obtain⟨v,H⟩:=H.exE;exact⟨v,H.allE⟩
theorem WrC.I {w m:Nat} {l:List Cl} {v:AV} (H:HS g h (qw w [.int .i64 (m:Int),v]::qL 61 2 l.length v (l.flatMap jU)::R)):HS g h (WrC w m l::R) :=
 HS.exI v (HS.allI H)
theorem Mm (l:List Cl):jG (l.flatMap jU)=true:=by unfold jG;rw[List.all_eq_true];intro v hv;obtain⟨c,_,hc⟩:=List.mem_flatMap.1 hv;simp[jU]at hc;rcases hc with rfl |rfl<;>rfl
theorem Xg {l:List Cl} {i:Nat} {c:Cl} (h:l[i]? =some c):((l.flatMap jU).drop (i*2)).take 2=jU c:=by obtain⟨hi,e⟩:=List.getElem?_eq_some_iff.1 h;rw[QE (sz:=2) jU (λ_=>rfl),List.drop_eq_getElem_cons hi,e,List.flatMap_cons];rfl
theorem qX0 {l:List Cl} {i:Nat} {p x v:Int} (h:l[i]? =some (p,x)):(l.flatMap jU).set (i*2+1) (.int .u64 v)=(l.set i (p,v)).flatMap jU:=by
 have hi:=(List.getElem?_eq_some_iff.1 h).1;apply List.ext_getElem?;intro j;have hd:j=j/2*2+j%2:=by omega
 have hm:j%2<2:=by omega
 rw[List.getElem?_set,Js (sz:=2) jU (λ_=>rfl)];have e1:=QY (sz:=2) jU (λ_=>rfl) l (j/2) (j%2) hm;have e2:=QY (sz:=2) jU (λ_=>rfl) (l.set i (p,v)) (j/2) (j%2) hm;rw[← hd]at e1 e2;rw[e1,e2,List.getElem?_set];by_cases h1:i*2+1=j
 ·have:j/2=i:=by omega
  have h3:j%2=1:=by omega
  rw[iJ h1,iJ omQ,iJ this.symm,iJ hi,h3];rfl
 ·rw[iQ h1];by_cases h2:i=j/2
  ·have h3:j%2=0:=by omega
   rw[iJ h2,iJ hi,h3,← h2,h];rfl
  ·rw[iQ h2]
def zI (o:Option Nat):Int:=match o with |some i=>(i:Int) |none=>-1
theorem U1 {n:Nat} (hn:1≤n) {m:Nat} (hm:m≤96) (H:HS g h R):t_w n 124 [.int .i64 (m:Int)] h λv h'=>∃w,v=.ptr w 0∧HS g h' (WrC w m []::R):=by
 refine t_e1 (S:=S124) rfl omQ λk hk=>?_;unfold S124;try simp only[iZ]
 refine zB (zP (qF rfl (qH H rfl λw h2 H2=>qW ⟨w,rfl,?_⟩)));rw[show max ((0:Nat):Int) (min (m:Int) ((96:Nat):Int))=(m:Int) by omega]at H2;exact WrC.I ((H2.nils (e:=61) (sz:=2)).sel (P:=qw w [.int .i64 (m:Int),.nils]) e_1 :)
theorem Zr {n:Nat} (hn:2≤n) {p:Int} {v:AV} {c0:Nat} {l:List Cl} (H:HS g h L) (S:Rd g L 2 l.length v (l.flatMap jU)) (s:Sel L (qw c0 [.int .i64 p]) R) (hl:l.length<1000000) :
  t_w n 256 [v,.fn 257 [] [.ptr c0 0]] h λv h'=>v=.int .i64 (zI (JO p l))∧HS g h' L:=by
 refine t_e2 (S:=S256) rfl omQ λk hk=>?_;unfold S256;try simp only[iZ]
 refine yb (S.sl H) ?_
 refine(zG (λm s h'=>∃i:Nat,s=(.int .i64 (i:Int),.int .i64 (l.length:Int),.fn 257 [] [.ptr c0 0],v,())∧i≤l.length∧m=l.length-i∧HS g h' L∧
  (∀j,j<i→∀c,l[j]? =some c→c.1≠p)) ?_ (m:=l.length) (by show _<1000000000;omega) ⟨0,rfl,by omega,by omega,H,λj hj=>by omega⟩)
 rintro m ih s' h' hih ⟨i,rfl,h1,rfl,H,h2⟩;dsimp only;refine zo (λhlt=>qX ?_) λhge=>qJ (qv (qW ⟨?_,H⟩))
 ·have hi:i<l.length:=by omega
  have hc:l[i]? =some l[i]:=iW hi;refine xK (l:=jU l[i]) (S.sl H) hi omQ (Xg hc) ?_;refine qY (Q':=λv h2=>v=.bool (decide (l[i].1=p))∧HS g h2 L) (qYe (g:=(tD2 S257)) rfl omQ λk hk=>?_) ?_
  ·show wp (S257 (callT tab qx k) _ _ _).1 _;unfold S257;try simp only[ iZ]
   refine qH H rfl λb h3 H3=>?_;refine qQ (qV ‹_› .here rfl ?_);refine qV H3 (.there s) rfl (Qq (qW ⟨rfl,H3.drop⟩))
  ·rintro _ h3 ⟨rfl,H3⟩;refine qWL (λhe=>qv (qW ⟨?_,H3⟩)) λhne=>qf omQ ?_
   ·rw[NZ hi h2 ⟨l[i].2,by rw[hc,← he]⟩];rfl
   ·refine hih (l.length-(i+1)) _ _ omQ ⟨i+1,rfl,by omega,rfl,H3,λj hj c hc'=>?_⟩;by_cases h4:j<i
    ·exact h2 j h4 c hc'
    ·obtain rfl:j=i:=by omega
     rw[hc]at hc';cases hc';exact hne
 ·rw[qJN λc hc=>?_]
  ·rfl
  ·obtain⟨j,hj⟩:=List.getElem?_of_mem hc;exact h2 j (by have:=(List.getElem?_eq_some_iff.1 hj).1;omega) c hj
theorem Mi {n:Nat} (hn:3≤n) {w m:Nat} {l:List Cl} {p:Int} (H:HS g h (WrC w m l::R)) (hl:l.length<1000000) :
  t_w n 195 [.ptr w 0,.int .i64 p] h λv h'=>v=.int .i64 (zI (JO p l))∧HS g h' (WrC w m l::R):=by
 refine t_e2 (S:=S195) rfl omQ λk hk=>?_;unfold S195;try simp only[iZ]
 obtain⟨v,H⟩:=WrC.E H;refine QT H ⟨rfl,rfl⟩ λc0 h2 H2=>?_;refine qK (qQ (qV ‹_› e_1 rfl ?_));refine qY (Zr (p:=p) omQ H2 (H2.rd e_2) .here hl) ?_;rintro _ h3 ⟨rfl,H3⟩;exact qW ⟨rfl,WrC.I H3.drop⟩
theorem O3 {n:Nat} (hn:4≤n) {w m:Nat} {l:List Cl} {p:Int} (H:HS g h (WrC w m l::R)) (hl:l.length<1000000) :
  t_w n 192 [.ptr w 0,.int .i64 p] h λv h'=>v=.tup [.int .u64 ((zC p l).getD 0),.bool (zC p l).isSome]∧HS g h' (WrC w m l::R):=by
 refine t_e2 (S:=S192) rfl omQ λk hk=>?_;unfold S192;try simp only[iZ]
 refine qY (Mi omQ H hl) ?_;rintro _ h3 ⟨rfl,H3⟩;cases hi:JO p l with
 |none=>refine ju (by show¬((0:Nat):Int)≤ -1;omega) ?_;refine qJ ?_;exact qW ⟨by rw[K4.1 hi];rfl,H3⟩
 |some i=>obtain⟨h1,⟨x,h2,h2'⟩,_⟩:=UV hi;refine jh (by show((0:Nat):Int)≤(i:Int);omega) ?_;obtain⟨v,H4⟩:=WrC.E H3;refine qX (qK (qQ (qV ‹_› .here rfl ?_)));refine zH (x:=.int .u64 x) (H4.sl e_1) omQ h1 ?_ (qW ⟨by rw[h2'];rfl,H3⟩);rw[QY (sz:=2) jU (λ_=>rfl) _ _ _ omQ,h2];rfl
theorem OB {n:Nat} (hn:4≤n) {w m:Nat} {l:List Cl} {p x:Int} (H:HS g h (WrC w m l::R)) (hl:l.length<1000000) :
  t_w n 154 [.ptr w 0,.int .i64 p,.int .u64 x] h λv h'=>v=.int .i64 (Qu m l p x).1∧HS g h' (WrC w m (Qu m l p x).2::R):=by
 refine t_e3 (S:=S154) rfl omQ λk hk=>?_;unfold S154;try simp only[iZ]
 unfold Qu;by_cases hp:p<1∨256≤p
 ·rw[iJ hp]
  repeat' (first |with_reducible refine qX ?_ |with_reducible refine qJ ?_ |(with_reducible refine qU ?_;try dsimp only) |(with_reducible refine qr ?_;try dsimp only) |(with_reducible refine qT ?_;try dsimp only) |(with_reducible refine qd ?_;try dsimp only) |(with_reducible refine zk ?_;try dsimp only) |with_reducible refine qE ?_ |with_reducible refine qI ?_ |(with_reducible refine qG ?_;try dsimp only) |with_reducible refine qv ?_ |with_reducible refine jV ?_ |with_reducible refine jq ?_ |with_reducible refine qf omQ ?_ |with_reducible refine zZ omQ ?_ |with_reducible refine yj omQ ?_ |with_reducible refine yt omQ ?_ |with_reducible refine zB ?_ |with_reducible refine zP ?_ |with_reducible refine qj omQ ?_ |with_reducible refine qq omQ ?_ |with_reducible refine jX omQ ?_ |with_reducible refine jK omQ ?_ |with_reducible refine zJ omQ ?_ |with_reducible refine jb omQ ?_ |with_reducible refine ky omQ ?_ |with_reducible refine J6 omQ ?_ |with_reducible refine xT omQ ?_ |with_reducible refine xH omQ ?_ |with_reducible refine jh omQ ?_ |with_reducible refine ju omQ ?_ |with_reducible refine zo (λhc=>?_) (λhc=>?_) |with_reducible refine gJ (λhc=>?_) (λhc=>?_) |with_reducible refine gd (λhc=>?_) (λhc=>?_) |with_reducible refine xS (λhc=>?_) (λhc=>?_) |with_reducible refine xp (λhc=>?_) (λhc=>?_) |with_reducible refine yW (λhc=>?_) (λhc=>?_) |with_reducible refine vC (λhc=>?_) (λhc=>?_))
  all_goals exact qW ⟨rfl,H⟩
 rw[iQ hp];refine jb omQ ?_;refine qG ?_;(try dsimp only);refine qd ?_;(try dsimp only);refine ju omQ ?_;refine qI (qJ ?_)
 refine qY (Mi omQ H hl) ?_;rintro _ h3 ⟨rfl,H3⟩;cases hi:JO p l with
 |none=>
  refine ju (by show¬((0:Nat):Int)≤ -1;omega) ?_;have hg:=K4.1 hi;obtain⟨v,H4⟩:=WrC.E H3;refine qJ (qK (qQ (qV ‹_› .here rfl ?_)));refine qs ‹_› e_1 ?_;refine qK (qQ (qV ‹_› .here rfl ?_));by_cases hf:m≤l.length
  ·rw[iJ ⟨hg,hf⟩];refine jh omQ ?_;refine qX ?_;exact qW ⟨rfl,H3⟩
  ·rw[iQ (λh=>hf h.2)];refine ju omQ ?_;refine qJ (qK (qQ (qV ‹_› .here rfl ?_)));refine qF rfl ?_;refine jY (sz:=2) (l:=[.int .i64 p,.int .u64 x]) H4 rfl rfl rfl rfl λv5 h5 H5=>?_;refine zn (H5.sel e_2) (H5.sl .here) omQ omQ rfl λv6 h6 H6=>?_;refine qK (qQ (qk H6 e_2 (H6.one .here) osQ λh7 H7=>qW ⟨rfl,WrC.I (v:=v6) ?_⟩));rw[QU hg,List.flatMap_append,List.length_append];exact H7.sub (.cons .here (.cons .here (.drop (.refl))))
 |some i=>obtain⟨h1,⟨y,h2,h2'⟩,h5⟩:=UV hi;refine jh (by show((0:Nat):Int)≤(i:Int);omega) ?_;obtain⟨v,H4⟩:=WrC.E H3;refine qX (qK (qQ (qV ‹_› .here rfl ?_)));rw[iQ (λh=>by rw[h2']at h;cases h.1)];refine qjA (H4.sel e_1) h1 omQ ⟨rfl,rfl⟩ λh6 H6=>qW ⟨rfl,WrC.I (v:=v) ?_⟩;rw[qX0 h2]at H6;dsimp only;rw[h5,List.length_set];exact H6.sub (.cons e_1 (.refl))
theorem Mo {n:Nat} (hn:1≤n) {v:AV} {l:List Cl} (H:HS g h L) (s:Sel L (qL 61 2 l.length v (l.flatMap jU)) R) (hl:l.length<1000000) :
  t_w n 97 [v] h λv' h'=>HS g h' (qL 61 2 l.length v' (l.flatMap jU)::L):=by
 refine t_e1 (S:=S97) rfl omQ λk hk=>?_;unfold S97;try simp only[iZ]
 refine UB H s (λ_ h0=>qX (qW ?_)) (qJ ?_)
 ·have:=iA h0;subst this;exact H.nils
 ·refine jY (n:=0) (l:=[]) (sz:=2) H rfl rfl rfl rfl λv2 h2 H2=>?_;refine zn H2 (H2.sl (.there s)) omQ omQ (Mm l) λv3 h3 H3=>qW ?_;rw[Nat.zero_add,List.nil_append]at H3;exact H3
theorem J0 {n:Nat} (hn:2≤n) {w m:Nat} {l:List Cl} (H:HS g h (WrC w m l::R)) (hl:l.length<1000000) :
  t_w n 126 [.ptr w 0] h λv h'=>HS g h' (qL 61 2 l.length v (l.flatMap jU)::WrC w m l::R):=by
 refine t_e1 (S:=S126) rfl omQ λk hk=>?_;unfold S126;try simp only[iZ]
 obtain⟨v,H⟩:=WrC.E H;refine qK (qQ (qV ‹_› .here rfl ?_));refine qY (Mo omQ H e_1 hl) λv3 h3 H3=>qW ?_;have:=WrC.I (v:=v) (w:=w) (m:=m) (l:=l) (H3.sub (L':=_::_::qL 61 2 l.length v3 (l.flatMap jU)::R) (.cons e_1 (.cons e_1 .refl)));exact this.sub (.cons e_1 (.refl))
theorem qWp {n:Nat} (hn:1≤n) {w m:Nat} {l:List Cl} (H:HS g h (WrC w m l::R)) :
  t_w n 286 [.ptr w 0] h λv h'=>v=.int .i64 (l.length:Int)∧h'=h:=by
 refine t_e1 (S:=S286) rfl omQ λk hk=>?_;unfold S286;try simp only[iZ]
 obtain⟨v,H⟩:=WrC.E H;refine qK (qQ (qV ‹_› .here rfl ?_));refine qs ‹_› e_1 ?_;exact qW ⟨rfl,rfl⟩
def gD (m:Nat) (l cs:List Cl):Int×List Cl:=if(QA m l cs).1=0 then QA m l cs else((QA m l cs).1,l)
theorem Je {n:Nat} (hn:5≤n) {w m:Nat} {l cs:List Cl} {c:AV} (H:HS g h (WrC w m l::R)) (S:Rd g R 2 cs.length c (cs.flatMap jU)) (hl:l.length<100000) (hc:cs.length<100000) :
  t_w n 125 [.ptr w 0,c] h λv h'=>v=.int .i64 (gD m l cs).1∧HS g h' (WrC w m (gD m l cs).2::R):=by
 refine t_e2 (S:=S125) rfl omQ λk hk=>?_;unfold S125;try simp only[iZ]
 refine qY (J0 omQ H omQ) λv0 h1 H1=>?_;refine yb (S.sl H1.drop.drop) ?_
 refine zG (λk s h'=>∃(i:Nat) (l':List Cl),s=(.int .i64 (i:Int),.int .i64 (cs.length:Int),c,v0,.ptr w 0,())∧i≤cs.length∧k=cs.length-i∧l'.length≤l.length+i∧
  HS g h' (WrC w m l'::qL 61 2 l.length v0 (l.flatMap jU)::R)∧QA m l cs=QA m l' (cs.drop i)) ?_ (m:=cs.length) (by show _<1000000000;omega) ⟨0,l,rfl,by omega,by omega,by omega,H1.sub (.cons e_1 (.refl)),rfl⟩
 rintro k ih s h2 hih ⟨i,l',rfl,h1,rfl,hl',H,hT⟩;dsimp only;refine zo (λhlt=>qX ?_) λhge=>qJ (qv (qW ?_))
 ·have hi:i<cs.length:=by omega
  have hci:cs[i]? =some cs[i]:=iW hi;refine xK (l:=jU cs[i]) (S.sl H.drop.drop) hi omQ (Xg hci) ?_;refine qH H rfl λb h3 H3=>qe H3 .here rfl (by show 0+2≤2;omega) rfl λh4 H4=>?_;have H5:HS g h4 (qw b (jU cs[i])::WrC w m l'::qL 61 2 l.length v0 (l.flatMap jU)::R):=H4;unfold jU at H5;refine qQ (qV ‹_› .here rfl ?_);refine qQ (qV ‹_› .here rfl ?_);refine qY (OB omQ H5.drop omQ) ?_;rintro _ h6 ⟨rfl,H6⟩;rw[List.drop_eq_getElem_cons hi,OK]at hT;refine yW (λhne=>qX ?_) λhe=>qJ (qf omQ ?_)
  ·have hne:¬(Qu m l' cs[i].1 cs[i].2).1=0:=by simpa using hne
   rw[iQ hne]at hT;obtain⟨v7,H7⟩:=WrC.E H6;refine qK (qQ (qk H7 .here (H7.one e_2) osQ λh8 H8=>qv (qW ?_)));unfold gD;rw[hT,iQ hne];exact⟨rfl,WrC.I (v:=v0) (H8.sub (.cons .here (.cons e_1 (.drop .refl))))⟩
  ·have he':(Qu m l' cs[i].1 cs[i].2).1=0:=by simpa using he
   rw[iJ he']at hT;refine hih (cs.length-(i+1)) _ _ omQ ⟨i+1,_,rfl,by omega,rfl,?_,H6,hT⟩;have:=J7 (p:=cs[i].1) (v:=cs[i].2) (l:=l');unfold Qu
   repeat' split
   all_goals dsimp only
   all_goals first |omega |(split at this<;>omega)
 ·rw[List.drop_of_length_le omQ]at hT;have hT:QA m l cs=(0,l'):=hT;unfold gD;rw[hT,iJ rfl];exact⟨rfl,H.sub (.cons .here (.drop .refl))⟩
end
section
variable {g h:AH} {L R:List SP}
def LvC (a:Nat) (x:LvM):SP:=.ex λw=>.ex λfv=>.all [qw a [.ptr w 0,fv],WrC w 96 x.1,qL 3 1 x.2.length fv (x.2.map (.int .i64))]
theorem LvC.E {a:Nat} {x:LvM} (H:HS g h (LvC a x::R)):∃w fv,HS g h (qw a [.ptr w 0,fv]::WrC w 96 x.1::qL 3 1 x.2.length fv (x.2.map (.int .i64))::R):=by obtain⟨w,H⟩:=H.exE;obtain⟨fv,H⟩:=H.exE;exact⟨w,fv,H.allE⟩
theorem LvC.I {a w:Nat} {fv:AV} {x:LvM} (H:HS g h (qw a [.ptr w 0,fv]::WrC w 96 x.1::qL 3 1 x.2.length fv (x.2.map (.int .i64))::R)):HS g h (LvC a x::R) :=
 HS.exI w (HS.exI fv (HS.allI H))
def xE (ps:List Nat):List AV:=ps.reverse.map λa=>.ptr a 0
def LgC (q most:Nat) (lv:List LvM):SP:=.ex λv=>.ex λps:List Nat=>.all (.pur (ps.length=lv.length)::qw q [.int .i64 (most:Int),v]::qL 183 1 lv.length v (xE ps)::List.zipWith LvC ps lv)
theorem LgC.E {q most:Nat} {lv:List LvM} (H:HS g h (LgC q most lv::R)):∃v ps,ps.length=lv.length∧HS g h (qw q [.int .i64 (most:Int),v]::qL 183 1 lv.length v (xE ps)::(List.zipWith LvC ps lv++R)):=by obtain⟨v,H⟩:=H.exE;obtain⟨ps,H⟩:=H.exE;obtain⟨e,H⟩:=HS.purE (H.allE);exact⟨v,ps,e,H⟩
theorem LgC.I {q most:Nat} {lv:List LvM} {v:AV} {ps:List Nat} (e:ps.length=lv.length) (H:HS g h (qw q [.int .i64 (most:Int),v]::qL 183 1 lv.length v (xE ps)::(List.zipWith LvC ps lv++R))):HS g h (LgC q most lv::R) :=
 HS.exI v (HS.exI ps (HS.allI (HS.purI e H)))
theorem LgC.E1 {q most:Nat} {x:LvM} {r:List LvM} (H:HS g h (LgC q most (x::r)::R)):∃v a ps,ps.length=r.length∧HS g h (qw q [.int .i64 (most:Int),v]::qL 183 1 (r.length+1) v (xE (a::ps))::LvC a x::(List.zipWith LvC ps r++R)):=by
 obtain⟨v,ps,e,H⟩:=LgC.E H;cases ps with
 |nil=>simp at e
 |cons a ps=>exact⟨v,a,ps,by simpa using e,H⟩
theorem LgC.I1 {q most:Nat} {x:LvM} {r:List LvM} {v:AV} {a:Nat} {ps:List Nat} (e:ps.length=r.length) (H:HS g h (qw q [.int .i64 (most:Int),v]::qL 183 1 (r.length+1) v (xE (a::ps))::LvC a x::(List.zipWith LvC ps r++R))):HS g h (LgC q most (x::r)::R) :=
 LgC.I (ps:=a::ps) (by simp[e]) H
theorem M8 (a:Nat) (ps:List Nat):(xE (a::ps))[ps.length]? =some (.ptr a 0):=by unfold xE;rw[List.reverse_cons,List.map_append,List.getElem?_append_right osQ];simp
theorem G9 {ps:List Nat} {i:Nat} (hi:i<ps.length):(xE ps)[i]? =(ps[ps.length-1-i]?).map λa=>.ptr a 0:=by unfold xE;rw[List.getElem?_map,List.getElem?_reverse hi]
theorem Um {ps:List Nat}:∀{lv:List LvM} {i a:Nat} {x:LvM},ps[i]? =some a→lv[i]? =some x→∃T,Sel (List.zipWith LvC ps lv++R) (LvC a x) T:=by
 induction ps with
 |nil=>intro lv i a x h;simp at h
 |cons b ps ih=>
  intro lv i a x h1 h2;cases lv with
  |nil=>simp at h2
  |cons y lv=>
   cases i with
   |zero=>simp at h1 h2;subst h1;subst h2;exact⟨_,.here⟩
   |succ i=>obtain⟨T,s⟩:=ih (lv:=lv) (i:=i) (by simpa using h1) (by simpa using h2);exact⟨_,.there s⟩
theorem JC {n q:Nat} (hn:1≤n) {m v:AV} {a:Nat} {ps:List Nat} {R1 R2:List SP} {e:TypeId} (H:HS g h L) (s1:Sel L (qw q [m,v]) R1) (s2:Sel L (qL e 1 (ps.length+1) v (xE (a::ps))) R2) (hl:ps.length<1000000) :
  t_w n 193 [.ptr q 0] h λr h'=>r=.ptr a 0∧h'=h:=by
 refine t_e1 (S:=S193) rfl omQ λk hk=>?_;unfold S193;try simp only[iZ]
 refine qK (qQ (qV H s1 rfl (qK (qQ (qV H s1 rfl (qs H s2 (zZ omQ ?_)))))));rw[show((ps.length+1:Nat):Int)-((1:Nat):Int)=((ps.length:Nat):Int) by omega];exact jf (H.sl s2) (M8 a ps) (qW ⟨rfl,rfl⟩)
theorem UG {n:Nat} (hn:2≤n) (H:HS g h R):t_w n 112 [] h λv h'=>∃a,v=.ptr a 0∧HS g h' (LvC a ([],[])::R):=by
 refine t_e0 (S:=S112) rfl omQ λk hk=>?_;unfold S112;try simp only[iZ]
 refine qY (U1 (m:=96) omQ omQ H) ?_;rintro _ h2 ⟨w,rfl,H2⟩;refine qF rfl (qH H2 rfl λa h3 H3=>qW ⟨a,rfl,?_⟩);exact LvC.I (w:=w) (fv:=.nils) ((H3.nils (e:=3) (sz:=1)).sub (.cons e_1 (.cons e_1 (.cons .here (.refl)))))
theorem qGD {n:Nat} (hn:3≤n) {m:Int} (H:HS g h R):t_w n 81 [.int .i64 m] h λv h'=>∃q,v=.ptr q 0∧HS g h' (LgC q (max 0 (min m 96)).toNat [([],[])]::R):=by
 refine t_e1 (S:=S81) rfl omQ λk hk=>?_;unfold S81;try simp only[iZ]
 refine zB (zP (qY (UG omQ H) ?_));rintro _ h2 ⟨a,rfl,H2⟩;refine jY (n:=1) (l:=[.ptr a 0]) (sz:=1) H2 rfl rfl rfl rfl λv h3 H3=>?_;have h1:=H3.one .here;refine qF (l:=[.int .i64 (max ((0:Nat):Int) (min m ((96:Nat):Int))),v]) (by simp only[vK,h1.1];rfl) ?_;refine qH H3 (by show(true&&(v.one&&true))=true;rw[h1.2];rfl) λq h4 H4=>qW ⟨q,rfl,?_⟩;refine LgC.I1 (v:=v) (a:=a) (ps:=[]) rfl ?_;rw[show(((max 0 (min m 96)).toNat:Nat):Int)=max ((0:Nat):Int) (min m ((96:Nat):Int)) by omega];exact H4
theorem qJU {n q most:Nat} (hn:2≤n) {lv:List LvM} {b:Int} (H:HS g h (LgC q most lv::R)) (O:OkL most lv) (hf:∀x∈lv,x.2.length<1000000) :
  t_w n 284 [.ptr q 0,.int .i64 b] h λ_ h'=>HS g h' (LgC q most (QJ lv b)::R):=by
 cases lv with
 |nil=>have:=O.one;simp at this
 |cons x r=>
 refine t_e2 (S:=S284) rfl omQ λk hk=>?_;unfold S284;try simp only[iZ]
 obtain⟨v,a,ps,e,H⟩:=LgC.E1 H;rw[← e]at H;refine qY (JC omQ H .here e_1 (by have:=O.deep;simp at this;omega)) ?_;rintro _ _ ⟨rfl,rfl⟩;obtain⟨w,fv,H2⟩:=LvC.E (H.sel e_2);refine qK (qQ (qV ‹_› .here rfl ?_));refine jY (n:=1) (l:=[.int .i64 b]) (sz:=1) H2 rfl rfl rfl rfl λv3 h3 H3=>?_;have:=hf x (iK ..);refine zn (H3.sel (P:=qL 3 1 x.2.length fv (x.2.map (.int .i64))) e_3) (H3.sl .here) omQ omQ rfl λv4 h4 H4=>?_;refine qK (qQ (qk H4 e_2 (H4.one .here) osQ λh5 H5=>qW ?_));refine LgC.I1 (v:=v) (a:=a) (ps:=ps) e ?_;rw[← e];have:=LvC.I (a:=a) (w:=w) (fv:=v4) (x:=(x.1,x.2++[b])) (R:=qw q [.int .i64 (most:Int),v]::qL 183 1 (ps.length+1) v (xE (a::ps))::(List.zipWith LvC ps r++R))
  (by rw[List.map_append,List.length_append];exact H5.sub (.cons .here (.cons e_2 (.cons .here (.cons e_1 (.cons e_1 (.drop (.refl))))))))
 exact this.sub (.cons e_1 (.cons e_1 (.refl)))
theorem rsum (l:List Nat):l.reverse.sum=l.sum:=by
 induction l with
 |nil=>rfl
 |cons a l ih=>rw[List.reverse_cons,List.sum_append,ih,List.sum_cons];simp[Nat.add_comm]
theorem qXa {n q most:Nat} (hn:2≤n) {lv:List LvM} (H:HS g h (LgC q most lv::R)) (O:OkL most lv) :
  t_w n 255 [.ptr q 0] h λv h'=>v=.int .i64 ((most:Int)-(yV lv:Int))∧h'=h:=by
 refine t_e1 (S:=S255) rfl omQ λk hk=>?_;unfold S255;try simp only[iZ]
 obtain⟨v,ps,e,H⟩:=LgC.E H;have hh:=O.held;have hl:=O.le;have hd:=O.deep;refine qK (qQ (qV ‹_› .here rfl ?_));refine qK (qQ (qV ‹_› .here rfl ?_));refine qs ‹_› e_1 ?_;refine zG (λm s h'=>∃(i:Nat),s=(.int .i64 (i:Int),.int .i64 (lv.length:Int),v,.int .i64 ((most:Int)-(((lv.reverse.take i).map λx=>x.1.length).sum:Nat)),())∧i≤lv.length∧m=lv.length-i∧h'=h)
  ?_ (m:=lv.length) (by show _<1000000000;omega) ⟨0,by simp,by omega,by omega,rfl⟩
 rintro m ih s h' hih ⟨i,rfl,h1,rfl,rfl⟩;dsimp only;have hsum:∀j,((lv.reverse.take j).map λx=>x.1.length).sum+((lv.reverse.drop j).map λx=>x.1.length).sum=yV lv:=by intro j;rw[← List.sum_append,← List.map_append,List.take_append_drop,List.map_reverse,rsum];rfl
 refine zo (λhlt=>qX ?_) λhge=>qJ (qv (qW ⟨?_,rfl⟩))
 ·have hi:i<lv.length:=by omega
  have ha:ps[ps.length-1-i]? =some (ps[ps.length-1-i]'omQ):=iW _;have hx:lv[ps.length-1-i]? =some (lv[ps.length-1-i]'omQ):=iW _;generalize ps[ps.length-1-i]'omQ=a at ha;have hx2:lv.reverse[i]? =some (lv[ps.length-1-i]'omQ):=by rw[List.getElem?_reverse hi,← hx,e]
  generalize lv[ps.length-1-i]'omQ=x at hx hx2;refine jf (H.sl e_1) (by rw[G9 omQ,ha];rfl) ?_;obtain⟨T,s⟩:=Um (R:=R) ha hx;obtain⟨w,fv,H3⟩:=LvC.E (H.sel (.there (.there s)));refine qK (qQ (qV ‹_› .here rfl ?_));refine qY (qWp omQ (H3.sel e_1)) ?_;rintro _ _ ⟨rfl,rfl⟩;have h2:=hsum i;have h3:=hsum (i+1);have h4:((lv.reverse.take (i+1)).map λx=>x.1.length).sum=((lv.reverse.take i).map λx=>x.1.length).sum+x.1.length:=by rw[List.take_add_one,hx2,Option.toList_some,List.map_append,List.sum_append];simp
  refine zZ omQ (qf omQ (hih (lv.length-(i+1)) _ _ omQ ⟨i+1,?_,by omega,rfl,rfl⟩));rw[h4];refine Prod.ext ?_ (Prod.ext rfl (Prod.ext rfl (Prod.ext ?_ rfl)))
  ·show AV.int _ _=AV.int _ _
   congr 1
  ·show AV.int _ _=AV.int _ _
   congr 1
   omega
 ·have h2:=hsum i;rw[List.drop_of_length_le (by simp;omega)]at h2;rw[show((lv.reverse.take i).map λx=>x.1.length).sum=yV lv by simpa using h2]
theorem Og {k b0 l:Nat} {v:AV} {ps:List Nat} {Inv:Nat→AH→Prop} {Fin:AH→Prop}
  (hrd:∀i h,Inv i h→h.at b0 0=some v∧Sl (λ_=>True) h 1 ps.length v (xE ps))
  (hy:∀i a h,ps[i]? =some a→Inv i h→wp (callT tab qx k (.yield l) [.int .i64 ((ps.length-1-i:Nat):Int),.ptr a 0] h) λr h'=>(r=.bool true∧Inv (i+1) h')∨(r=.bool false∧Fin h'))
  (hl:ps.length<1000000) (h0:Inv 0 h):wp (callT tab qx (k+1) (.fn 153 [] [.ptr b0 0]) [.yield l] h) λ_ h'=>Inv ps.length h'∨Fin h':=by
 refine qYe (g:=(tD2 S153)) rfl omQ λk' hk=>?_;obtain rfl:k'=k:=by omega
 show wp (S153 _ _ _ _).1 _;unfold S153
 try simp only[iI,uU,iZ]
 obtain⟨r1,r2⟩:=hrd 0 h h0;refine QK r1 (yb r2 (zZ omQ ?_));refine zG (λm s h'=>∃i:Nat,s=(.int .i64 ((ps.length:Int)-((1:Nat):Int)-(i:Int)),.ptr b0 0,.yield l,())∧i≤ps.length∧m=ps.length-i∧Inv i h') ?_ (m:=ps.length) (by show _<1000000000;omega) ⟨0,by simp,by omega,by omega,h0⟩;rintro m ih s h' hih ⟨i,rfl,h1,rfl,hI⟩;dsimp only;obtain⟨r1,r2⟩:=hrd i h' hI;refine xS (λhlt=>qX ?_) λhge=>qJ (qv (qW (.inl ?_)))
 ·have hi:i<ps.length:=by omega
  have ha:ps[i]? =some ps[i]:=iW hi;rw[show(ps.length:Int)-((1:Nat):Int)-(i:Int)=((ps.length-1-i:Nat):Int) by omega];refine QK r1 (jf r2 (by rw[G9 omQ,show ps.length-1-(ps.length-1-i)=i by omega,ha];rfl) ?_);refine qY (hy i _ h' ha hI) ?_;rintro _ h2 (⟨rfl,hI2⟩ |⟨rfl,hF⟩)
  ·refine jV (qJ (zZ omQ (hih (ps.length-(i+1)) _ _ omQ ⟨i+1,?_,by omega,rfl,hI2⟩)));refine Prod.ext ?_ rfl;show AV.int _ _=AV.int _ _
   congr 1
   omega
  ·exact jq (qX (qv (qW (.inr hF))))
 ·obtain rfl:i=ps.length:=by omega
  exact hI
theorem ZJ {p:Int}:∀{lv:List LvM},(∀(j:Nat) x,lv[j]? =some x→zC p x.1=none)→J5 p lv=none:=by
 intro lv
 induction lv with
 |nil=>intro _;rfl
 |cons x r ih=>intro h;unfold J5;rw[h 0 x rfl];exact ih λj y hy=>h (j+1) y (by simpa using hy)
theorem qQs {p v:Int}:∀{lv:List LvM} {i:Nat} {x:LvM},(∀j,j<i→∀x,lv[j]? =some x→zC p x.1=none)→lv[i]? =some x→zC p x.1=some v→J5 p lv=some v:=by
 intro lv
 induction lv with
 |nil=>intro i x _ h;simp at h
 |cons y r ih=>
  intro i x h1 h2 h3;unfold J5;cases i with
  |zero=>simp at h2;subst h2;rw[h3]
  |succ i=>rw[h1 0 omQ y rfl];exact ih (i:=i) (x:=x) (λj hj z hz=>h1 (j+1) omQ z (by simpa using hz)) (by simpa using h2) h3
theorem OkL.len {most:Nat} {lv:List LvM} (O:OkL most lv) {x:LvM} (hx:x∈lv):x.1.length≤96:=by
 have h1:=O.held;have h2:=O.le;have:x.1.length≤yV lv:=by
  clear h1 O
  induction lv with
  |nil=>cases hx
  |cons y r ih=>
   rw[zL];rcases List.mem_cons.1 hx with rfl |hx
   ·omega
   ·have:=ih hx;omega
 omega
theorem Xi {n:Nat} (hn:1≤n) {v:AV} (h1:One v) (H:HS g h L):t_w n 123 [v] h λr h'=>∃b,r=.fn 153 [] [.ptr b 0]∧HS g h' (qw b [v]::L):=by
 refine t_e1 (S:=S123) rfl omQ λk hk=>?_;unfold S123;try simp only[iZ]
 exact QT H h1 λb h2 H2=>qW ⟨b,rfl,H2⟩
theorem qG0 {n q most:Nat} (hn:8≤n) {lv:List LvM} {p:Int} (H:HS g h (LgC q most lv::R)) (O:OkL most lv) :
  t_w n 151 [.ptr q 0,.int .i64 p] h λv h'=>v=.tup [.int .u64 ((J5 p lv).getD 0),.bool (J5 p lv).isSome]∧HS g h' (LgC q most lv::R):=by
 (refine qC (g:=W151) rfl omQ λk hk=>?_;show wp (S151 (callT tab qx k) _ _ _) _;unfold S151;try simp only[iI,uU,iZ])
 obtain⟨v,ps,e,H⟩:=LgC.E H;have hd:=O.deep;refine QT H ⟨rfl,rfl⟩ λb1 h1 H=>QT H ⟨rfl,rfl⟩ λb2 h2 H=>QT H ⟨rfl,rfl⟩ λb3 h3 H=>?_;refine qK (qQ (qV ‹_› e_3 rfl ?_));refine qY (Xi omQ (H.one e_4) H) ?_;rintro _ h4 ⟨b4,rfl,H⟩;have H5:=(H.newBlk .dfd).newBlk (.loop .ready none 151 [1,0,1,0] [5,4,3] [.ptr b3 0,.ptr b2 0,.ptr b1 0] h4.nx);generalize(h4.new .dfd).nx=l at H5 ⊢;generalize h4.nx=d at H5 ⊢;obtain⟨k2,rfl⟩:∃k2,k=k2+1:=⟨k-1,by omega⟩
 refine Mq (Og (b0:=b4) (v:=v) (ps:=ps)
  (Inv:=λi h'=>HS g h' (gR l (.loop .ready none 151 [1,0,1,0] [5,4,3] [.ptr b3 0,.ptr b2 0,.ptr b1 0] d)::gR d .dfd::qw b4 [v]::qw b3 [.bool false]::qw b2 [.int .u64 ((0:Nat):Int)]::qw b1 [.int .i64 p]::
   qw q [.int .i64 (most:Int),v]::qL 183 1 lv.length v (xE ps)::(List.zipWith LvC ps lv++R))∧∀j,j<i→∀x,lv[j]? =some x→zC p x.1=none)
  (Fin:=λh'=>∃x,J5 p lv=some x∧HS g h' (gR l (.loop .done (some .ret) 151 [1,0,1,0] [5,4,3] [.ptr b3 0,.ptr b2 0,.ptr b1 0] d)::gR d .dfd::qw b4 [v]::qw b3 [.bool true]::qw b2 [.int .u64 x]::qw b1 [.int .i64 p]::
   qw q [.int .i64 (most:Int),v]::qL 183 1 lv.length v (xE ps)::(List.zipWith LvC ps lv++R)))
  ?_ ?_ omQ ⟨H5,λj hj=>by omega⟩) ?_
 ·rintro i h' ⟨H,_⟩;obtain⟨et,A⟩:=H.obj (b:=b4) e_2;exact⟨A.at 0,e▸H.sl e_7⟩
 ·rintro i a h' ha ⟨H,hno⟩;have hi:=(List.getElem?_eq_some_iff.1 ha).1;have hx:lv[i]? =some (lv[i]'omQ):=iW _;have hm:lv[i]'omQ∈lv:=List.getElem_mem _;generalize lv[i]'omQ=x at hx hm;have hxl:=O.len hm;refine MK (H.blk .here) (w:=V1) rfl omQ λk3 hk3=>?_;show wp (B1 _ _ _ _ _ (.int .i64 ((ps.length-1-i:Nat):Int)) _ _) _;unfold B1
  try simp only[iI,uU,iZ]
  refine Vt H .here λh6 H=>?_;obtain⟨T,s⟩:=Um (R:=R) ha hx;obtain⟨w,fv,H7⟩:=LvC.E (H.sel (.there (.there (.there (.there (.there (.there (.there (.there s)))))))));refine qK (qQ (qV ‹_› .here rfl ?_));refine qV ‹_› e_8 rfl ?_;refine qY (O3 omQ (H7.sel e_1) omQ) ?_;rintro _ h8 ⟨rfl,H8⟩;refine qB rfl ?_;refine qB rfl ?_;cases hg:zC p x.1 with
  |none=>
   refine qJ (Oh H8 e_3 λh9 H9=>.inl ⟨rfl,?_,λj hj y hy=>?_⟩)
   ·have H10:=LvC.I (a:=a) (w:=w) (fv:=fv) (x:=x) (H9.sub (.cons e_2 (.cons e_1 (.cons e_1 .refl))));exact HS.unsel (.there (.there (.there (.there (.there (.there (.there (.there s)))))))) (H10.sub (.refl))
   ·by_cases hj':j<i
    ·exact hno j hj' y hy
    ·obtain rfl:j=i:=by omega
     rw[hx]at hy;cases hy;exact hg
  |some z=>refine qX (qk H8 (b:=b2) e_7 ⟨rfl,rfl⟩ osQ λh9 H9=>qk H9 (b:=b3) e_7 ⟨rfl,rfl⟩ osQ λh10 H10=>qWh H10 e_5 λh11 H11=>.inr ⟨rfl,z,qQs hno hx hg,?_⟩);have H12:=LvC.I (a:=a) (w:=w) (fv:=fv) (x:=x) (H11.sub (.cons e_4 (.cons e_3 (.cons e_3 .refl))));exact HS.unsel (.there (.there (.there (.there (.there (.there (.there (.there s)))))))) (H12.sub (.cons .here (.cons .here (.cons e_2 (.cons e_2 (.cons .here (.cons .here (.refl))))))))
 ·rintro _ h6 (⟨H,hno⟩ |⟨x,hx,H⟩)
  ·have hg:J5 p lv=none:=ZJ λj x hj=>hno j (by have:=(List.getElem?_eq_some_iff.1 hj).1;omega) x hj;refine UU H .here (λh=>by cases h) λh7 H=>Vr (qk H (b:=b2) e_4 ⟨rfl,rfl⟩ osQ λh8 H=>qk H (b:=b3) e_4 ⟨rfl,rfl⟩ osQ λh9 H=>XD H e_3 λh10 H=>?_);refine qV ‹_› e_2 rfl ?_;refine qV ‹_› e_1 rfl ?_;refine qW ⟨by rw[hg];rfl,?_⟩;exact LgC.I (v:=v) (ps:=ps) e (H.sub (.cons e_6 (.cons e_6 (.drop (.drop (.drop (.drop (.drop (.drop (.refl))))))))))
  ·refine UU H .here (λh=>by cases h) λh7 H=>qKL (qqt rfl (XD H e_1 λh8 H=>?_));refine qV ‹_› e_4 rfl ?_;refine qV ‹_› e_3 rfl ?_;refine qW ⟨by rw[hx];rfl,?_⟩;exact LgC.I (v:=v) (ps:=ps) e (H.sub (.cons e_6 (.cons e_6 (.drop (.drop (.drop (.drop (.drop (.drop (.refl))))))))))
theorem qqd {x:LvM} {r:List LvM} {most:Nat} {p v:Int} (O:OkL most (x::r)) (hp:¬(p<1∨256≤p)) (hf:¬(zC p x.1=none∧most≤yV (x::r))):Qu 96 x.1 p v=(0,yK p v x.1):=by have h1:=O.held;have h2:=O.le;rw[zL]at h1 hf;unfold Qu;rw[iQ hp,iQ (λh=>hf ⟨h.1,by omega⟩)]
theorem Ow {n q most:Nat} (hn:5≤n) {lv:List LvM} {p v:Int} (H:HS g h (LgC q most lv::R)) (O:OkL most lv) :
  t_w n 194 [.ptr q 0,.int .i64 p,.int .u64 v] h λr h'=>r=.int .i64 (y5 most lv p v).1∧HS g h' (LgC q most (y5 most lv p v).2::R):=by
 cases lv with
 |nil=>have:=O.one;simp at this
 |cons x r=>
 have hxl:=O.len (x:=x) (iK ..);refine t_e3 (S:=S194) rfl omQ λk hk=>?_;unfold S194;try simp only[iZ]
 unfold y5;by_cases hp:p<1∨256≤p
 ·simp only[iJ hp]
  repeat' (first |with_reducible refine qX ?_ |with_reducible refine qJ ?_ |(with_reducible refine qU ?_;try dsimp only) |(with_reducible refine qr ?_;try dsimp only) |(with_reducible refine qT ?_;try dsimp only) |(with_reducible refine qd ?_;try dsimp only) |(with_reducible refine zk ?_;try dsimp only) |with_reducible refine qE ?_ |with_reducible refine qI ?_ |(with_reducible refine qG ?_;try dsimp only) |with_reducible refine qv ?_ |with_reducible refine jV ?_ |with_reducible refine jq ?_ |with_reducible refine qf omQ ?_ |with_reducible refine zZ omQ ?_ |with_reducible refine yj omQ ?_ |with_reducible refine yt omQ ?_ |with_reducible refine zB ?_ |with_reducible refine zP ?_ |with_reducible refine qj omQ ?_ |with_reducible refine qq omQ ?_ |with_reducible refine jX omQ ?_ |with_reducible refine jK omQ ?_ |with_reducible refine zJ omQ ?_ |with_reducible refine jb omQ ?_ |with_reducible refine ky omQ ?_ |with_reducible refine J6 omQ ?_ |with_reducible refine xT omQ ?_ |with_reducible refine xH omQ ?_ |with_reducible refine jh omQ ?_ |with_reducible refine ju omQ ?_ |with_reducible refine zo (λhc=>?_) (λhc=>?_) |with_reducible refine gJ (λhc=>?_) (λhc=>?_) |with_reducible refine gd (λhc=>?_) (λhc=>?_) |with_reducible refine xS (λhc=>?_) (λhc=>?_) |with_reducible refine xp (λhc=>?_) (λhc=>?_) |with_reducible refine yW (λhc=>?_) (λhc=>?_) |with_reducible refine vC (λhc=>?_) (λhc=>?_))
  all_goals exact qW ⟨rfl,H⟩
 simp only[iQ hp];refine jb omQ ?_;refine qG ?_;(try dsimp only);refine qd ?_;(try dsimp only);refine ju omQ ?_;refine qI (qJ ?_)
 have hH:=H;obtain⟨sv,a,ps,e,H⟩:=LgC.E1 H;rw[← e]at H;refine qY (JC omQ H .here e_1 (by have:=O.deep;simp at this;omega)) ?_;rintro _ _ ⟨rfl,rfl⟩;obtain⟨w,fv,H2⟩:=LvC.E (H.sel e_2);refine qK (qQ (qV ‹_› .here rfl ?_));refine qY (O3 omQ (H2.sel e_1) omQ) ?_;rintro _ h3 ⟨rfl,H3⟩;refine qB rfl ?_;refine qB rfl ?_;have H4:HS g h3 (LgC q most (x::r)::R):=by have H4:=LvC.I (a:=a) (w:=w) (fv:=fv) (x:=x) (H3.sub (.cons e_1 (.cons .here .refl)));refine LgC.I1 (v:=sv) (a:=a) (ps:=ps) e ?_;rw[← e];exact H4.sub (.cons e_1 (.cons e_1 (.refl)))
 have fin:¬(zC p x.1=none∧most≤yV (x::r))→∀h5,HS g h5 (WrC w 96 x.1::qw a [.ptr w 0,fv]::qL 3 1 x.2.length fv (x.2.map (.int .i64))::qw q [.int .i64 (most:Int),sv]::qL 183 1 (ps.length+1) sv (xE (a::ps))::(List.zipWith LvC ps r++R))→
   t_w k 154 [.ptr w 0,.int .i64 p,.int .u64 v] h5 λr' h'=>r'=.int .i64 0∧HS g h' (LgC q most ((yK p v x.1,x.2)::r)::R):=by
  intro hf h5 H5;refine(OB omQ H5 omQ).mono ?_;rintro _ h6 ⟨rfl,H6⟩;rw[qqd O hp hf]at H6 ⊢;refine⟨rfl,LgC.I1 (v:=sv) (a:=a) (ps:=ps) e ?_⟩;rw[← e];have H7:=LvC.I (a:=a) (w:=w) (fv:=fv) (x:=(yK p v x.1,x.2)) (H6.sub (.cons e_1 (.cons .here .refl)));exact H7.sub (.cons e_1 (.cons e_1 (.refl)))
 cases hg:zC p x.1 with
 |some z=>
  simp only[Option.isSome_some];refine jV (qG ?_);(try dsimp only);refine qT ?_;(try dsimp only);refine qI (qJ ?_)
  rw[iQ (λh=>by cases h.1)];refine qY (fin (λh=>by rw[hg]at h;cases h.1) h3 (H3.sub (.refl))) ?_;rintro _ h6 ⟨rfl,H6⟩;exact qW ⟨rfl,H6⟩
 |none=>
  simp only[Option.isSome_none];refine jq (qG ?_);(try dsimp only);refine qU ?_;(try dsimp only)
  refine qY (qXa omQ H4 O) ?_;rintro _ _ ⟨rfl,rfl⟩;have hh:=O.held;refine xp (λh0=>?_) λh0=>?_
  ·refine qE (qX ?_);rw[iJ ⟨by trivial,by omega⟩];exact qW ⟨rfl,H4⟩
  ·refine qE (qJ ?_);rw[iQ (λh=>h0 omQ)];refine qY (fin (λh=>h0 omQ) _ (H3.sub (.refl))) ?_;rintro _ h6 ⟨rfl,H6⟩;exact qW ⟨rfl,H6⟩
theorem XO {most:Nat} {x:LvM} {r:List LvM} {p v:Int}:∃c,(y5 most (x::r) p v).2=(c,x.2)::r:=by
 unfold y5;dsimp only
 split
 ·exact⟨x.1,rfl⟩
 ·split
  ·exact⟨x.1,rfl⟩
  ·exact⟨_,rfl⟩
theorem qZ7 {n q most:Nat} (hn:7≤n) {lv:List LvM} {cs:List Cl} {c:AV} (H:HS g h (LgC q most lv::R)) (O:OkL most lv) (S:Rd g R 2 cs.length c (cs.flatMap jU)) (hc:cs.length<100000) :
  t_w n 152 [.ptr q 0,c] h λr h'=>r=.int .i64 (yn most lv lv cs).1∧HS g h' (LgC q most (yn most lv lv cs).2::R):=by
 cases lv with
 |nil=>have:=O.one;simp at this
 |cons x r=>
 have hxl:=O.len (x:=x) (iK ..);have hxi:=O.ins x (iK ..);have hxu:=O.un x (iK ..);refine t_e2 (S:=S152) rfl omQ λk hk=>?_;unfold S152;try simp only[iZ]
 refine qY (U1 (m:=96) omQ omQ H) ?_;rintro _ h1 ⟨w0,rfl,H1⟩;obtain⟨sv,a,ps,e,H2⟩:=LgC.E1 (H1.sel e_1);rw[← e]at H2;refine qY (JC omQ H2 .here e_1 (by have:=O.deep;simp at this;omega)) ?_;rintro _ _ ⟨rfl,rfl⟩;obtain⟨w,fv,H3⟩:=LvC.E (H2.sel e_2);refine qK (qQ (qV ‹_› .here rfl ?_));refine qY (J0 omQ (H3.sel (P:=WrC w 96 x.1) e_1) omQ) λva h4 H4=>?_;refine qY (Je (cs:=x.1) (l:=[]) (m:=96) (w:=w0) omQ (H4.sel (.there (.there (.there (.there (.there (.there (Sel.skip _ .here))))))))  (.own .here) osQ omQ) ?_;rintro _ h5 ⟨_,H5⟩;have ht:gD 96 [] x.1=(0,x.1):=by unfold gD;rw[Ji hxi (by simpa using hxl),KT hxu,iJ rfl]
 rw[ht]at H5;have H6:HS g h5 (LgC q most (x::r)::WrC w0 96 x.1::R):=by have H7:=LvC.I (a:=a) (w:=w) (fv:=fv) (x:=x) (H5.sub (.cons e_3 (.cons e_2 (.cons e_2 .refl))));refine LgC.I1 (v:=sv) (a:=a) (ps:=ps) e ?_;rw[← e];have H8:HS g h5 (WrC w0 96 x.1::(qw q [.int .i64 (most:Int),sv]::qL 183 1 (ps.length+1) sv (xE (a::ps))::LvC a x::List.zipWith LvC ps r)++R):=H7.sub (.cons e_1 (.cons e_2 (.cons e_2 (.cons .here (.drop .refl)))));exact HS.back H8
 clear H1 H2 H3 H4 H5;refine yb (S.sl H6.drop.drop) ?_
 refine zG (λk s h'=>∃(i:Nat) (c':List Cl),s=(.int .i64 (i:Int),.int .i64 (cs.length:Int),c,.ptr w0 0,.ptr q 0,())∧i≤cs.length∧k=cs.length-i∧OkL most ((c',x.2)::r)∧
  HS g h' (LgC q most ((c',x.2)::r)::WrC w0 96 x.1::R)∧yn most (x::r) (x::r) cs=yn most (x::r) ((c',x.2)::r) (cs.drop i)) ?_ (m:=cs.length) (by show _<1000000000;omega) ⟨0,x.1,rfl,by omega,by omega,O,H6,rfl⟩
 rintro k2 ih s h2 hih ⟨i,c',rfl,h1,rfl,O',H,hT⟩;dsimp only;refine zo (λhlt=>qX ?_) λhge=>qJ (qv (qW ?_))
 ·have hi:i<cs.length:=by omega
  have hci:cs[i]? =some cs[i]:=iW hi;refine xK (l:=jU cs[i]) (S.sl H.drop.drop) hi omQ (Xg hci) ?_;refine qH H rfl λb h3 H3=>qe H3 .here rfl (by show 0+2≤2;omega) rfl λh4 H4=>?_;have H5:HS g h4 (qw b (jU cs[i])::LgC q most ((c',x.2)::r)::WrC w0 96 x.1::R):=H4;unfold jU at H5;refine qQ (qV ‹_› .here rfl ?_);refine qQ (qV ‹_› .here rfl ?_);refine qY (Ow omQ H5.drop O') ?_;rintro _ h6 ⟨rfl,H6⟩;rw[List.drop_eq_getElem_cons hi,y7]at hT;have O2:=(UC (p:=cs[i].1) (v:=cs[i].2) O').1;obtain⟨c2,hc2⟩:=XO (most:=most) (x:=(c',x.2)) (r:=r) (p:=cs[i].1) (v:=cs[i].2);refine yW (λhne=>qX ?_) λhe=>qJ (qf omQ ?_)
  ·have hne:¬(y5 most ((c',x.2)::r) cs[i].1 cs[i].2).1=0:=by simpa using hne
   rw[iQ hne]at hT;rw[hc2]at H6;obtain⟨sv,a,ps,e,H7⟩:=LgC.E1 H6;rw[← e]at H7;refine qY (JC omQ H7 .here e_1 (by have:=O.deep;simp at this;omega)) ?_;rintro _ _ ⟨rfl,rfl⟩;obtain⟨w,fv,H8⟩:=LvC.E (H7.sel e_2);refine qK (qQ (qk H8 .here ⟨rfl,rfl⟩ osQ λh9 H9=>qv (qW ?_)));rw[hT];refine⟨rfl,LgC.I1 (v:=sv) (a:=a) (ps:=ps) e ?_⟩;rw[← e];obtain⟨T,sT,uT⟩:∃T,Sel (List.zipWith LvC ps r++WrC w0 96 x.1::R) (WrC w0 96 x.1) T∧T=List.zipWith LvC ps r++R:=⟨_,Sel.skip _ .here,rfl⟩;subst uT;have H10:=LvC.I (a:=a) (w:=w0) (fv:=fv) (x:=x) (H9.sub (.cons .here (.cons (.there (.there (.there (.there sT)))) (.cons e_1 (.drop .refl)))));exact H10.sub (.cons e_1 (.cons e_1 (.refl)))
  ·have he':(y5 most ((c',x.2)::r) cs[i].1 cs[i].2).1=0:=by simpa using he
   rw[iJ he',hc2]at hT;rw[hc2]at H6 O2;exact hih (cs.length-(i+1)) _ _ omQ ⟨i+1,c2,rfl,by omega,rfl,O2,H6,hT⟩
 ·rw[List.drop_of_length_le omQ]at hT;have hT:yn most (x::r) (x::r) cs=(0,(c',x.2)::r):=hT;rw[hT];exact⟨rfl,H.sub (.cons .here (.drop .refl))⟩
theorem GG (a:Nat) (ps:List Nat):xE (a::ps)=xE ps++[.ptr a 0]:=by unfold xE;rw[List.reverse_cons,List.map_append];rfl
theorem KC (ps:List Nat):(xE ps).length=ps.length:=by simp[xE]
theorem qXI {n q most:Nat} (hn:3≤n) {lv:List LvM} (H:HS g h (LgC q most lv::R)) (O:OkL most lv) :
  t_w n 285 [.ptr q 0] h λv h'=>v=.int .i64 (wx lv).1∧HS g h' (LgC q most (wx lv).2::R):=by
 refine t_e1 (S:=S285) rfl omQ λk hk=>?_;unfold S285;try simp only[iZ]
 have hH:=H;obtain⟨v,ps,e,H⟩:=LgC.E H;unfold wx;by_cases h6:6≤lv.length
 ·rw[iJ h6];refine qK (qQ (qV ‹_› .here rfl ?_));refine qs ‹_› e_1 ?_;refine jh omQ ?_;refine qX ?_;exact qW ⟨rfl,hH⟩
 ·rw[iQ h6];refine qK (qQ (qV ‹_› .here rfl ?_));refine qs ‹_› e_1 ?_;refine ju omQ ?_;refine qJ (qG ?_);(try dsimp only);refine qK (qQ (qV ‹_› .here rfl ?_))
  refine qY (UG omQ H) ?_;rintro _ h2 ⟨a,rfl,H2⟩;refine jY (n:=1) (l:=[.ptr a 0]) (sz:=1) H2 rfl rfl rfl rfl λv3 h3 H3=>?_;refine zn (H3.sel e_3) (H3.sl .here) omQ omQ rfl λv4 h4 H4=>?_;refine qK (qQ (qk H4 (b:=q) e_3 (H4.one .here) osQ λh5 H5=>?_));refine jz ‹_› .here rfl ‹_› e_1 rfl (HS.lt ‹_› .here) ?_;refine qW ⟨rfl,LgC.I1 (v:=v4) (a:=a) (ps:=ps) e ?_⟩;rw[GG];exact H5.sub (.cons .here (.cons .here (.cons e_1 (.drop (.refl)))))
theorem Ml {n q:Nat} (hn:1≤n) {m v:AV} {a:Nat} {ps:List Nat} (h1:1≤ps.length) (hl:ps.length<1000) (H:HS g h (qw q [m,v]::qL 183 1 (ps.length+1) v (xE (a::ps))::R)) :
  t_w n 254 [.ptr q 0] h λr h'=>r=.int .i64 0∧∃v',HS g h' (qw q [m,v']::qL 183 1 ps.length v' (xE ps)::R):=by
 refine t_e1 (S:=S254) rfl omQ λk hk=>?_;unfold S254;try simp only[iZ]
 refine qK (qQ (qV ‹_› .here rfl ?_));refine qs ‹_› e_1 ?_;refine qq omQ ?_;refine qJ (qK (qQ (qV ‹_› .here rfl ?_)));refine qK (qQ (qV ‹_› .here rfl ?_));refine qs ‹_› e_1 ?_;refine zZ omQ ?_;rw[show((ps.length+1:Nat):Int)-((1:Nat):Int)=((ps.length:Nat):Int) by omega];refine Yq (H.sel e_1) omQ omQ λv' H2=>?_;refine qK (qQ (qk H2 (b:=q) e_1 (H2.one .here) osQ λh3 H3=>qW ⟨rfl,v',?_⟩));rw[GG,Nat.mul_one,← KC ps,List.take_left,KC]at H3;exact H3.sub (.cons .here (.refl))
theorem Vb {n q most:Nat} (hn:1≤n) {lv:List LvM} (H:HS g h (LgC q most lv::R)) (O:OkL most lv) :
  t_w n 254 [.ptr q 0] h λv h'=>v=.int .i64 (wz lv).1∧HS g h' (LgC q most (wz lv).2::R):=by
 unfold wz;by_cases h1:lv.length=1
 ·rw[iJ h1];refine t_e1 (S:=S254) rfl omQ λk hk=>?_;unfold S254;try simp only[iZ]
  have hH:=H;obtain⟨v,ps,e,H⟩:=LgC.E H;refine qK (qQ (qV ‹_› .here rfl ?_));refine qs ‹_› e_1 ?_;refine qj omQ ?_;refine qX ?_;exact qW ⟨rfl,hH⟩
 ·rw[iQ h1];cases lv with
  |nil=>have:=O.one;simp at this
  |cons x r=>
  have hd:=O.deep;simp at h1 hd;have h1':1≤r.length:=by cases r with |nil=>simp at h1 |cons _ _=>simp
  obtain⟨v,a,ps,e,H⟩:=LgC.E1 H;rw[← e]at H;refine(Ml hn omQ omQ H).mono ?_;rintro _ h2 ⟨rfl,v',H2⟩;refine⟨rfl,LgC.I (v:=v') (ps:=ps) e ?_⟩;show HS g h2 (_::qL 183 1 r.length v' _::(List.zipWith LvC ps r++R));rw[← e];exact H2.sub (.cons .here (.cons .here (.drop .refl)))
theorem qX5 {n q most:Nat} (hn:6≤n) {lv:List LvM} (H:HS g h (LgC q most lv::R)) (O:OkL most lv) (hf:∀x∈lv,x.2.length<1000000) :
  t_w n 252 [.ptr q 0] h λv h'=>v=.int .i64 (w8 lv).1∧HS g h' (LgC q most (w8 lv).2::R):=by
 rcases lv with _ |⟨x,_ |⟨y,r⟩⟩
 ·have:=O.one;simp at this
 ·
  refine t_e1 (S:=S252) rfl omQ λk hk=>?_;unfold S252;try simp only[iZ]
  obtain⟨v,a,ps,e,H2⟩:=LgC.E1 H;rw[← e]at H2;refine qY (JC omQ H2 .here e_1 (by simp at e;simp[e])) ?_;rintro _ _ ⟨rfl,rfl⟩;refine qY (Vb omQ H O) ?_;rintro _ h3 ⟨rfl,H3⟩;rw[show wz [x]=(10,[x])from rfl]at H3 ⊢;refine jX omQ ?_;refine qX ?_;exact qW ⟨rfl,H3⟩
 ·
  have hx:=hf x osQ;have hy:=hf y osQ;have hxi:=O.ins x osQ;have hd:=O.deep;have hh:=O.held;have hle:=O.le;rw[zL,zL]at hh;simp at hd;refine t_e1 (S:=S252) rfl omQ λk hk=>?_;unfold S252;try simp only[iZ]
  obtain⟨v,a,ps,e,H2⟩:=LgC.E1 H;rw[← e]at H2;refine qY (JC omQ H2 .here e_1 (by simp at e;omega)) ?_;rintro _ _ ⟨rfl,rfl⟩;simp at e;refine qY (Ml omQ omQ omQ H2) ?_;rintro _ h3 ⟨rfl,v',H3⟩;cases ps with
  |nil=>simp at e
  |cons b ps=>
  simp at e;refine jK omQ ?_;refine qJ (qY (JC omQ H3 .here e_1 omQ) ?_);rintro _ _ ⟨rfl,rfl⟩;have H4:HS g _ (LvC b y::LvC a x::qw q [.int .i64 (most:Int),v']::qL 183 1 (ps.length+1) v' (xE (b::ps))::(List.zipWith LvC ps r++R)):=H3.sub (.cons e_3 (.cons e_2 (.cons .here (.cons .here .refl))));obtain⟨w1,f1,H4⟩:=LvC.E H4;obtain⟨w2,f2,H5⟩:=LvC.E (H4.sel e_3);refine qK (qQ (qV ‹_› e_3 rfl ?_));refine qK (qQ (qV ‹_› .here rfl ?_));refine zn (H5.sel e_5) (H5.sl e_2) omQ omQ ?_ λv6 h6 H6=>?_
  ·simp[jG,AV.one]
  refine qK (qQ (qk H6 (b:=b) e_4 (H6.one .here) osQ λh7 H7=>?_));simp only[List.set_cons_zero,List.set_cons_succ]at H7;refine qG ?_;(try dsimp only);refine qK (qQ (qV ‹_› .here rfl ?_));refine qK (qQ (qV ‹_› e_2 rfl ?_))
  refine qY (J0 omQ (H7.sel (P:=WrC w2 96 x.1) e_3) omQ) λv8 h8 H8=>?_;refine qY (Je (cs:=x.1) (l:=y.1) (m:=96) (w:=w1) omQ (H8.sel (P:=WrC w1 96 y.1) e_6) (.own .here) omQ omQ) ?_;rintro _ h9 ⟨rfl,H9⟩;have ht:gD 96 y.1 x.1=(0,yQ y.1 x.1):=by unfold gD;rw[Ji hxi omQ,iJ rfl]
  rw[ht]at H9 ⊢;refine jz ‹_› .here rfl ‹_› e_2 rfl (HS.lt ‹_› .here) ?_;refine qW ⟨rfl,LgC.I1 (v:=v') (a:=b) (ps:=ps) omQ ?_⟩;show HS g h9 (_::qL 183 1 (r.length+1) v' _::_);rw[← e];have H10:=LvC.I (a:=b) (w:=w1) (fv:=v6) (x:=(yQ y.1 x.1,y.2++x.2)) (R:=qw q [.int .i64 (most:Int),v']::qL 183 1 (ps.length+1) v' (xE (b::ps))::(List.zipWith LvC ps r++R))
   (by rw[List.map_append,List.length_append];exact H9.sub (.cons e_3 (.cons .here (.cons e_2 (.cons e_4 (.cons e_4 (.drop (.drop (.drop (.drop (.refl)))))))))))
  exact H10.sub (.cons e_1 (.cons e_1 (.refl)))
theorem GK:∀(lv:List LvM) (out:List Cl),(lv.foldl (λout x=>yQ x.1 out) out).length≤out.length+yV lv:=by
 intro lv
 induction lv with
 |nil=>intro out;simp
 |cons x r ih=>intro out;have h1:=ih (yQ x.1 out);have h2:=YN (cs:=out) (l:=x.1);rw[List.foldl_cons,zL];omega
theorem KJ:∀(lv:List LvM) (out:List Cl),InC out→(∀x∈lv,InC x.1)→InC (lv.foldl (λout x=>yQ x.1 out) out):=by
 intro lv
 induction lv with
 |nil=>intro out h _;exact h
 |cons x r ih=>intro out h hx;exact ih _ ((hx x (iK ..)).puts h) λy hy=>hx y (iX _ hy)
theorem qQH (l1 l2:List LvM):yV (l1++l2)=yV l1+yV l2:=by simp[yV]
theorem ZF {n q most:Nat} (hn:9≤n) {lv:List LvM} (H:HS g h (LgC q most lv::R)) (O:OkL most lv) :
  t_w n 94 [.ptr q 0] h λv h'=>HS g h' (qL 61 2 (jO lv).length v ((jO lv).flatMap jU)::LgC q most lv::R):=by
 (refine qC (g:=W94) rfl omQ λk hk=>?_;show wp (S94 (callT tab qx k) _ _) _;unfold S94;try simp only[iI,uU,iZ])
 obtain⟨v,ps,e,H⟩:=LgC.E H;have hd:=O.deep;have hle:=O.le;have hhe:=O.held;refine QT (H.nils (e:=61) (sz:=2)) ⟨rfl,rfl⟩ λb1 h1 H=>?_;refine qK (qQ (qV ‹_› e_2 rfl ?_));refine qY (Xi omQ (H.one e_3) H) ?_;rintro _ h4 ⟨b4,rfl,H⟩;have H5:=(H.newBlk .dfd).newBlk (.loop .ready none 94 [1,1,0,1,0] [3] [.ptr b1 0] h4.nx);generalize(h4.new .dfd).nx=l at H5 ⊢;generalize h4.nx=d at H5 ⊢;obtain⟨k2,rfl⟩:∃k2,k=k2+1:=⟨k-1,by omega⟩
 refine Mq (Og (b0:=b4) (v:=v) (ps:=ps)
  (Inv:=λi h'=>∃ov,HS g h' (gR l (.loop .ready none 94 [1,1,0,1,0] [3] [.ptr b1 0] d)::gR d .dfd::qw b4 [v]::qw b1 [ov]::qL 61 2 (jO (lv.take i)).length ov ((jO (lv.take i)).flatMap jU)::
   qw q [.int .i64 (most:Int),v]::qL 183 1 lv.length v (xE ps)::(List.zipWith LvC ps lv++R)))
  (Fin:=λ_=>False) ?_ ?_ omQ ⟨.nils,H5⟩) ?_
 ·rintro i h' ⟨ov,H⟩;obtain⟨et,A⟩:=H.obj (b:=b4) e_2;exact⟨A.at 0,e▸H.sl e_6⟩
 ·rintro i a h' ha ⟨ov,H⟩;have hi:=(List.getElem?_eq_some_iff.1 ha).1;have hx:lv[i]? =some (lv[i]'omQ):=iW _;have hm:lv[i]'omQ∈lv:=List.getElem_mem _;generalize lv[i]'omQ=x at hx hm;have hxl:=O.len hm;have hxi:=O.ins x hm;have hxu:=O.un x hm;have hml:(jO (lv.take i)).length+x.1.length≤96:=by
   have h1:=GK (lv.take i) [];have h2:yV lv=yV (lv.take i)+(x.1.length+yV (lv.drop (i+1))):=by
    rw[← zL,← qQH]
    congr 1
    have h3:lv.drop i=x::lv.drop (i+1):=by
     have hi':i<lv.length:=by omega
     rw[List.drop_eq_getElem_cons hi'];rw[iW hi']at hx;rw[Option.some.inj hx]
    rw[← h3,List.take_append_drop]
   unfold jO;simp at h1;omega
  have hmi:InC (jO (lv.take i)):=KJ _ _ (λc hc=>by cases hc) λy hy=>O.ins y (List.mem_of_mem_take hy);have hms:jO (lv.take (i+1))=yQ x.1 (jO (lv.take i)):=by unfold jO;rw[List.take_add_one,hx,Option.toList_some,List.foldl_append];rfl
  refine MK (H.blk .here) (w:=V0) rfl omQ λk3 hk3=>?_;show wp (B0 _ _ _ (.int .i64 ((ps.length-1-i:Nat):Int)) _ _) _;unfold B0
  try simp only[iI,uU,iZ]
  refine Vt H .here λh6 H=>?_;refine qY (U1 (m:=96) omQ omQ H) ?_;rintro _ h7 ⟨w0,rfl,H⟩;obtain⟨T,s⟩:=Um (R:=R) ha hx;obtain⟨w,fv,H7⟩:=LvC.E (H.sel (.there (.there (.there (.there (.there (.there (.there (.there s)))))))));refine qK (qQ (qV ‹_› .here rfl ?_));refine qY (J0 omQ (H7.sel (P:=WrC w 96 x.1) e_1) omQ) λva h8 H8=>?_;refine qY (Je (cs:=x.1) (l:=[]) (m:=96) (w:=w0) omQ (H8.sel (P:=WrC w0 96 []) e_4) (.own .here) osQ omQ) ?_;rintro _ h9 ⟨_,H9⟩;have ht:gD 96 [] x.1=(0,x.1):=by unfold gD;rw[Ji hxi (by simpa using hxl),KT hxu,iJ rfl]
  rw[ht]at H9;dsimp only at H9;refine qV ‹_› e_8 rfl ?_;have ht2:gD 96 x.1 (jO (lv.take i))=(0,yQ x.1 (jO (lv.take i))):=by unfold gD;rw[Ji hmi omQ,iJ rfl]
  have S2:Rd g _ 2 (jO (lv.take i)).length ov ((jO (lv.take i)).flatMap jU):=H9.drop.rd (L:=qL 61 2 x.1.length va (x.1.flatMap jU)::WrC w 96 x.1::qw a [.ptr w 0,fv]::qL 3 1 x.2.length fv (x.2.map (.int .i64))::
   gR l (.loop .busy none 94 [1,1,0,1,0] [3] [.ptr b1 0] d)::gR d .dfd::qw b4 [v]::qw b1 [ov]::qL 61 2 (jO (lv.take i)).length ov ((jO (lv.take i)).flatMap jU)::
   qw q [.int .i64 (most:Int),v]::qL 183 1 lv.length v (xE ps)::T) e_8
  refine qY (Je omQ H9 S2 omQ omQ) ?_;rintro _ h10 ⟨_,H10⟩;rw[ht2]at H10;dsimp only at H10;have hpl:=YN (cs:=jO (lv.take i)) (l:=x.1);refine qY (J0 omQ H10 omQ) λvb h11 H11=>?_;refine qk H11 (b:=b1) e_9 (H11.one .here) osQ λh12 H12=>Oh H12 e_7 λh13 H13=>.inl ⟨rfl,vb,?_⟩;rw[hms]
  have H14:=LvC.I (a:=a) (w:=w) (fv:=fv) (x:=x) (R:=gR l (.loop .ready none 94 [1,1,0,1,0] [3] [.ptr b1 0] d)::gR d .dfd::qw b4 [v]::qw b1 [vb]::
   qL 61 2 (yQ x.1 (jO (lv.take i))).length vb ((yQ x.1 (jO (lv.take i))).flatMap jU)::qw q [.int .i64 (most:Int),v]::qL 183 1 lv.length v (xE ps)::T) (H13.sub (.cons e_6 (.cons e_5 (.cons e_5 (.cons .here (.cons e_4 (.cons e_4 (.cons .here (.cons .here (.cons e_3 (.cons e_3 (.drop (.drop (.drop (.refl)))))))))))))))
  exact HS.unsel (.there (.there (.there (.there (.there (.there (.there s))))))) H14
 ·rintro _ h6 (⟨ov,H⟩ |hF)
  ·rw[List.take_of_length_le omQ]at H;refine UU H .here (λh=>by cases h) λh7 H=>Vr ?_;refine qV ‹_› e_3 rfl ?_;refine XD H e_1 λh10 H=>qW ?_
   exact(LgC.I (v:=v) (ps:=ps) e (HS.back (A:=_::_::List.zipWith LvC ps lv) (H.sub (L':=qL 61 2 (jO lv).length ov ((jO lv).flatMap jU)::qw q [.int .i64 (most:Int),v]::
    qL 183 1 lv.length v (xE ps)::(List.zipWith LvC ps lv++R)) (.cons e_4 (.cons e_4 (.cons e_4 (.drop (.drop (.drop (.drop (.refl))))))))))).sub (.cons e_1 (.refl))
  ·exact hF.elim
end
section
variable {g h:AH} {L R:List SP}
structure VM where
  sz:Nat
  K:List Cl
  most:Nat
  lv:List LvM
  need:Int
structure OkV (M:VM):Prop where
  lo:32≤M.sz
  hi:M.sz≤256
  lvs:OkL M.most M.lv
  ins:∀c∈M.K,1≤c.1∧c.1<M.sz
  un:UnC M.K
  fr:∀x∈M.lv,x.2.length<100000
def xN (M:VM) (p x:Int):Int×VM :=
 if 1≤p∧p<M.sz then match zC p M.K with
  |some y=>(if y=x then 0 else 14,M)
  |none=>(0,{ M with K:=M.K++[(p,x)] })
 else(2,M)
def qR (M:VM) (p:Int):(Int×Int)×VM :=
 if 1≤p∧p<M.sz then match J5 p M.lv with
  |some x=>((x,0),M)
  |none=>match zC p M.K with
   |some x=>((x,0),M)
   |none=>((0,11),{ M with need:=p })
 else((0,2),M)
def jd (M:VM) (cs:List Cl):Int×VM :=
 if∀c∈cs,1≤c.1∧c.1<M.sz then((yn M.most M.lv M.lv cs).1,{ M with lv:=(yn M.most M.lv M.lv cs).2 })else(2,M)
def freeV (M:VM) (b:Int):VM:={ M with lv:=QJ M.lv b }
def yv (M:VM):Int×VM:=((wx M.lv).1,{ M with lv:=(wx M.lv).2 })
def zu (M:VM):Int×VM:=((wz M.lv).1,{ M with lv:=(wz M.lv).2 })
def yT (M:VM):Int×VM:=((w8 M.lv).1,{ M with lv:=(w8 M.lv).2 })
theorem YE:∀(n:Nat) (l:List Int),l.Nodup→(∀x∈l,0≤x∧x<n)→l.length≤n:=by
 intro n
 induction n with
 |zero=>
  intro l _ h;cases l with
  |nil=>exact Nat.le_refl _
  |cons x l=>have:=h x (iK ..);omega
 |succ n ih=>
  intro l hd h;by_cases hx:(n:Int)∈l
  ·have:=ih (l.erase n) (hd.erase _) (λx hx'=>by
    have h1:=h x (List.mem_of_mem_erase hx');have h2:x≠n:=by rintro rfl;exact(List.Nodup.not_mem_erase hd) hx'
    omega)
   rw[List.length_erase_of_mem hx]at this;omega
  ·have:=ih l hd (λx hx'=>by
    have h1:=h x hx';have h2:x≠n:=by rintro rfl;exact hx hx'
    omega)
   omega
theorem OkV.klen {M:VM} (O:OkV M):M.K.length≤256:=by
 have hu:(M.K.map (·.1)).Nodup:=O.un
 have:=YE M.sz _ hu (λx hx=>by
  obtain⟨c,hc,rfl⟩:=List.mem_map.1 hx;have:=O.ins c hc
  omega)
 rw[List.length_map]at this;have:=O.hi;omega
def wc (f:Int×Bool):List AV:=[.int .u64 f.1,.bool f.2]
def vj (K:List Cl) (i:Nat):Int×Bool:=match zC (i:Int) K with |some x=>(x,true) |none=>(0,false)
def xu (sz:Nat) (K:List Cl):List (Int×Bool):=(List.range sz).map (vj K)
theorem kI (sz:Nat) (K:List Cl):(xu sz K).length=sz:=by simp[xu]
theorem wk {sz:Nat} {K:List Cl} {i:Nat} (hi:i<sz):(xu sz K)[i]? =some (vj K i):=by simp[xu,List.getElem?_range hi]
theorem gP {α:Type} {sz:Nat} {enc:α→List AV} (he:∀a,(enc a).length=sz) {l:List α} {i:Nat} {a:α} (h:l[i]? =some a):((l.flatMap enc).drop (i*sz)).take sz=enc a:=by obtain⟨hi,e⟩:=List.getElem?_eq_some_iff.1 h;rw[QE (sz:=sz) enc he,List.drop_eq_getElem_cons hi,e,List.flatMap_cons,← he a,List.take_left]
theorem UD {α:Type} {sz:Nat} {enc:α→List AV} (he:∀a,(enc a).length=sz) {l:List α} {i:Nat} {a:α} (hi:i<l.length):wm (l.flatMap enc) (i*sz) (enc a)=(l.set i a).flatMap enc:=by
 have h1:(l.flatMap enc).take (i*sz)=(l.take i).flatMap enc:=by
  have e1:l.flatMap enc=(l.take i).flatMap enc++(l.drop i).flatMap enc:=by rw[← List.flatMap_append,List.take_append_drop]
  have e2:((l.take i).flatMap enc).length=i*sz:=by rw[Js (sz:=sz) enc he,List.length_take,Nat.min_eq_left omQ]
  rw[e1,← e2,List.take_left]
 have h2:(l.flatMap enc).drop (i*sz+sz)=(l.drop (i+1)).flatMap enc:=by rw[show i*sz+sz=(i+1)*sz by rw[Nat.add_mul,Nat.one_mul],QE (sz:=sz) enc he]
 unfold wm;rw[he,h1,h2,List.set_eq_take_append_cons_drop,iJ hi,List.flatMap_append,List.flatMap_cons,List.append_assoc]
theorem Z7 {α:Type} {enc:α→List AV} {a:α}:∀n,yo (enc a) n=(List.replicate n a).flatMap enc:=by
 intro n
 induction n with
 |zero=>rfl
 |succ n ih=>rw[yo,ih,List.replicate_succ,List.flatMap_cons]
theorem N4 (sz:Nat):xu sz []=List.replicate sz (0,false):=by unfold xu;rw[show vj []=λ_=>((0,false):Int×Bool)from rfl,List.map_const',List.length_range]
theorem OW {sz:Nat} {K:List Cl} {i:Nat} {x:Int} (hi:i<sz) (hn:zC (i:Int) K=none):xu sz (K++[((i:Int),x)])=(xu sz K).set i (x,true):=by
 have e:∀j:Nat,zC (j:Int) (K++[((i:Int),x)])=if j=i then some x else zC (j:Int) K:=by
  intro j;rw[← QU hn,Va];by_cases h:j=i
  ·rw[iJ h,iJ (by rw[h])]
  ·rw[iQ h,iQ omQ]
 apply List.ext_getElem?;intro j;rw[List.getElem?_set,kI];by_cases hj:j<sz
 ·rw[wk hj];by_cases h:i=j
  ·subst h;rw[iJ rfl,iJ hi];unfold vj;rw[e,iJ rfl]
  ·rw[iQ h,wk hj];unfold vj;rw[e,iQ omQ]
 ·rw[List.getElem?_eq_none (by rw[kI];omega),iQ omQ,List.getElem?_eq_none (by rw[kI];omega)]
def ViewC (v:Nat) (M:VM):SP:=.ex λfv=>.ex λov=>.ex λq=>.ex λe=>.all [qw v [fv,ov,.ptr q 0,.int .i64 M.need],qL e 2 M.sz fv ((xu M.sz M.K).flatMap wc),
 qL 3 1 M.K.length ov (M.K.map λc=>.int .i64 c.1),LgC q M.most M.lv]
theorem ViewC.E {v:Nat} {M:VM} (H:HS g h (ViewC v M::R)):∃fv ov q e,HS g h (qw v [fv,ov,.ptr q 0,.int .i64 M.need]::qL e 2 M.sz fv ((xu M.sz M.K).flatMap wc)::
  qL 3 1 M.K.length ov (M.K.map λc=>.int .i64 c.1)::LgC q M.most M.lv::R):=by
 obtain⟨fv,H⟩:=H.exE;obtain⟨ov,H⟩:=H.exE;obtain⟨q,H⟩:=H.exE;obtain⟨e,H⟩:=H.exE;exact⟨fv,ov,q,e,H.allE⟩
theorem ViewC.I {v:Nat} {M:VM} {fv ov:AV} {q:Nat} {e:TypeId} (H:HS g h (qw v [fv,ov,.ptr q 0,.int .i64 M.need]::qL e 2 M.sz fv ((xu M.sz M.K).flatMap wc)::
  qL 3 1 M.K.length ov (M.K.map λc=>.int .i64 c.1)::LgC q M.most M.lv::R)):HS g h (ViewC v M::R) :=
 HS.exI fv (HS.exI ov (HS.exI q (HS.exI e (HS.allI H))))
def szZ (n:Int):Nat:=(max 32 (min n 256)).toNat
theorem qKR (n:Int):32≤szZ n∧szZ n≤256:=by unfold szZ;omega
def U6 (words most:Int):VM:=⟨szZ words,[],(max 0 (min most 96)).toNat,[([],[])],0⟩
theorem qYN {m:Nat} (hm:m≤96):OkL m [([],[])]:=⟨by simp[yV],hm,by intro x hx;simp at hx;subst hx;intro c hc;simp at hc,by intro x hx;simp at hx;subst hx;exact List.nodup_nil,by simp,by simp⟩
theorem qV2 (words most:Int):OkV (U6 words most) :=
 ⟨(qKR _).1,(qKR _).2,qYN (by show(max 0 (min most 96)).toNat≤96;omega),by intro c hc;simp[U6]at hc,List.nodup_nil,by intro x hx;simp[U6]at hx;subst hx;simp⟩
theorem qW7 {n:Nat} (hn:4≤n) {w m:Int} (H:HS g h R):t_w n 50 [.int .i64 w,.int .i64 m] h λr h'=>∃v,r=.ptr v 0∧HS g h' (ViewC v (U6 w m)::R):=by
 refine t_e2 (S:=S50) rfl omQ λk hk=>?_;unfold S50;try simp only[iZ]
 refine zB (zP ?_);have hb:=qKR w;rw[show max ((32:Nat):Int) (min w ((256:Nat):Int))=((szZ w:Nat):Int) by unfold szZ;omega];refine Jr (sz:=2) H rfl (Nat.le_refl _) omQ λfv h2 H2=>?_;refine qY (qGD omQ H2) ?_;rintro _ h3 ⟨q,rfl,H3⟩;have h1:=H3.one e_1;refine qF (l:=[fv,.nils,.ptr q 0,.int .i64 0]) (by unfold vK;rw[h1.1];rfl) ?_;refine qH H3 (by show(fv.one&&(true&&(true&&(true&&true))))=true;rw[h1.2];rfl) λv h4 H4=>qW ⟨v,rfl,?_⟩;rw[List.take_of_length_le (by rw[gw];exact Nat.le_refl _),show yo [AV.int .u64 ((0:Nat):Int),AV.bool false] (szZ w)=(xu (szZ w) []).flatMap wc by rw[N4,← Z7];rfl]at H4;exact ViewC.I (M:=U6 w m) ((H4.nils (e:=3) (sz:=1)).sub (.cons e_1 (.cons e_2 (.cons .here (.cons .here (.refl))))))
theorem Y8 {n:Nat} (hn:1≤n) {v:Nat} {M:VM} (H:HS g h (ViewC v M::R)):t_w n 148 [.ptr v 0] h λr h'=>r=.int .i64 (M.sz:Int)∧h'=h:=by
 refine t_e1 (S:=S148) rfl omQ λk hk=>?_;unfold S148;try simp only[iZ]
 obtain⟨fv,ov,q,e,H⟩:=ViewC.E H;refine qK (qQ (qV ‹_› .here rfl ?_));refine qs ‹_› e_1 ?_;exact qW ⟨rfl,rfl⟩
theorem VQ {n:Nat} (hn:1≤n) {v:Nat} {M:VM} {p:Int} (H:HS g h (ViewC v M::R)):t_w n 150 [.ptr v 0,.int .i64 p] h λr h'=>r=.bool (decide (1≤p∧p<M.sz))∧h'=h:=by
 refine t_e2 (S:=S150) rfl omQ λk hk=>?_;unfold S150;try simp only[iZ]
 obtain⟨fv,ov,q,e,H⟩:=ViewC.E H;by_cases h1:1≤p
 ·refine jh omQ ?_;refine qG ?_;(try dsimp only);refine qU ?_;(try dsimp only);refine qK (qQ (qV ‹_› .here rfl ?_));refine qs ‹_› e_1 ?_
  refine JY (qE (qW ⟨?_,rfl⟩))
  congr 1
  exact decide_eq_decide.2 ⟨λh2=>⟨h1,h2⟩,λh2=>h2.2⟩
 ·refine ju omQ ?_;refine qG ?_;(try dsimp only);refine qT ?_;(try dsimp only);refine qI ?_
  exact qW ⟨by rw[iV (λh2=>h1 h2.1)],rfl⟩
theorem Mr {M:VM} {p x:Int} (O:OkV M):OkV (xN M p x).2:=by
 unfold xN
 split
 ·rename_i hp
  split
  ·exact O
  ·rename_i hn;refine⟨O.lo,O.hi,O.lvs,?_,?_,O.fr⟩
   ·intro c hc;rcases List.mem_append.1 hc with hc |hc
    ·exact O.ins c hc
    ·rw[List.mem_singleton]at hc;subst hc;exact hp
   ·have:=O.un.put (p:=p) (v:=x);rw[QU hn]at this;exact this
 ·exact O
theorem qXh {n:Nat} (hn:2≤n) {v:Nat} {M:VM} {p x:Int} (H:HS g h (ViewC v M::R)) (O:OkV M) :
  t_w n 132 [.ptr v 0,.int .i64 p,.int .u64 x] h λr h'=>r=.int .i64 (xN M p x).1∧HS g h' (ViewC v (xN M p x).2::R):=by
 refine t_e3 (S:=S132) rfl omQ λk hk=>?_;unfold S132;try simp only[iZ]
 refine qY (VQ omQ H) ?_;rintro _ _ ⟨rfl,rfl⟩;have hO:=O.hi;unfold xN;by_cases hp:1≤p∧p<M.sz
 ·rw[iJ hp];rw[iG hp];obtain⟨i,rfl⟩:∃i:Nat,p=(i:Int):=⟨p.toNat,by omega⟩;have hi:i<M.sz:=by omega
  have hH:=H;obtain⟨fv,ov,q,e,H⟩:=ViewC.E H;refine jV (qJ (qK (qQ (qV ‹_› .here rfl ?_))));refine xK (l:=wc (vj M.K i)) (H.sl e_1) hi omQ (gP (enc:=wc) (sz:=2) (λ_=>rfl) (wk hi)) ?_;refine qH H rfl λb h3 H3=>qe H3 .here rfl (by show 0+2≤2;omega) rfl λh4 H4=>?_
  have H5:HS g h4 (qw b (wc (vj M.K i))::qw v [fv,ov,.ptr q 0,.int .i64 M.need]::qL e 2 M.sz fv ((xu M.sz M.K).flatMap wc)::
   qL 3 1 M.K.length ov (M.K.map λc=>.int .i64 c.1)::LgC q M.most M.lv::R):=H4
  unfold wc at H5;cases hg:zC (i:Int) M.K with
  |some y=>
   rw[show vj M.K i=(y,true) by unfold vj;rw[hg]]at H5;refine qQ (qV ‹_› .here rfl ?_);refine qX (qQ (qV ‹_› .here rfl ?_));have H6:=ViewC.I (H5.drop);by_cases hy:y=x
   ·refine jK omQ ?_;refine qJ (qW ⟨by dsimp only;rw[iJ hy];rfl,H6⟩)
   ·refine jX omQ ?_;refine qX (qW ⟨by dsimp only;rw[iQ hy];rfl,H6⟩)
  |none=>
   rw[show vj M.K i=(0,false) by unfold vj;rw[hg]]at H5;have hkl:=O.klen;refine qQ (qV ‹_› .here rfl ?_);refine qJ (qK (qQ (qV ‹_› e_1 rfl ?_)));refine qF rfl ?_;refine NU (l:=[.int .u64 x,.bool true]) (H5.drop.sel (P:=qL e 2 M.sz fv ((xu M.sz M.K).flatMap wc)) e_1) hi rfl rfl λh6 H6=>?_
   rw[show wm ((xu M.sz M.K).flatMap wc) (i*2) [AV.int .u64 x,AV.bool true]=(xu M.sz (M.K++[((i:Int),x)])).flatMap wc by
    rw[OW hi hg,← UD (enc:=wc) (sz:=2) (λ_=>rfl) (by rw[kI];exact hi)];rfl]at H6
   refine qK (qQ (qV ‹_› e_1 rfl ?_));refine jY (n:=1) (l:=[.int .i64 (i:Int)]) (sz:=1) H6 rfl rfl rfl rfl λv7 h7 H7=>?_;refine zn (H7.sel (P:=qL 3 1 M.K.length ov (M.K.map λc=>.int .i64 c.1)) e_3) (H7.sl .here) omQ omQ rfl λv8 h8 H8=>?_;refine qK (qQ (qk H8 e_3 (H8.one .here) osQ λh9 H9=>qW ⟨rfl,ViewC.I (M:={ M with K:=M.K++[((i:Int),x)] }) (fv:=fv) (ov:=v8) (q:=q) (e:=e) ?_⟩));rw[List.map_append,List.length_append];exact H9.sub (.cons .here (.cons e_2 (.cons .here (.cons e_1 (.drop (.refl))))))
 ·rw[iQ hp,iV hp];refine jq (qX ?_);exact qW ⟨rfl,H⟩
theorem xz {M:VM} {p:Int} (O:OkV M):OkV (qR M p).2:=by
 unfold qR
 repeat' split
 all_goals exact⟨O.lo,O.hi,O.lvs,O.ins,O.un,O.fr⟩
theorem kX {n:Nat} (hn:9≤n) {v:Nat} {M:VM} {p:Int} (H:HS g h (ViewC v M::R)) (O:OkV M) :
  t_w n 120 [.ptr v 0,.int .i64 p] h λr h'=>r=.tup [.int .u64 (qR M p).1.1,.int .i64 (qR M p).1.2]∧HS g h' (ViewC v (qR M p).2::R):=by
 refine t_e2 (S:=S120) rfl omQ λk hk=>?_;unfold S120;try simp only[iZ]
 refine qY (VQ omQ H) ?_;rintro _ _ ⟨rfl,rfl⟩;have hO:=O.hi;unfold qR;by_cases hp:1≤p∧p<M.sz
 ·rw[iJ hp];rw[iG hp];obtain⟨i,rfl⟩:∃i:Nat,p=(i:Int):=⟨p.toNat,by omega⟩;have hi:i<M.sz:=by omega
  obtain⟨fv,ov,q,e,H⟩:=ViewC.E H;refine jV (qJ (qK (qQ (qV ‹_› .here rfl ?_))));refine qY (qG0 omQ (H.sel (P:=LgC q M.most M.lv) e_3) O.lvs) ?_;rintro _ h2 ⟨rfl,H2⟩;refine qB rfl ?_;refine qB rfl ?_;cases hl:J5 (i:Int) M.lv with
  |some y=>simp only[Option.isSome_some,Option.getD_some];refine qX ?_;exact qW ⟨rfl,ViewC.I (H2.sub (.cons e_1 (.cons e_1 (.cons e_1 (.refl)))))⟩
  |none=>
   simp only[Option.isSome_none];refine qJ (qK (qQ (qV ‹_› e_1 rfl ?_)));refine xK (l:=wc (vj M.K i)) (H2.sl e_2) hi omQ (gP (enc:=wc) (sz:=2) (λ_=>rfl) (wk hi)) ?_;refine qH H2 rfl λb h3 H3=>qe H3 .here rfl (by show 0+2≤2;omega) rfl λh4 H4=>?_
   have H5:HS g h4 (qw b (wc (vj M.K i))::LgC q M.most M.lv::qw v [fv,ov,.ptr q 0,.int .i64 M.need]::qL e 2 M.sz fv ((xu M.sz M.K).flatMap wc)::
    qL 3 1 M.K.length ov (M.K.map λc=>.int .i64 c.1)::R):=H4
   unfold wc at H5;cases hg:zC (i:Int) M.K with
   |some y=>rw[show vj M.K i=(y,true) by unfold vj;rw[hg]]at H5;refine qQ (qV ‹_› .here rfl ?_);refine qX (qQ (qV ‹_› .here rfl ?_));exact qW ⟨rfl,ViewC.I (H5.drop.sub (.cons e_1 (.cons e_1 (.cons e_1 (.refl)))))⟩
   |none=>rw[show vj M.K i=(0,false) by unfold vj;rw[hg]]at H5;refine qQ (qV ‹_› .here rfl ?_);refine qJ (qK (qQ ?_));refine qk H5 (b:=v) e_2 ⟨rfl,rfl⟩ osQ λh9 H9=>qW ⟨rfl,ViewC.I (M:={ M with need:=(i:Int) }) (fv:=fv) (ov:=ov) (q:=q) (e:=e) (H9.sub (.cons .here (.cons e_2 (.cons e_2 (.cons e_1 (.drop (.refl)))))))⟩
 ·rw[iQ hp,iV hp];refine jq (qX ?_);exact qW ⟨rfl,H⟩
theorem qGe {most:Nat} {lv:List LvM} {p v:Int} {n:Nat} (h:∀x∈lv,x.2.length<n):∀x∈(y5 most lv p v).2,x.2.length<n:=by
 cases lv with
 |nil=>exact h
 |cons y r=>
  obtain⟨c,hc⟩:=XO (most:=most) (x:=y) (r:=r) (p:=p) (v:=v);rw[hc];intro x hx;rcases List.mem_cons.1 hx with rfl |hx
  ·exact h y (iK ..)
  ·exact h x (iX _ hx)
theorem qZH {most:Nat} {was:List LvM} {n:Nat} (hw:∀x∈was,x.2.length<n):∀{cs:List Cl} {lv:List LvM},(∀x∈lv,x.2.length<n)→∀x∈(yn most was lv cs).2,x.2.length<n:=by
 intro cs
 induction cs with
 |nil=>intro lv h;exact h
 |cons c cs ih=>
  intro lv h;rw[y7]
  split
  ·exact ih (qGe h)
  ·exact hw
theorem VL {M:VM} {cs:List Cl} (O:OkV M):OkV (jd M cs).2:=by
 unfold jd
 split
 ·exact⟨O.lo,O.hi,(Vs O.lvs O.lvs rfl).1,O.ins,O.un,qZH O.fr O.fr⟩
 ·exact O
theorem XW {n:Nat} (hn:8≤n) {v:Nat} {M:VM} {cs:List Cl} {c:AV} (H:HS g h (ViewC v M::R)) (O:OkV M) (S:Rd g R 2 cs.length c (cs.flatMap jU)) (hc:cs.length<100000) :
  t_w n 122 [.ptr v 0,c] h λr h'=>r=.int .i64 (jd M cs).1∧HS g h' (ViewC v (jd M cs).2::R):=by
 refine t_e2 (S:=S122) rfl omQ λk hk=>?_;unfold S122;try simp only[iZ]
 refine yb (S.sl H.drop) ?_;refine zG (λk s h'=>∃i:Nat,s=(.int .i64 (i:Int),.int .i64 (cs.length:Int),c,c,.ptr v 0,())∧i≤cs.length∧k=cs.length-i∧HS g h' (ViewC v M::R)∧∀j,j<i→∀d,cs[j]? =some d→1≤d.1∧d.1<M.sz)
  ?_ (m:=cs.length) (by show _<1000000000;omega) ⟨0,rfl,by omega,by omega,H,λj hj=>by omega⟩
 rintro k2 ih s h2 hih ⟨i,rfl,h1,rfl,H,hno⟩;dsimp only;refine zo (λhlt=>qX ?_) λhge=>qJ ?_
 ·have hi:i<cs.length:=by omega
  have hci:cs[i]? =some cs[i]:=iW hi;refine xK (l:=jU cs[i]) (S.sl H.drop) hi omQ (Xg hci) ?_;refine qH H rfl λb h3 H3=>qe H3 .here rfl (by show 0+2≤2;omega) rfl λh4 H4=>?_;have H5:HS g h4 (qw b (jU cs[i])::ViewC v M::R):=H4;unfold jU at H5;refine qQ (qV ‹_› .here rfl ?_);refine qY (VQ omQ H5.drop) ?_;rintro _ _ ⟨rfl,rfl⟩;by_cases hin:1≤cs[i].1∧cs[i].1<M.sz
  ·rw[iG hin];refine jV (qJ (qf omQ ?_));refine hih (cs.length-(i+1)) _ _ omQ ⟨i+1,rfl,by omega,rfl,H5.drop,λj hj d hd=>?_⟩;by_cases hj':j<i
   ·exact hno j hj' d hd
   ·obtain rfl:j=i:=by omega
    rw[hci]at hd;cases hd;exact hin
  ·rw[iV hin];refine jq (qX (qv ?_));unfold jd;rw[iQ (λh=>hin (h _ (List.getElem_mem hi)))];exact qW ⟨rfl,H5.drop⟩
 ·have hall:∀d∈cs,1≤d.1∧d.1<M.sz:=by
   intro d hd;obtain⟨j,hj⟩:=List.getElem?_of_mem hd;exact hno j (by have:=(List.getElem?_eq_some_iff.1 hj).1;omega) d hj
  obtain⟨fv,ov,q,e,H⟩:=ViewC.E H;refine qK (qQ (qV ‹_› .here rfl ?_));refine qY (qZ7 omQ (H.sel (P:=LgC q M.most M.lv) e_3) O.lvs (S.more.more.more) hc) ?_;rintro _ h4 ⟨rfl,H4⟩;unfold jd;rw[iJ hall];exact qv (qW ⟨rfl,ViewC.I (M:={ M with lv:=(yn M.most M.lv M.lv cs).2 }) (fv:=fv) (ov:=ov) (q:=q) (e:=e) (H4.sub (.cons e_1 (.cons e_1 (.cons e_1 (.refl)))))⟩)
theorem qZ0 {n:Nat} (hn:4≤n) {v:Nat} {M:VM} (H:HS g h (ViewC v M::R)) (O:OkV M) :
  t_w n 250 [.ptr v 0] h λr h'=>r=.int .i64 (yv M).1∧HS g h' (ViewC v (yv M).2::R):=by
 refine t_e1 (S:=S250) rfl omQ λk hk=>?_;unfold S250;try simp only[iZ]
 obtain⟨fv,ov,q,e,H⟩:=ViewC.E H;refine qK (qQ (qV ‹_› .here rfl ?_));refine qY (qXI omQ (H.sel (P:=LgC q M.most M.lv) e_3) O.lvs) ?_;rintro _ h2 ⟨rfl,H2⟩;exact qW ⟨rfl,ViewC.I (M:=(yv M).2) (fv:=fv) (ov:=ov) (q:=q) (e:=e) (H2.sub (.cons e_1 (.cons e_1 (.cons e_1 (.cons .here (.refl))))))⟩
theorem VG {n:Nat} (hn:2≤n) {v:Nat} {M:VM} (H:HS g h (ViewC v M::R)) (O:OkV M) :
  t_w n 190 [.ptr v 0] h λr h'=>r=.int .i64 (zu M).1∧HS g h' (ViewC v (zu M).2::R):=by
 refine t_e1 (S:=S190) rfl omQ λk hk=>?_;unfold S190;try simp only[iZ]
 obtain⟨fv,ov,q,e,H⟩:=ViewC.E H;refine qK (qQ (qV ‹_› .here rfl ?_));refine qY (Vb omQ (H.sel (P:=LgC q M.most M.lv) e_3) O.lvs) ?_;rintro _ h2 ⟨rfl,H2⟩;exact qW ⟨rfl,ViewC.I (M:=(zu M).2) (fv:=fv) (ov:=ov) (q:=q) (e:=e) (H2.sub (.cons e_1 (.cons e_1 (.cons e_1 (.cons .here (.refl))))))⟩
theorem Mh {n:Nat} (hn:7≤n) {v:Nat} {M:VM} (H:HS g h (ViewC v M::R)) (O:OkV M) :
  t_w n 188 [.ptr v 0] h λr h'=>r=.int .i64 (yT M).1∧HS g h' (ViewC v (yT M).2::R):=by
 refine t_e1 (S:=S188) rfl omQ λk hk=>?_;unfold S188;try simp only[iZ]
 obtain⟨fv,ov,q,e,H⟩:=ViewC.E H;refine qK (qQ (qV ‹_› .here rfl ?_));refine qY (qX5 omQ (H.sel (P:=LgC q M.most M.lv) e_3) O.lvs λx hx=>Nat.lt_trans (O.fr x hx) omQ) ?_;rintro _ h2 ⟨rfl,H2⟩;exact qW ⟨rfl,ViewC.I (M:=(yT M).2) (fv:=fv) (ov:=ov) (q:=q) (e:=e) (H2.sub (.cons e_1 (.cons e_1 (.cons e_1 (.cons .here (.refl))))))⟩
theorem qZl {n:Nat} (hn:3≤n) {v:Nat} {M:VM} {b:Int} (H:HS g h (ViewC v M::R)) (O:OkV M) :
  t_w n 249 [.ptr v 0,.int .i64 b] h λ_ h'=>HS g h' (ViewC v (freeV M b)::R):=by
 refine t_e2 (S:=S249) rfl omQ λk hk=>?_;unfold S249;try simp only[iZ]
 obtain⟨fv,ov,q,e,H⟩:=ViewC.E H;refine qK (qQ (qV ‹_› .here rfl ?_));refine qY (qJU omQ (H.sel (P:=LgC q M.most M.lv) e_3) O.lvs λx hx=>Nat.lt_trans (O.fr x hx) omQ) ?_;intro _ h2 H2;exact qW (ViewC.I (M:=freeV M b) (fv:=fv) (ov:=ov) (q:=q) (e:=e) (H2.sub (.cons e_1 (.cons e_1 (.cons e_1 (.cons .here (.refl)))))))
theorem Gi {n:Nat} (hn:1≤n) {v:Nat} {M:VM} (H:HS g h (ViewC v M::R)) :
  t_w n 57 [.ptr v 0] h λr h'=>r=.int .i64 M.need∧h'=h:=by
 refine t_e1 (S:=S57) rfl omQ λk hk=>?_;unfold S57;try simp only[iZ]
 obtain⟨fv,ov,q,e,H⟩:=ViewC.E H;refine qK (qQ (qV ‹_› .here rfl ?_));exact qW ⟨rfl,rfl⟩
theorem Zm {n:Nat} (hn:10≤n) {v:Nat} {M:VM} (H:HS g h (ViewC v M::R)) (O:OkV M) :
  t_w n 59 [.ptr v 0] h λr h'=>HS g h' (qL 61 2 (jO M.lv).length r ((jO M.lv).flatMap jU)::ViewC v M::R):=by
 refine t_e1 (S:=S59) rfl omQ λk hk=>?_;unfold S59;try simp only[iZ]
 obtain⟨fv,ov,q,e,H⟩:=ViewC.E H;refine qK (qQ (qV ‹_› .here rfl ?_));refine qY (ZF omQ (H.sel (P:=LgC q M.most M.lv) e_3) O.lvs) ?_;intro r h2 H2;refine qW ?_;have H3:=ViewC.I (v:=v) (M:=M) (fv:=fv) (ov:=ov) (q:=q) (e:=e) (R:=qL 61 2 (jO M.lv).length r ((jO M.lv).flatMap jU)::R) (H2.sub (.cons e_2 (.cons e_2 (.cons e_2 (.cons e_1 (.refl))))));exact H3.sub (.cons e_1 (.refl))
def Ui (zs:List Int) (i:Nat):Int:=zs[i]?.getD 0
def kW (zs:List Int):List Cl:=(List.range (szZ zs.length-1)).map λi=>(((i+1:Nat):Int),Ui zs (i+1))
def qjF (zs:List Int) (most:Int):VM:=⟨szZ zs.length,kW zs,(max 0 (min most 96)).toNat,[([],[])],0⟩
end
section
abbrev qb:Type:=Int×Int×Int×Int×Int
def js (x:qb):List AV:=[.int .i64 x.1,.int .i64 x.2.1,.int .i64 x.2.2.1,.int .i64 x.2.2.2.1,.int .u64 x.2.2.2.2]
theorem Vh (l:List qb):jG (l.flatMap js)=true:=by unfold jG;rw[List.all_eq_true];intro v hv;obtain⟨c,_,hc⟩:=List.mem_flatMap.1 hv;simp[js]at hc;rcases hc with rfl |rfl |rfl |rfl |rfl<;>rfl
def jH (op:Int):(Int×Int)×(Int×Int)×(Int×Int) :=
 if op=1∨op=11∨op=21 then((0,7),(0,0),(0,0))
 else if op=2∨op=10 then((0,7),(0,7),(0,0))
 else if op=3∨op=4∨op=5∨op=6∨op=7 then((0,7),(0,7),(0,7))
 else if op=8∨op=9 then((0,7),(0,7),(0,15))
 else if op=12 then((0,0),(0,0),(0,40))
 else if op=13 then((0,7),(0,0),(0,40))
 else if op=23 then((1,12),(0,7),(0,6))
 else((0,0),(0,0),(0,0))
def wU (f:Int×Int) (n:Int):Bool:=decide (f.1≤n∧n≤f.2)
def kb (x:qb):Bool:=decide (1≤x.1∧x.1≤23)&&wU (jH x.1).1 x.2.1&&wU (jH x.1).2.1 x.2.2.1&&wU (jH x.1).2.2 x.2.2.2.1&&decide (x.2.2.2.2=0∨x.1=1)
def zl (op:Int):Bool:=decide (op=14∨op=17)
def ja (op:Int):Int:=if op=15 then 14 else if op=18 then 17 else if op=19 then 18 else 0
def jZ (st:List Int):Int:=st.getLast?.getD (-1)
def qP (l:List qb) (i:Int):qb:=(l[i.toNat]?).getD (0,0,0,0,0)
def opM (l:List qb) (st:List Int):Int:=if st=[]then 0 else(qP l (jZ st)).1
def zE (l:List qb) (st:List Int) (x:qb):Int :=
 if kb x=false then 8
 else if 0<ja x.1∧opM l st≠ja x.1 then 12
 else if x.1=16∧opM l st≠14 then 12
 else if zl x.1=true∧5≤st.length then 9
 else 0
def jQ (st:List Int) (i op:Int):List Int :=
 if zl op=true∨op=18 then(if 0<ja op then st.dropLast else st)++[i]else(if 0<ja op then st.dropLast else st)
def goM (l:List qb):List qb→Nat→List Int→(Int×Int) ⊕ List Int
 |[],_,st=>.inr st
 |x::r,i,st=>if zE l st x=0 then goM l r (i+1) (jQ st i x.1)else .inl (i,zE l st x)
def vY:List qb→Nat→List Int→List Int
 |[],_,_=>[]
 |x::r,i,st=>jZ st::vY r (i+1) (jQ st i x.1)
def qD (a:List Int) (i:Int):Int:=(a[i.toNat]?).getD 0
def ku (l:List qb) (a:List Int) (i:Nat) (x:qb):Prop :=
 (x.1=12∨x.1=13)∧((l.length:Int)<x.2.2.2.1∨(x.2.2.2.1=l.length∧qD a i≠ -1)∨(x.2.2.2.1<l.length∧qD a x.2.2.2.1≠qD a i))
instance {l:List qb} {a:List Int} {i:Nat} {x:qb}:Decidable (ku l a i x):=by unfold ku;infer_instance
def Q9 (l:List qb) (a:List Int):List qb→Nat→Int×Int
 |[],_=>(0,0)
 |x::r,i=>if ku l a i x then((i:Int),2)else Q9 l a r (i+1)
def yC (l:List qb):Int×Int :=
 if l.length=0∨40<l.length then(0,4)
 else match goM l l 0 []with
  | .inl r=>r
  | .inr st=>if st=[]then Q9 l (vY l 0 []) l 0 else(jZ st,12)
def StOk (i:Nat) (st:List Int):Prop:=∀y∈st,0≤y∧y<(i:Int)
theorem StOk.nil {i:Nat}:StOk i []:=λ_ h=>by cases h
theorem StOk.dropLast {i:Nat} {st:List Int} (h:StOk i st):StOk i st.dropLast:=λy hy=>h y ((List.dropLast_sublist st).subset hy)
theorem StOk.behind {i:Nat} {st:List Int} {op:Int} (h:StOk i st):StOk (i+1) (jQ st i op):=by
 have h1:∀s,StOk i s→StOk (i+1) s:=λs hs y hy=>by have:=hs y hy;omega
 have h2:∀s,StOk i s→StOk (i+1) (s++[(i:Int)]):=by
  intro s hs y hy;rcases List.mem_append.1 hy with hy |hy
  ·exact h1 s hs y hy
  ·rw[List.mem_singleton]at hy;omega
 unfold jQ
 repeat' split
 ·exact h2 _ h.dropLast
 ·exact h2 _ h
 ·exact h1 _ h.dropLast
 ·exact h1 _ h
theorem StOk.inmost {i:Nat} {st:List Int} (h:StOk i st) (hn:st≠[]):0≤jZ st∧jZ st<(i:Int):=by refine h _ ?_;unfold jZ;rw[List.getLast?_eq_some_getLast hn];exact List.getLast_mem hn
theorem Yc (st:List Int) (i op:Int):(jQ st i op).length≤st.length+1:=by
 unfold jQ
 repeat' split
 all_goals simp
 all_goals omega
theorem Y5:jZ []= -1:=rfl
theorem xj {l:List qb} {st:List Int} {x:qb} (h:zE l st x=0):kb x=true∧(0<ja x.1∨x.1=16→st≠[])∧(zl x.1=true→st.length<5):=by
 unfold zE at h
 split at h
 ·cases h
 ·rename_i h1
  split at h
  ·cases h
  ·rename_i h2
   split at h
   ·cases h
   ·rename_i h3
    split at h
    ·cases h
    ·rename_i h4
     refine⟨by simpa using h1,?_,λhb=>by
      by_cases h5:5≤st.length
      ·exact absurd ⟨hb,h5⟩ h4
      ·omega⟩
     rintro ho rfl;have h0:opM l []=0:=rfl;rw[h0]at h2 h3;rcases ho with ho |ho
     ·exact h2 ⟨ho,by omega⟩
     ·exact h3 ⟨ho,by omega⟩
theorem Jf {l r:List qb} {x:qb} {i:Nat} {st:List Int}:goM l (x::r) i st=if zE l st x=0 then goM l r (i+1) (jQ st i x.1)else .inl (i,zE l st x):=rfl
theorem YI:∀{r:List qb} {i:Nat} {st:List Int},(vY r i st).length=r.length:=by
 intro r
 induction r with
 |nil=>intro i st;rfl
 |cons x r ih=>intro i st;show(vY r (i+1) _).length+1=_;rw[ih];rfl
theorem qZf:∀{r:List qb} {i j:Nat} {st:List Int},j<r.length→∃s,(vY r i st)[j]? =some (jZ s)∧(∀{l:List qb} {st':List Int},goM l r i st=.inr st'→StOk i st→StOk (i+j) s∧∀x,r[j]? =some x→zE l s x=0):=by
 intro r
 induction r with
 |nil=>intro i j st h;simp at h
 |cons x r ih=>
  intro i j st h;cases j with
  |zero=>
   refine⟨st,rfl,λ{l st'} hg hs=>⟨hs,?_⟩⟩;intro y hy;simp at hy;subst hy;rw[Jf]at hg
   split at hg
   ·assumption
   ·cases hg
  |succ j=>
   obtain⟨s,h1,h2⟩:=ih (i:=i+1) (j:=j) (st:=jQ st i x.1) (by simp at h;omega);refine⟨s,h1,λ{l st'} hg hs=>?_⟩;rw[Jf]at hg
   split at hg
   ·have:=h2 hg hs.behind;rw[show i+1+j=i+(j+1) by omega]at this;exact this
   ·cases hg
end
section
variable {g h:AH} {L R:List SP}
theorem wL {D:Nat→Prop} {sz n:Nat} {v:AV} {xs:List AV} (S:Sl D h sz n v xs):One v:=by cases S<;>exact⟨rfl,rfl⟩
theorem yi {v:AV} (o:One v):jG [v]=true:=by simp[jG,o.2]
theorem zU {g' ha:AH} {b off n nx:Nat} {xs ys l:List AV} {L2 R2:List SP} {K0:Go.Ae.R} {Q:AV→AH→Prop} (H:HS g h L) (s:Sel L (qw b xs) R) (hx:(xs.drop off).take n=l) (H2:HS g' ha L2) (s2:Sel L2 (qw b ys) R2) (hx2:(ys.drop off).take n=l) (hl:l.length=n) (h0:0<n) (hlt:b<nx)
  (w:wp K0 Q):wp (XM (.ptr b off) (some n) (.agg l) h ha nx K0) Q:=by
 obtain⟨e,A⟩:=H.obj s;obtain⟨e2,A2⟩:=H2.obj s2;exact qVp hl h0 (λi hi=>by rw[A.at,← hx,List.getElem?_take_of_lt hi,List.getElem?_drop]) (λi hi=>by rw[A2.at,← hx2,List.getElem?_take_of_lt hi,List.getElem?_drop]) hlt w
theorem ML {u x:Bool} {r:AV} {K:AV→Go.Ae.R} {Q:AV→AH→Prop} (hr:u=true→r=.bool x) (w:wp (K (.bool (u&&x))) Q):wp (xh (.bool u) r (.bool false) K) Q:=by
 cases u
 ·exact w
 ·rw[hr rfl];exact w
end
section
variable {g h:AH} {L R:List SP}
theorem qYH {s:List UInt8} {K:AV→Go.Ae.R} {Q:AV→AH→Prop} {t:Bool} (ht:Vo .neq s []=some (.bool t)) (w:wp (K (.bool t)) Q):wp (Uf .neq (.str s) (.str []) K) Q:=by show wp (ob (Vo .neq s []) K) Q;rw[ht];exact w
theorem XK {n:Nat} (hn:1≤n) {x:Int}:t_w n 87 [.int .i64 x] h λv h'=>v=.int .i64 (ja x)∧h'=h:=by
 refine t_e1 (S:=S87) rfl omQ λk hk=>?_;unfold S87;try simp only[iZ]
 repeat' (first |with_reducible refine qX ?_ |with_reducible refine qJ ?_ |(with_reducible refine qU ?_;try dsimp only) |(with_reducible refine qr ?_;try dsimp only) |(with_reducible refine qT ?_;try dsimp only) |(with_reducible refine qd ?_;try dsimp only) |(with_reducible refine zk ?_;try dsimp only) |with_reducible refine qE ?_ |with_reducible refine qI ?_ |(with_reducible refine qG ?_;try dsimp only) |with_reducible refine qv ?_ |with_reducible refine jV ?_ |with_reducible refine jq ?_ |with_reducible refine qf omQ ?_ |with_reducible refine zZ omQ ?_ |with_reducible refine yj omQ ?_ |with_reducible refine yt omQ ?_ |with_reducible refine zB ?_ |with_reducible refine zP ?_ |with_reducible refine zo (λhc=>?_) (λhc=>?_) |with_reducible refine gJ (λhc=>?_) (λhc=>?_) |with_reducible refine gd (λhc=>?_) (λhc=>?_) |with_reducible refine xS (λhc=>?_) (λhc=>?_) |with_reducible refine xp (λhc=>?_) (λhc=>?_) |with_reducible refine yW (λhc=>?_) (λhc=>?_) |with_reducible refine vC (λhc=>?_) (λhc=>?_))
 all_goals refine qW ⟨?_,rfl⟩
 all_goals unfold ja
 all_goals congr 1
 all_goals (repeat' split)
 all_goals omega
theorem Ya {n:Nat} (hn:1≤n) {x:Int}:t_w n 115 [.int .i64 x] h λv h'=>v=.bool (zl x)∧h'=h:=by
 refine t_e1 (S:=S115) rfl omQ λk hk=>?_;unfold S115;try simp only[iZ]
 unfold zl;by_cases h1:x=14
 ·refine qj omQ ?_;refine qG ?_;(try dsimp only);refine qr ?_;(try dsimp only);refine qE ?_
  exact qW ⟨by rw[iG (.inl h1)],rfl⟩
 ·refine qq omQ ?_;refine qG ?_;(try dsimp only);refine qd ?_;(try dsimp only)
  refine Qq (qI ?_);exact qW ⟨by congr 1;exact decide_eq_decide.2 ⟨.inr,λh=>h.resolve_left h1⟩,rfl⟩
theorem qK5 {n:Nat} (hn:1≤n) {x:Int}:t_w n 116 [.int .i64 x] h λv h'=>v=.bool (decide (x=12∨x=13))∧h'=h:=by
 refine t_e1 (S:=S116) rfl omQ λk hk=>?_;unfold S116;try simp only[iZ]
 by_cases h1:x=12
 ·refine qj omQ ?_;refine qG ?_;(try dsimp only);refine qr ?_;(try dsimp only);refine qE ?_
  exact qW ⟨by rw[iG (.inl h1)],rfl⟩
 ·refine qq omQ ?_;refine qG ?_;(try dsimp only);refine qd ?_;(try dsimp only)
  refine Qq (qI ?_);exact qW ⟨by congr 1;exact decide_eq_decide.2 ⟨.inr,λh=>h.resolve_left h1⟩,rfl⟩
theorem Jw {D:Nat→Prop} {n:Nat} (hn:1≤n) {st:List Int} {v:AV} (S:Sl D h 1 st.length v (st.map (.int .i64))) (hl:st.length<1000) :
  t_w n 84 [v] h λr h'=>r=.int .i64 (jZ st)∧h'=h:=by
 refine t_e1 (S:=S84) rfl omQ λk hk=>?_;unfold S84;try simp only[iZ]
 refine yb S ?_;by_cases h0:st.length=0
 ·obtain rfl:=iA h0;refine qj omQ ?_;refine qX ?_;exact qW ⟨rfl,rfl⟩
 ·refine qq omQ ?_;refine qJ (yb S ?_);refine zZ omQ ?_;rw[show(st.length:Int)-((1:Nat):Int)=((st.length-1:Nat):Int) by omega];have hne:st≠[]:=by rintro rfl;exact h0 rfl
  refine jf S (x:=.int .i64 (jZ st)) ?_ (qW ⟨rfl,rfl⟩);unfold jZ;rw[List.getElem?_map,← List.getLast?_eq_getElem?,List.getLast?_eq_some_getLast hne];rfl
theorem Ye {n:Nat} (hn:1≤n) {f:Int×Int} {x:Int} (H:HS g h R):t_w n 142 [.agg [.int .i64 f.1,.int .i64 f.2],.int .i64 x] h λv h'=>v=.bool (wU f x)∧HS g h' R:=by
 refine t_e2 (S:=S142) rfl omQ λk hk=>?_;unfold S142;try simp only[iZ]
 refine qH H rfl λb h1 H1=>?_;unfold wU;by_cases c1:f.1≤x
 ·refine qQ (qV ‹_› .here rfl ?_);refine jh omQ ?_;refine qG ?_;(try dsimp only);refine qU ?_;(try dsimp only);refine qQ (qV ‹_› .here rfl ?_)
  refine Uv (qE ?_);exact qW ⟨by congr 1;exact decide_eq_decide.2 ⟨λh=>⟨c1,h⟩,λh=>h.2⟩,H1.drop⟩
 ·refine qQ (qV ‹_› .here rfl ?_);refine ju omQ ?_;refine qG ?_;(try dsimp only);refine qT ?_;(try dsimp only);refine qI ?_
  exact qW ⟨by rw[iV (λh=>c1 h.1)],H1.drop⟩
def yU (f:Int×Int):List AV:=[.int .i64 f.1,.int .i64 f.2]
theorem M9 {n:Nat} (hn:1≤n) {x:Int} (H:HS g h R):t_w n 140 [.int .i64 x] h λv h'=>v=.tup [.agg (yU (jH x).1),.agg (yU (jH x).2.1),.agg (yU (jH x).2.2)]∧HS g h' R:=by
 refine t_e1 (S:=S140) rfl omQ λk hk=>?_;unfold S140;try simp only[iZ]
 refine qH H rfl λb0 h1 H1=>?_;refine qH H1 rfl λb2 h2 H2=>?_;refine qH H2 rfl λb4 h3 H3=>?_;refine qF (l:=[.int .i64 ((0:Nat):Int),.int .i64 ((7:Nat):Int)]) rfl ?_;refine qH H3 rfl λb7 h4 H4=>?_;refine qe H4 (b:=b7) .here rfl osQ rfl λh5 H5=>?_;have H5:HS g h5 (qw b7 (yU (0,7))::qw b4 (yU (0,0))::qw b2 (yU (0,0))::qw b0 (yU (0,0))::R):=H5;clear H H1 H2 H3 H4;refine jR [] (λs h'=>s=(.ptr b4 0,.ptr b2 0,.ptr b0 0,())∧HS g h' (qw b0 (yU (jH x).1)::qw b2 (yU (jH x).2.1)::qw b4 (yU (jH x).2.2)::R)) ?_ ?_
 ·intro j hj;by_cases ha:x=1∨x=11∨x=21
  ·have e:jH x=((0,7),(0,0),(0,0)):=by unfold jH;rw[iJ ha]
   rw[e]at hj;rcases ha with rfl |rfl |rfl
   all_goals (first |with_reducible (refine qG ?_;(try dsimp only);refine qq omQ ?_;refine qJ ?_;refine qq omQ ?_;refine qJ ?_;refine qj omQ ?_;refine qX ?_) |with_reducible (refine qG ?_;(try dsimp only);refine qq omQ ?_;refine qJ ?_;refine qj omQ ?_;refine qX ?_;refine qX ?_) |with_reducible (refine qG ?_;(try dsimp only);refine qj omQ ?_;refine qX ?_;refine qX ?_))
   all_goals refine qA H5 (b:=b7) (off:=0) .here rfl omQ rfl ?_
   all_goals refine qe H5 (b:=b0) e_3 rfl (by simp[yU]) rfl λh6 H6=>?_
   all_goals exact hj _ _ ⟨rfl,H6.sub (.cons .here (.cons e_2 (.cons e_1 (.drop .refl))))⟩
  by_cases hb:x=2∨x=10
  ·have e:jH x=((0,7),(0,7),(0,0)):=by unfold jH;rw[iQ ha,iJ hb]
   rw[e]at hj;rcases hb with rfl |rfl
   all_goals (first |with_reducible (refine qG ?_;(try dsimp only);refine qq omQ ?_;refine qJ ?_;refine qq omQ ?_;refine qJ ?_;refine qq omQ ?_;refine qJ ?_;refine qG ?_;(try dsimp only);refine qq omQ ?_;refine qJ ?_;refine qj omQ ?_;refine qX ?_;refine qG ?_;(try dsimp only)) |with_reducible (refine qG ?_;(try dsimp only);refine qq omQ ?_;refine qJ ?_;refine qq omQ ?_;refine qJ ?_;refine qq omQ ?_;refine qJ ?_;refine qG ?_;(try dsimp only);refine qj omQ ?_;refine qX ?_;refine qX ?_;refine qG ?_;(try dsimp only)))
   all_goals refine qA H5 (b:=b7) (off:=0) .here rfl omQ rfl ?_
   all_goals refine qA H5 (b:=b7) (off:=0) .here rfl omQ rfl ?_
   all_goals refine qe H5 (b:=b0) e_3 rfl (by simp[yU]) rfl λh6 H6=>?_
   all_goals refine qe H6 (b:=b2) e_3 rfl (by simp[yU]) rfl λh7 H7=>?_
   all_goals refine zU H5 (b:=b7) .here rfl H6 e_1 rfl rfl omQ (HS.lt H5 .here) ?_
   all_goals exact hj _ _ ⟨rfl,H7.sub (.cons e_1 (.cons .here (.cons e_1 (.drop .refl))))⟩
  by_cases hc:x=3∨x=4∨x=5∨x=6∨x=7
  ·have e:jH x=((0,7),(0,7),(0,7)):=by unfold jH;rw[iQ ha,iQ hb,iJ hc]
   rw[e]at hj;rcases hc with rfl |rfl |rfl |rfl |rfl
   all_goals (first |with_reducible (refine qG ?_;(try dsimp only);refine qq omQ ?_;refine qJ ?_;refine qq omQ ?_;refine qJ ?_;refine qq omQ ?_;refine qJ ?_;refine qG ?_;(try dsimp only);refine qq omQ ?_;refine qJ ?_;refine qq omQ ?_;refine qJ ?_;refine qG ?_;(try dsimp only);refine qq omQ ?_;refine qJ ?_;refine qq omQ ?_;refine qJ ?_;refine qq omQ ?_;refine qJ ?_;refine qq omQ ?_;refine qJ ?_;refine qj omQ ?_;refine qX ?_;refine qG ?_;(try dsimp only)) |with_reducible (refine qG ?_;(try dsimp only);refine qq omQ ?_;refine qJ ?_;refine qq omQ ?_;refine qJ ?_;refine qq omQ ?_;refine qJ ?_;refine qG ?_;(try dsimp only);refine qq omQ ?_;refine qJ ?_;refine qq omQ ?_;refine qJ ?_;refine qG ?_;(try dsimp only);refine qq omQ ?_;refine qJ ?_;refine qq omQ ?_;refine qJ ?_;refine qq omQ ?_;refine qJ ?_;refine qj omQ ?_;refine qX ?_;refine qX ?_;refine qG ?_;(try dsimp only)) |with_reducible (refine qG ?_;(try dsimp only);refine qq omQ ?_;refine qJ ?_;refine qq omQ ?_;refine qJ ?_;refine qq omQ ?_;refine qJ ?_;refine qG ?_;(try dsimp only);refine qq omQ ?_;refine qJ ?_;refine qq omQ ?_;refine qJ ?_;refine qG ?_;(try dsimp only);refine qq omQ ?_;refine qJ ?_;refine qq omQ ?_;refine qJ ?_;refine qj omQ ?_;refine qX ?_;refine qX ?_;refine qG ?_;(try dsimp only)) |with_reducible (refine qG ?_;(try dsimp only);refine qq omQ ?_;refine qJ ?_;refine qq omQ ?_;refine qJ ?_;refine qq omQ ?_;refine qJ ?_;refine qG ?_;(try dsimp only);refine qq omQ ?_;refine qJ ?_;refine qq omQ ?_;refine qJ ?_;refine qG ?_;(try dsimp only);refine qq omQ ?_;refine qJ ?_;refine qj omQ ?_;refine qX ?_;refine qX ?_;refine qG ?_;(try dsimp only)) |with_reducible (refine qG ?_;(try dsimp only);refine qq omQ ?_;refine qJ ?_;refine qq omQ ?_;refine qJ ?_;refine qq omQ ?_;refine qJ ?_;refine qG ?_;(try dsimp only);refine qq omQ ?_;refine qJ ?_;refine qq omQ ?_;refine qJ ?_;refine qG ?_;(try dsimp only);refine qj omQ ?_;refine qX ?_;refine qX ?_;refine qG ?_;(try dsimp only)))
   all_goals refine qA H5 (b:=b7) (off:=0) .here rfl omQ rfl ?_
   all_goals refine qA H5 (b:=b7) (off:=0) .here rfl omQ rfl ?_
   all_goals refine qA H5 (b:=b7) (off:=0) .here rfl omQ rfl ?_
   all_goals refine qe H5 (b:=b0) e_3 rfl (by simp[yU]) rfl λh6 H6=>?_
   all_goals refine qe H6 (b:=b2) e_3 rfl (by simp[yU]) rfl λh7 H7=>?_
   all_goals refine qe H7 (b:=b4) e_3 rfl (by simp[yU]) rfl λh8 H8=>?_
   all_goals refine zU H6 (b:=b7) e_1 rfl H7 e_2 rfl rfl omQ (HS.lt H5 .here) ?_
   all_goals refine zU H5 (b:=b7) .here rfl H6 e_1 rfl rfl omQ (HS.lt H5 .here) ?_
   all_goals refine zU H5 (b:=b7) .here rfl H6 e_1 rfl rfl omQ (HS.lt H5 .here) ?_
   all_goals exact hj _ _ ⟨rfl,H8.sub (.cons e_2 (.cons e_1 (.cons .here (.drop .refl))))⟩
  by_cases hd:x=8∨x=9
  ·have e:jH x=((0,7),(0,7),(0,15)):=by unfold jH;rw[iQ ha,iQ hb,iQ hc,iJ hd]
   rw[e]at hj;rcases hd with rfl |rfl
   all_goals (first |with_reducible (refine qG ?_;(try dsimp only);refine qq omQ ?_;refine qJ ?_;refine qq omQ ?_;refine qJ ?_;refine qq omQ ?_;refine qJ ?_;refine qG ?_;(try dsimp only);refine qq omQ ?_;refine qJ ?_;refine qq omQ ?_;refine qJ ?_;refine qG ?_;(try dsimp only);refine qq omQ ?_;refine qJ ?_;refine qq omQ ?_;refine qJ ?_;refine qq omQ ?_;refine qJ ?_;refine qq omQ ?_;refine qJ ?_;refine qq omQ ?_;refine qJ ?_;refine qG ?_;(try dsimp only);refine qq omQ ?_;refine qJ ?_;refine qj omQ ?_;refine qX ?_;refine qG ?_;(try dsimp only)) |with_reducible (refine qG ?_;(try dsimp only);refine qq omQ ?_;refine qJ ?_;refine qq omQ ?_;refine qJ ?_;refine qq omQ ?_;refine qJ ?_;refine qG ?_;(try dsimp only);refine qq omQ ?_;refine qJ ?_;refine qq omQ ?_;refine qJ ?_;refine qG ?_;(try dsimp only);refine qq omQ ?_;refine qJ ?_;refine qq omQ ?_;refine qJ ?_;refine qq omQ ?_;refine qJ ?_;refine qq omQ ?_;refine qJ ?_;refine qq omQ ?_;refine qJ ?_;refine qG ?_;(try dsimp only);refine qj omQ ?_;refine qX ?_;refine qX ?_;refine qG ?_;(try dsimp only)))
   all_goals refine qA H5 (b:=b7) (off:=0) .here rfl omQ rfl ?_
   all_goals refine qA H5 (b:=b7) (off:=0) .here rfl omQ rfl ?_
   all_goals refine qF (l:=yU (0,15)) rfl ?_
   all_goals refine qe H5 (b:=b0) e_3 rfl (by simp[yU]) rfl λh6 H6=>?_
   all_goals refine qe H6 (b:=b2) e_3 rfl (by simp[yU]) rfl λh7 H7=>?_
   all_goals refine qe H7 (b:=b4) e_3 rfl (by simp[yU]) rfl λh8 H8=>?_
   all_goals refine zU H5 (b:=b7) .here rfl H6 e_1 rfl rfl omQ (HS.lt H5 .here) ?_
   all_goals exact hj _ _ ⟨rfl,H8.sub (.cons e_2 (.cons e_1 (.cons .here (.drop .refl))))⟩
  by_cases he:x=12
  ·have e:jH x=((0,0),(0,0),(0,40)):=by unfold jH;rw[iQ ha,iQ hb,iQ hc,iQ hd,iJ he]
   rw[e]at hj;subst he;refine qG ?_;(try dsimp only);refine qq omQ ?_;refine qJ (qq omQ ?_);refine qJ (qq omQ ?_);refine qJ (qG ?_);(try dsimp only);refine qq omQ ?_;refine qJ (qq omQ ?_);refine qJ (qG ?_);(try dsimp only);refine qq omQ ?_;refine qJ (qq omQ ?_);refine qJ (qq omQ ?_);refine qJ (qq omQ ?_);refine qJ (qq omQ ?_);refine qJ (qG ?_);(try dsimp only);refine qq omQ ?_;refine qJ (qq omQ ?_);refine qJ (qj omQ ?_);refine qX (qF rfl ?_)
   refine qe H5 (b:=b4) e_1 rfl (by simp[yU]) rfl λh6 H6=>?_;exact hj _ _ ⟨rfl,H6.sub (.cons e_3 (.cons e_2 (.cons .here (.drop .refl))))⟩
  by_cases hf:x=13
  ·have e:jH x=((0,7),(0,0),(0,40)):=by unfold jH;rw[iQ ha,iQ hb,iQ hc,iQ hd,iQ he,iJ hf]
   rw[e]at hj;subst hf;refine qG ?_;(try dsimp only);refine qq omQ ?_;refine qJ (qq omQ ?_);refine qJ (qq omQ ?_);refine qJ (qG ?_);(try dsimp only);refine qq omQ ?_;refine qJ (qq omQ ?_);refine qJ (qG ?_);(try dsimp only);refine qq omQ ?_;refine qJ (qq omQ ?_);refine qJ (qq omQ ?_);refine qJ (qq omQ ?_);refine qJ (qq omQ ?_);refine qJ (qG ?_);(try dsimp only);refine qq omQ ?_;refine qJ (qq omQ ?_);refine qJ (qq omQ ?_);refine qJ (qj omQ ?_);refine qX ?_
   refine qA H5 (b:=b7) (off:=0) .here rfl omQ rfl ?_;refine qF (l:=yU (0,40)) rfl ?_;refine qe H5 (b:=b0) e_3 rfl (by simp[yU]) rfl λh6 H6=>?_;refine qe H6 (b:=b4) e_2 rfl (by simp[yU]) rfl λh7 H7=>?_;exact hj _ _ ⟨rfl,H7.sub (.cons e_1 (.cons e_2 (.cons .here (.drop .refl))))⟩
  by_cases hg:x=23
  ·have e:jH x=((1,12),(0,7),(0,6)):=by unfold jH;rw[iQ ha,iQ hb,iQ hc,iQ hd,iQ he,iQ hf,iJ hg]
   rw[e]at hj;subst hg;refine qG ?_;(try dsimp only);refine qq omQ ?_;refine qJ (qq omQ ?_);refine qJ (qq omQ ?_);refine qJ (qG ?_);(try dsimp only);refine qq omQ ?_;refine qJ (qq omQ ?_);refine qJ (qG ?_);(try dsimp only);refine qq omQ ?_;refine qJ (qq omQ ?_);refine qJ (qq omQ ?_);refine qJ (qq omQ ?_);refine qJ (qq omQ ?_);refine qJ (qG ?_);(try dsimp only);refine qq omQ ?_;refine qJ (qq omQ ?_);refine qJ (qq omQ ?_);refine qJ (qq omQ ?_);refine qJ (qj omQ ?_);refine qX (qF rfl ?_);refine qF rfl ?_;refine qF rfl ?_
   refine qe H5 (b:=b0) e_3 rfl (by simp[yU]) rfl λh6 H6=>?_;refine qe H6 (b:=b2) e_3 rfl (by simp[yU]) rfl λh7 H7=>?_;refine qe H7 (b:=b4) e_3 rfl (by simp[yU]) rfl λh8 H8=>?_;exact hj _ _ ⟨rfl,H8.sub (.cons e_2 (.cons e_1 (.cons .here (.drop .refl))))⟩
  ·have e:jH x=((0,0),(0,0),(0,0)):=by unfold jH;rw[iQ ha,iQ hb,iQ hc,iQ hd,iQ he,iQ hf,iQ hg]
   rw[e]at hj ⊢;refine qG ?_;(try dsimp only);refine qq omQ ?_;refine qJ (qq omQ ?_);refine qJ (qq omQ ?_);refine qJ (qG ?_);(try dsimp only);refine qq omQ ?_;refine qJ (qq omQ ?_);refine qJ (qG ?_);(try dsimp only);refine qq omQ ?_;refine qJ (qq omQ ?_);refine qJ (qq omQ ?_);refine qJ (qq omQ ?_);refine qJ (qq omQ ?_);refine qJ (qG ?_);(try dsimp only);refine qq omQ ?_;refine qJ (qq omQ ?_);refine qJ (qq omQ ?_);refine qJ (qq omQ ?_);refine qJ (qq omQ ?_);refine qJ ?_
   exact hj _ _ ⟨rfl,H5.sub (.cons e_3 (.cons e_2 (.cons e_1 (.drop .refl))))⟩
 ·rintro s h6 ⟨rfl,H6⟩;dsimp only;generalize jH x=F at*;refine qG (qA H6 (b:=b0) (off:=0) .here rfl omQ rfl ?_);refine qA H6 (b:=b2) (off:=0) e_1 rfl omQ rfl ?_;refine qA H6 (b:=b4) (off:=0) e_2 rfl omQ rfl ?_;refine qe H6 (b:=b0) .here rfl (by simp[yU]) rfl λh7 H7=>?_;refine qe H7 (b:=b2) e_1 rfl (by simp[yU]) rfl λh8 H8=>?_;refine qe H8 (b:=b4) e_2 rfl (by simp[yU]) rfl λh9 H9=>?_;refine zU H7 (b:=b4) e_2 rfl H8 e_2 rfl rfl omQ (HS.lt H6 e_2) ?_;refine zU H6 (b:=b4) e_2 rfl H7 e_2 rfl rfl omQ (HS.lt H6 e_2) ?_;refine zU H6 (b:=b2) e_1 rfl H7 e_1 rfl rfl omQ (HS.lt H6 e_1) ?_;refine qv (qA H9 (b:=b0) (off:=0) e_2 rfl omQ rfl ?_);refine qA H9 (b:=b2) (off:=0) e_1 rfl omQ rfl ?_;refine qA H9 (b:=b4) (off:=0) .here rfl omQ rfl ?_;exact qW ⟨rfl,H9.drop.drop.drop⟩
def nameL:List (List UInt8):=[[],[115,101,116],[109,111,118,101],[97,100,100],[115,117,98],[109,117,108],[108,101,115,115],[101,113,117,97,108],[108,111,97,100],[115,116,111,114,101],[97,108,108,111,99],[102,114,101,101],[106,117,109,112],[122,101,114,111],[111,112,101,110],[99,108,111,115,101],[117,110,100,111],[101,105,116,104,101,114],[111,114],[100,111,110,101],[114,101,116,114,121],[101,109,105,116],[102,97,105,108],[99,97,108,108]]
theorem qV8 {p:Nat} (hp:p<24):∃s,nameL[p]? =some s∧Vo .neq s []=some (.bool (decide (1≤(p:Int)∧(p:Int)≤23))):=by
 match p,hp with
 | 0,_=>exact⟨_,rfl,rfl⟩
 | 1,_=>exact⟨_,rfl,rfl⟩
 | 2,_=>exact⟨_,rfl,rfl⟩
 | 3,_=>exact⟨_,rfl,rfl⟩
 | 4,_=>exact⟨_,rfl,rfl⟩
 | 5,_=>exact⟨_,rfl,rfl⟩
 | 6,_=>exact⟨_,rfl,rfl⟩
 | 7,_=>exact⟨_,rfl,rfl⟩
 | 8,_=>exact⟨_,rfl,rfl⟩
 | 9,_=>exact⟨_,rfl,rfl⟩
 | 10,_=>exact⟨_,rfl,rfl⟩
 | 11,_=>exact⟨_,rfl,rfl⟩
 | 12,_=>exact⟨_,rfl,rfl⟩
 | 13,_=>exact⟨_,rfl,rfl⟩
 | 14,_=>exact⟨_,rfl,rfl⟩
 | 15,_=>exact⟨_,rfl,rfl⟩
 | 16,_=>exact⟨_,rfl,rfl⟩
 | 17,_=>exact⟨_,rfl,rfl⟩
 | 18,_=>exact⟨_,rfl,rfl⟩
 | 19,_=>exact⟨_,rfl,rfl⟩
 | 20,_=>exact⟨_,rfl,rfl⟩
 | 21,_=>exact⟨_,rfl,rfl⟩
 | 22,_=>exact⟨_,rfl,rfl⟩
 | 23,_=>exact⟨_,rfl,rfl⟩
 |k+24,h=>exact absurd h omQ
theorem qZt {n:Nat} (hn:2≤n) {x:Int} (H:HS g h R):t_w n 141 [.int .i64 x] h λv h'=>∃s,v=.str s∧Vo .neq s []=some (.bool (decide (1≤x∧x≤23)))∧HS g h' R:=by
 refine t_e1 (S:=S141) rfl omQ λk hk=>?_;unfold S141;try simp only[iZ]
 refine qY (Q':=λv h'=>∃e,HS g h' (qL e 1 24 v (nameL.map .str)::R)) ?_ ?_
 ·(refine qC (g:=W166) rfl omQ λk hk=>?_;show wp (S166 (callT tab qx k) _) _;unfold S166;try simp only[iI,uU,iZ])
  exact jY (n:=24) (l:=nameL.map .str) (sz:=1) H rfl rfl rfl rfl λv h1 H1=>qW ⟨_,H1⟩
 rintro v h1 ⟨e,H1⟩;refine qY (Q':=λw h'=>∃s,w=.str s∧Vo .neq s []=some (.bool (decide (1≤x∧x≤23)))∧h'=h1) ?_ ?_
 ·refine t_e2 (S:=S165) rfl omQ λk hk=>?_;unfold S165;try simp only[iZ]
  by_cases c0:x<0
  ·refine zJ omQ ?_;refine qG ?_;(try dsimp only);refine qr ?_;(try dsimp only);refine qE (qX ?_)
   exact qW ⟨[],rfl,by rw[iV omQ];rfl,rfl⟩
  ·refine jb omQ ?_;refine qG ?_;(try dsimp only);refine qd ?_;(try dsimp only);refine qs ‹_› .here ?_
   by_cases c1:x<24
   ·obtain⟨p,rfl⟩:∃p:Nat,x=(p:Int):=⟨x.toNat,by omega⟩;obtain⟨s,hs,ht⟩:=qV8 (show p<24 by omega);refine ju omQ ?_;refine qI (qJ (jf (H1.sl .here) (x:=.str s) (by rw[List.getElem?_map,hs];rfl) (qW ⟨s,rfl,ht,rfl⟩)))
   ·refine jh omQ ?_;refine qI (qX ?_);exact qW ⟨[],rfl,by rw[iV omQ];rfl,rfl⟩
 ·rintro _ h2 ⟨s,rfl,ht,rfl⟩;exact qW ⟨s,rfl,ht,H1.drop⟩
theorem qVF {n:Nat} (hn:3≤n) {x:qb} (H:HS g h R):t_w n 113 [.agg (js x)] h λv h'=>v=.bool (kb x)∧HS g h' R:=by
 refine t_e1 (S:=S113) rfl omQ λk hk=>?_;unfold S113;try simp only[iZ]
 obtain⟨op,a,b,c,q⟩:=x;refine qH H rfl λb0 h1 H1=>?_;have H1:HS g h1 (qw b0 [.int .i64 op,.int .i64 a,.int .i64 b,.int .i64 c,.int .u64 q]::R):=H1;refine qQ (qV ‹_› .here rfl ?_);refine qY (M9 omQ H1) ?_;rintro _ h2 ⟨rfl,H2⟩;have hM:kb (op,a,b,c,q)=(decide (1≤op∧op≤23)&&wU (jH op).1 a&&wU (jH op).2.1 b&&wU (jH op).2.2 c&&decide (q=0∨op=1)):=rfl;rw[hM];generalize jH op=F at*;obtain⟨f1,f2,f3⟩:=F;dsimp only;refine qB rfl ?_;refine qB rfl ?_;refine qB rfl ?_;refine qH H2 rfl λb1 h3 H3=>?_;refine qH H3 rfl λb2 h4 H4=>?_;refine qH H4 rfl λb3 h5 H5=>?_;refine qe H5 (b:=b1) e_2 rfl osQ rfl λh6 H6=>?_;refine qe H6 (b:=b2) e_2 rfl osQ rfl λh7 H7=>?_;refine qe H7 (b:=b3) e_2 rfl osQ rfl λh8 H8=>?_;have H8:HS g h8 (qw b3 (yU f3)::qw b2 (yU f2)::qw b1 (yU f1)::qw b0 [.int .i64 op,.int .i64 a,.int .i64 b,.int .i64 c,.int .u64 q]::R):=H8;clear H H1 H2 H3 H4 H5 H6 H7;refine qQ (qV ‹_› e_3 rfl ?_);refine qY (qZt omQ H8) ?_;rintro _ h9 ⟨s,rfl,ht,H⟩;refine qYH ht ?_;clear H8;by_cases c1:1≤op∧op≤23
 rotate_left
 ·rw[iV c1];refine qG ?_;(try dsimp only);refine qT ?_;(try dsimp only);refine qI (qG ?_);(try dsimp only);refine qT ?_;(try dsimp only);refine qI (qG ?_);(try dsimp only);refine qT ?_;(try dsimp only);refine qI (qG ?_);(try dsimp only);refine qT ?_;(try dsimp only);refine qG ?_;(try dsimp only);refine zk ?_;(try dsimp only);refine qG ?_;(try dsimp only);refine qT ?_;(try dsimp only);refine qI ?_
  exact qW ⟨rfl,H.drop.drop.drop.drop⟩
 rw[iG c1];refine qG ?_;(try dsimp only);refine qU ?_;(try dsimp only)
 refine qA H (b:=b1) (off:=0) e_2 rfl omQ rfl ?_;refine qQ (qV ‹_› e_3 rfl ?_);refine qY (Ye omQ H) ?_;rintro _ h10 ⟨rfl,H10⟩;cases hf1:wU f1 a
 ·refine qE (qG ?_);(try dsimp only);refine qT ?_;(try dsimp only);refine qI (qG ?_);(try dsimp only);refine qT ?_;(try dsimp only);refine qI (qG ?_);(try dsimp only);refine qT ?_;(try dsimp only);refine qG ?_;(try dsimp only);refine zk ?_;(try dsimp only);refine qG ?_;(try dsimp only);refine qT ?_;(try dsimp only);refine qI ?_
  exact qW ⟨rfl,H10.drop.drop.drop.drop⟩
 refine qE (qG ?_);(try dsimp only);refine qU ?_;(try dsimp only)
 refine qA H10 (b:=b2) (off:=0) e_1 rfl omQ rfl ?_;refine qQ (qV ‹_› e_3 rfl ?_);refine qY (Ye omQ H10) ?_;rintro _ h11 ⟨rfl,H11⟩;cases hf2:wU f2 b
 ·refine qE (qG ?_);(try dsimp only);refine qT ?_;(try dsimp only);refine qI (qG ?_);(try dsimp only);refine qT ?_;(try dsimp only);refine qG ?_;(try dsimp only);refine zk ?_;(try dsimp only);refine qG ?_;(try dsimp only);refine qT ?_;(try dsimp only);refine qI ?_
  exact qW ⟨rfl,H11.drop.drop.drop.drop⟩
 refine qE (qG ?_);(try dsimp only);refine qU ?_;(try dsimp only)
 refine qA H11 (b:=b3) (off:=0) .here rfl omQ rfl ?_;refine qQ (qV ‹_› e_3 rfl ?_);refine qY (Ye omQ H11) ?_;rintro _ h12 ⟨rfl,H12⟩;cases hf3:wU f3 c
 ·refine qE (qG ?_);(try dsimp only);refine qT ?_;(try dsimp only);refine qG ?_;(try dsimp only);refine zk ?_;(try dsimp only);refine qG ?_;(try dsimp only);refine qT ?_;(try dsimp only);refine qI ?_
  exact qW ⟨rfl,H12.drop.drop.drop.drop⟩
 by_cases c2:q=0
 ·refine qE (qG ?_);(try dsimp only);refine qU ?_;(try dsimp only);refine qQ (qV ‹_› e_3 rfl ?_);refine qj omQ ?_;refine qG ?_;(try dsimp only);refine qr ?_;(try dsimp only);refine qG ?_;(try dsimp only);refine qU ?_;(try dsimp only);refine qE (qE ?_)
  exact qW ⟨by rw[iG (.inl c2)];rfl,H12.drop.drop.drop.drop⟩
 by_cases c3:op=1
 ·refine qE (qG ?_);(try dsimp only);refine qU ?_;(try dsimp only);refine qQ (qV ‹_› e_3 rfl ?_);refine qq omQ ?_;refine qG ?_;(try dsimp only);refine qd ?_;(try dsimp only);refine qQ (qV ‹_› e_3 rfl ?_);refine qj omQ ?_;refine qG ?_;(try dsimp only);refine qU ?_;(try dsimp only);refine qI (qE ?_)
  exact qW ⟨by rw[iG (.inr c3)];rfl,H12.drop.drop.drop.drop⟩
 ·refine qE (qG ?_);(try dsimp only);refine qU ?_;(try dsimp only);refine qQ (qV ‹_› e_3 rfl ?_);refine qq omQ ?_;refine qG ?_;(try dsimp only);refine qd ?_;(try dsimp only);refine qQ (qV ‹_› e_3 rfl ?_);refine qq omQ ?_;refine qG ?_;(try dsimp only);refine qU ?_;(try dsimp only);refine qI (qE ?_)
  exact qW ⟨by rw[iV (λh=>h.elim c2 c3)];rfl,H12.drop.drop.drop.drop⟩
end
section
variable {g h:AH} {L R:List SP}
theorem qGf {l:List qb} {i:Nat} (hi:i<l.length):qP l (i:Int)=l[i]:=by unfold qP;rw[show((i:Int)).toNat=i by omega,iW hi];rfl
theorem qX4 {n:Nat} (hn:2≤n) {l:List qb} {st:List Int} {sv tv:AV} (H:HS g h R) (S:Rd g R 5 l.length sv (l.flatMap js)) (T:Rd g R 1 st.length tv (st.map (.int .i64))) (hs:StOk l.length st) (hl:st.length<1000) :
  t_w n 114 [tv,.agg [sv]] h λv h'=>v=.int .i64 (opM l st)∧HS g h' R:=by
 refine t_e2 (S:=S114) rfl omQ λk hk=>?_;unfold S114;try simp only[iZ]
 refine qH H (yi (wL (S.sl H))) λb h1 H1=>?_;refine yb (T.sl H1.drop) ?_;unfold opM;by_cases h0:st=[]
 ·subst h0;rw[iJ rfl]
  skip
  exact qW ⟨rfl,H1.drop⟩
 ·have hl0:st.length≠0:=λh=>h0 (iA h);rw[iQ h0];refine qq omQ ?_;refine qJ (qG ?_);(try dsimp only);refine qQ (qV ‹_› .here rfl ?_)
  refine qY (Jw omQ (T.sl H1.drop) hl) ?_;rintro _ h1 ⟨rfl,rfl⟩;have hi:=hs.inmost h0;generalize jZ st=p at*;obtain⟨p,rfl⟩:∃q:Nat,p=(q:Int):=⟨p.toNat,by omega⟩;have hp:p<l.length:=by omega
  refine zH (x:=.int .i64 l[p].1) (S.sl H1.drop) omQ hp (by rw[QY (sz:=5) js (λ_=>rfl) _ _ _ omQ,iW hp];rfl) ?_;refine jz ‹_› .here rfl ‹_› .here rfl (HS.lt ‹_› .here) ?_;exact qW ⟨by rw[qGf hp],H1.drop⟩
theorem Zg {n:Nat} (hn:4≤n) {l:List qb} {st:List Int} {sv tv:AV} {x:qb} (H:HS g h R) (S:Rd g R 5 l.length sv (l.flatMap js)) (T:Rd g R 1 st.length tv (st.map (.int .i64))) (hs:StOk l.length st) (hl:st.length<1000) :
  t_w n 82 [.agg [sv],tv,.agg (js x)] h λv h'=>v=.int .i64 (zE l st x)∧HS g h' R:=by
 refine t_e3 (S:=S82) rfl omQ λk hk=>?_;unfold S82;try simp only[iZ]
 refine qH H (yi (wL (S.sl H))) λb0 h1 H1=>?_;refine qH H1 rfl λb2 h2 H2=>?_;refine qA H2 (b:=b2) (off:=0) .here rfl omQ rfl ?_;refine qY (qVF omQ H2) ?_;rintro _ h3 ⟨rfl,H3⟩;clear H H1 H2;obtain⟨op,a,b,c,q⟩:=x;have hW:zE l st (op,a,b,c,q)=if kb (op,a,b,c,q)=false then 8 else if 0<ja op∧opM l st≠ja op then 12 else if op=16∧opM l st≠14 then 12 else if zl op=true∧5≤st.length then 9 else 0:=rfl
 rw[hW];have H3:HS g h3 (qw b2 [.int .i64 op,.int .i64 a,.int .i64 b,.int .i64 c,.int .u64 q]::qw b0 [sv]::R):=H3;cases kb (op,a,b,c,q)
 ·refine jq (qX ?_);exact qW ⟨rfl,H3.drop.drop⟩
 rw[iQ osQ]
 (first |with_reducible refine qX ?_ |with_reducible refine qJ ?_ |(with_reducible refine qU ?_;try dsimp only) |(with_reducible refine qr ?_;try dsimp only) |(with_reducible refine qT ?_;try dsimp only) |(with_reducible refine qd ?_;try dsimp only) |(with_reducible refine zk ?_;try dsimp only) |with_reducible refine qE ?_ |with_reducible refine qI ?_ |(with_reducible refine qG ?_;try dsimp only) |with_reducible refine qv ?_ |with_reducible refine jV ?_ |with_reducible refine jq ?_ |with_reducible refine qf omQ ?_ |with_reducible refine zZ omQ ?_ |with_reducible refine yj omQ ?_ |with_reducible refine yt omQ ?_ |with_reducible refine zB ?_ |with_reducible refine zP ?_)
 (first |with_reducible refine qX ?_ |with_reducible refine qJ ?_ |(with_reducible refine qU ?_;try dsimp only) |(with_reducible refine qr ?_;try dsimp only) |(with_reducible refine qT ?_;try dsimp only) |(with_reducible refine qd ?_;try dsimp only) |(with_reducible refine zk ?_;try dsimp only) |with_reducible refine qE ?_ |with_reducible refine qI ?_ |(with_reducible refine qG ?_;try dsimp only) |with_reducible refine qv ?_ |with_reducible refine jV ?_ |with_reducible refine jq ?_ |with_reducible refine qf omQ ?_ |with_reducible refine zZ omQ ?_ |with_reducible refine yj omQ ?_ |with_reducible refine yt omQ ?_ |with_reducible refine zB ?_ |with_reducible refine zP ?_)
 refine U4 (λs h'=>s=(.bool (decide (0<ja op∧opM l st≠ja op)),.ptr b2 0,.ptr b0 0,tv,())∧HS g h' (qw b2 [.int .i64 op,.int .i64 a,.int .i64 b,.int .i64 c,.int .u64 q]::qw b0 [sv]::R)) ?_ ?_
 ·intro j hj;refine qQ (qV ‹_› .here rfl ?_);refine qY (XK omQ) ?_;rintro _ h3 ⟨rfl,rfl⟩;by_cases h1:0<ja op
  ·refine xT omQ ?_;refine qU ?_;(try dsimp only)
   refine qA H3 (b:=b0) (off:=0) e_1 rfl omQ rfl ?_;refine qY (qX4 omQ H3 S.more.more T.more.more hs hl) ?_;rintro _ h4 ⟨rfl,H4⟩;refine qQ (qV ‹_› .here rfl ?_);refine qY (XK omQ) ?_;rintro _ h4 ⟨rfl,rfl⟩;refine Ga (qE (jz ‹_› .here rfl ‹_› .here rfl (HS.lt ‹_› .here) ?_));refine hj _ _ ⟨?_,H4⟩
   congr 2
   exact decide_eq_decide.2 ⟨λh=>⟨h1,h⟩,λh=>h.2⟩
  ·refine xH omQ ?_;refine qT ?_;(try dsimp only);refine qI ?_
   refine hj _ _ ⟨?_,H3⟩;rw[iV (λh=>h1 h.1)]
 clear H3;rintro s h4 ⟨rfl,H⟩;dsimp only;by_cases hA:0<ja op∧opM l st≠ja op
 ·rw[iG hA,iJ hA];refine qX ?_;exact qW ⟨rfl,H.drop.drop⟩
 rw[iV hA,iQ hA];refine qJ (qQ (qV ‹_› .here rfl ?_));refine Qq (U4 (λs h'=>∃(r:AV) (u x:Bool),s=(r,.bool u,.ptr b2 0,tv,())∧(u=true→r=.bool x)∧((u&&x)=decide (op=16∧opM l st≠14))∧HS g h' (qw b2 [.int .i64 op,.int .i64 a,.int .i64 b,.int .i64 c,.int .u64 q]::qw b0 [sv]::R)) ?_ ?_)
 ·intro j hj;by_cases h1:op=16
  ·rw[iG (show op=((16:Nat):Int)from h1)];refine qU ?_;(try dsimp only)
   refine qA H (b:=b0) (off:=0) e_1 rfl omQ rfl ?_;refine qY (qX4 omQ H S.more.more T.more.more hs hl) ?_;rintro _ h4 ⟨rfl,H4⟩;refine Ga (hj _ _ ⟨_,true,decide (¬opM l st=14),rfl,λ_=>rfl,?_,H4⟩);rw[Bool.true_and];exact decide_eq_decide.2 ⟨λh=>⟨h1,h⟩,λh=>h.2⟩
  ·rw[iV (show¬op=((16:Nat):Int)from h1)];refine qT ?_;(try dsimp only)
   refine hj _ _ ⟨_,false,false,rfl,(λh=>by cases h),?_,H⟩;rw[iV (λh=>h1 h.1)];rfl
 clear H;rintro s h4 ⟨r,u,y,rfl,hr,hu,H⟩;dsimp only;refine ML hr ?_;rw[hu];by_cases hB:op=16∧opM l st≠14
 ·rw[iG hB,iJ hB];refine qX ?_;exact qW ⟨rfl,H.drop.drop⟩
 rw[iV hB,iQ hB];refine qJ (qQ (qV ‹_› .here rfl ?_));refine qY (Ya omQ) ?_;rintro _ h4 ⟨rfl,rfl⟩;cases hb:zl op
 ·rw[iQ osQ];refine qG ?_;(try dsimp only);refine qT ?_;(try dsimp only);refine qI (qJ ?_)
  exact qW ⟨rfl,H.drop.drop⟩
 ·refine qG ?_;(try dsimp only);refine qU ?_;(try dsimp only)
  refine yb (T.sl H.drop.drop) ?_;by_cases h5:5≤st.length
  ·rw[iJ ⟨rfl,h5⟩];refine jh omQ ?_;refine qE (qX ?_);exact qW ⟨rfl,H.drop.drop⟩
  ·rw[iQ (λh=>h5 h.2)];refine ju omQ ?_;refine qE (qJ ?_);exact qW ⟨rfl,H.drop.drop⟩
def StC (v:AV) (st:List Int):SP:=qL 3 1 st.length v (st.map (.int .i64))
theorem GA {n:Nat} (hn:2≤n) {st:List Int} {tv:AV} {i op:Int} (H:HS g h (StC tv st::R)) (hs:0<ja op→st≠[]) (hl:st.length<1000) :
  t_w n 83 [tv,.int .i64 i,.int .i64 op] h λv h'=>HS g h' (StC v (jQ st i op)::R):=by
 refine t_e3 (S:=S83) rfl omQ λk hk=>?_;unfold S83;try simp only[iZ]
 refine jR [] (λs h'=>∃v,s=(.int .i64 op,.int .i64 i,v,())∧HS g h' (StC v (if 0<ja op then st.dropLast else st)::R)) ?_ ?_
 ·intro j hj;refine qY (XK omQ) ?_;rintro _ h ⟨rfl,rfl⟩;by_cases h1:0<ja op
  ·have hne:=hs h1;have hl0:st.length≠0:=λh=>hne (iA h);rw[iJ h1]at hj;refine xT h1 (qX ?_);refine yb (H.sl (e:=3) .here) ?_;refine zZ omQ ?_;rw[show(st.length:Int)-((1:Nat):Int)=((st.length-1:Nat):Int) by omega];refine Yq H omQ omQ λv H1=>?_;refine hj _ _ ⟨v,rfl,?_⟩;unfold StC;rw[List.length_dropLast,List.dropLast_eq_take,List.map_take];rw[Nat.mul_one]at H1;exact H1
  ·rw[iQ h1]at hj;refine xH h1 (qJ ?_);exact hj _ _ ⟨tv,rfl,H⟩
 clear H;rintro s h1 ⟨v,rfl,H⟩;unfold jQ;have hl2:(if 0<ja op then st.dropLast else st).length<1000:=by
  split
  ·rw[List.length_dropLast];omega
  ·exact hl
 generalize(if 0<ja op then st.dropLast else st)=st at*;dsimp only;refine qG ?_;(try dsimp only)
 refine qY (Ya omQ) ?_;rintro _ h1 ⟨rfl,rfl⟩;have push:∀{K:AV→AH→Go.Ae.R} {Q:AV→AH→Prop},(∀v' h',HS g h' (StC v' (st++[i])::R)→wp (K v' h') Q)→
   wp (xU h1 3 [.int .i64 ((0:Nat):Int)] 1 [(0,1,.int .i64 i)] λv15 h16=>y0 h16 3 1 v v15 K) Q:=by
  intro K Q w;refine jY (n:=1) (l:=[.int .i64 i]) (sz:=1) H rfl rfl rfl rfl λv5 h5 H5=>?_;refine zn (H5.sel e_1) (H5.sl .here) omQ omQ rfl λv6 h6 H6=>w v6 h6 ?_;unfold StC;rw[List.map_append,List.length_append];exact H6.sub (.cons .here (.drop .refl))
 cases hb:zl op
 ·by_cases h18:op=18
  ·rw[iJ (.inr h18)];refine qG ?_;(try dsimp only);refine qd ?_;(try dsimp only);refine qj omQ ?_;refine qI (qX ?_)
   exact push λv' h' H'=>qv (qW H')
  ·rw[iQ (by simp;exact h18)];refine qG ?_;(try dsimp only);refine qd ?_;(try dsimp only);refine qq omQ ?_;refine qI (qJ (qv ?_))
   exact qW H
 ·rw[iJ (.inl rfl)];refine qG ?_;(try dsimp only);refine qr ?_;(try dsimp only);refine qE (qX ?_)
  exact push λv' h' H'=>qv (qW H')
theorem Y6 {l:List qb} {i:Nat} {st:List Int} (hi:i<l.length):goM l (l.drop i) i st=if zE l st l[i]=0 then goM l (l.drop (i+1)) (i+1) (jQ st i l[i].1)else .inl ((i:Int),zE l st l[i]):=by rw[List.drop_eq_getElem_cons hi];rfl
theorem KE {l:List qb} {i:Nat} {st:List Int} (hi:i<l.length):vY (l.drop i) i st=jZ st::vY (l.drop (i+1)) (i+1) (jQ st i l[i].1):=by rw[List.drop_eq_getElem_cons hi];rfl
theorem Y1 {l:List qb} {a:List Int} {i:Nat} (hi:i<l.length):Q9 l a (l.drop i) i=if ku l a i l[i]then((i:Int),2)else Q9 l a (l.drop (i+1)) (i+1):=by rw[List.drop_eq_getElem_cons hi];rfl
theorem Qt {l:List qb} {i:Nat} (hi:i<l.length):((l.flatMap js).drop (i*5)).take 5=js l[i]:=gP (sz:=5) (λ_=>rfl) (iW hi)
theorem Xm {n:Nat} (hn:3≤n) {l:List qb} {st':List Int} {sv:AV} (H:HS g h R) (S:Rd g R 5 l.length sv (l.flatMap js)) (hg:goM l l 0 []=.inr st') (hl:l.length≤100) :
  t_w n 86 [.agg [sv]] h λv h'=>HS g h' (qL 3 1 l.length v ((vY l 0 []).map (.int .i64))::R):=by
 refine t_e1 (S:=S86) rfl omQ λk hk=>?_;unfold S86;try simp only[iZ]
 refine qH H (yi (wL (S.sl H))) λb0 h1 H1=>?_;refine qQ (qV ‹_› .here rfl ?_);refine yb (S.sl H1.drop) ?_;refine Xz (n:=l.length) H1 omQ λov h2 H2=>?_;refine qQ (qV ‹_› e_1 rfl ?_);refine yb (S.sl H2.drop.drop) ?_
 refine zG (λm s h'=>∃(i:Nat) (st A:List Int) (tv:AV),s=(.int .i64 (i:Int),.int .i64 (l.length:Int),sv,tv,ov,())∧i≤l.length∧m=l.length-i∧StOk i st∧st.length≤i∧goM l (l.drop i) i st=.inr st'∧A.length=i∧vY l 0 []=A++vY (l.drop i) i st∧
  HS g h' (qL 3 1 l.length ov ((A++List.replicate (l.length-i) 0).map (.int .i64))::StC tv st::R))
  ?_ (m:=l.length) (by show _<1000000000;omega) ⟨0,[],[],.nils,rfl,by omega,by omega,StOk.nil,by simp,hg,rfl,rfl,by
   rw[List.nil_append,List.map_replicate]
   exact(H2.nils (e:=3) (sz:=1)).sub (.cons e_1 (.cons .here (.drop .refl)))⟩
 clear H H1 H2;rintro m ih s h3 hih ⟨i,st,A,tv,rfl,hi,rfl,hs,hsl,hgo,hA,hR,H⟩;dsimp only;by_cases hlt:i<l.length
 ·rw[Y6 hlt]at hgo;rw[KE hlt]at hR;have hrow:=Qt hlt;generalize l[i]=x at*;by_cases hw:zE l st x=0
  rotate_left
  ·rw[iQ hw]at hgo;cases hgo
  rw[iJ hw]at hgo;have ho:=xj hw;refine zJ omQ ?_;refine qX (xK (S.sl H.drop.drop) hlt omQ hrow ?_);refine qH H rfl λb h4 H4=>?_;refine qe H4 (b:=b) .here rfl (by simp[js]) rfl λh5 H5=>?_;have H5:HS g h5 (qw b (js x)::qL 3 1 l.length ov ((A++List.replicate (l.length-i) 0).map (.int .i64))::StC tv st::R):=H5;unfold js at H5;refine qY (Jw omQ (H5.sl (e:=3) e_2) omQ) ?_;rintro _ h5 ⟨rfl,rfl⟩;refine XA (H5.sel e_1) omQ ⟨rfl,rfl⟩ λh6 H6=>?_;have hset:((A++List.replicate (l.length-i) 0).map (AV.int .i64)).set i (.int .i64 (jZ st))=((A++[jZ st])++List.replicate (l.length-(i+1)) 0).map (.int .i64):=by
   rw[← List.map_set]
   congr 1
   rw[List.set_append_right _ _ omQ,hA,Nat.sub_self,show l.length-i=(l.length-(i+1))+1 by omega,List.replicate_succ];simp
  rw[hset]at H6;refine qQ (qV ‹_› e_1 rfl ?_);refine qY (GA omQ (H6.sub (L':=StC tv st::qw b [.int .i64 x.1,.int .i64 x.2.1,.int .i64 x.2.2.1,.int .i64 x.2.2.2.1,.int .u64 x.2.2.2.2]::qL 3 1 l.length ov (((A++[jZ st])++List.replicate (l.length-(i+1)) 0).map (.int .i64))::R) (.cons e_2 (.cons e_1 (.cons .here .refl)))) (λh=>ho.2.1 (.inl h)) omQ) ?_;intro tv2 h8 H8;refine qf omQ ?_;have hbl:=Yc st i x.1;exact hih (l.length-(i+1)) _ _ omQ ⟨i+1,jQ st i x.1,A++[jZ st],tv2,rfl,by omega,rfl,hs.behind,by omega,hgo,by simp[hA],by rw[hR];simp,H8.sub (.cons e_2 (.cons .here (.drop .refl)))⟩
 ·obtain rfl:i=l.length:=by omega
  refine jb omQ ?_;refine qJ (qv (qW ?_));rw[hR];rw[Nat.sub_self,List.replicate_zero,List.append_nil]at H;rw[List.drop_length];show HS g h3 (qL _ 1 l.length ov ((A++[]).map _)::R);rw[List.append_nil];exact H.sub (.cons .here (.drop .refl))
theorem qJr {x:qb} (h:kb x=true) (hj:x.1=12∨x.1=13):0≤x.2.2.2.1∧x.2.2.2.1≤40:=by
 have e:(jH x.1).2.2=(0,40):=by
  rcases hj with e |e<;>rw[e]<;>rfl
 unfold kb at h;rw[e]at h;simp only[Bool.and_eq_true,wU,decide_eq_true_eq]at h;exact h.1.2
theorem O6 {n:Nat} (hn:2≤n) {l:List qb} {a:List Int} {sv av:AV} (H:HS g h R) (S:Rd g R 5 l.length sv (l.flatMap js)) (T:Rd g R 1 a.length av (a.map (.int .i64))) (ha:a.length=l.length) (hm:∀x∈l,kb x=true) (hl:l.length≤100) :
  t_w n 85 [.agg [sv],av] h λv h'=>v=.tup [.int .i64 (Q9 l a l 0).1,.int .i64 (Q9 l a l 0).2]∧HS g h' R:=by
 refine t_e2 (S:=S85) rfl omQ λk hk=>?_;unfold S85;try simp only[iZ]
 refine qH H (yi (wL (S.sl H))) λb0 h1 H1=>?_;have hLV:=(S.sl H).lenV;clear H;refine qQ (qV ‹_› .here rfl ?_);refine xR ‹_› ?_;refine zG (λm s h'=>∃i:Nat,s=(.int .i64 (i:Int),.int .i64 (l.length:Int),sv,.ptr b0 0,av,())∧i≤l.length∧m=l.length-i∧Q9 l a l 0=Q9 l a (l.drop i) i∧HS g h' (qw b0 [sv]::R))
  ?_ (m:=l.length) (by show _<1000000000;omega) ⟨0,rfl,by omega,by omega,rfl,H1⟩
 clear H1;rintro m ih s h2 hih ⟨i,rfl,hi,rfl,hJ,H⟩;dsimp only;by_cases hlt:i<l.length
 rotate_left
 ·obtain rfl:i=l.length:=by omega
  rw[List.drop_length]at hJ;rw[hJ];refine jb omQ ?_;refine qJ (qv ?_);exact qW ⟨rfl,H.drop⟩
 rw[Y1 hlt]at hJ;have hrow:=Qt hlt;have hmx:=hm l[i] (List.getElem_mem hlt);generalize l[i]=x at*;obtain⟨op,xa,xb,c,q⟩:=x;unfold js at hrow;refine zJ omQ (qX ?_);refine jR [] (λs h'=>s=(.int .i64 (i:Int),.int .i64 (l.length:Int),sv,.ptr b0 0,av,())∧¬ku l a i (op,xa,xb,c,q)∧HS g h' (qw b0 [sv]::R)) ?_ ?_
 rotate_left
 ·rintro s h3 ⟨rfl,hno,H3⟩;rw[iQ hno]at hJ;refine qf omQ ?_;exact hih (l.length-(i+1)) _ _ omQ ⟨i+1,rfl,by omega,rfl,hJ,H3⟩
 intro j hj;clear hih;refine xK (S.sl H.drop) hlt omQ hrow ?_;refine qH H rfl λb h4 H4=>?_;refine qe H4 (b:=b) .here rfl osQ rfl λh5 H5=>?_;have H5:HS g h5 (qw b [.int .i64 op,.int .i64 xa,.int .i64 xb,.int .i64 c,.int .u64 q]::qw b0 [sv]::R):=H5;clear H H4;refine qQ (qV ‹_› .here rfl ?_);refine qY (qK5 omQ) ?_;rintro _ h5 ⟨rfl,rfl⟩;by_cases hjm:op=12∨op=13
 rotate_left
 ·rw[iV hjm];refine jq (qX ?_);exact hj _ _ ⟨rfl,λh=>hjm h.1,H5.drop⟩
 rw[iG hjm];have hc:=qJr hmx hjm;dsimp only at hc;obtain⟨p,rfl⟩:∃p:Nat,c=(p:Int):=⟨c.toNat,by omega⟩;have hcell:∀k:Nat,k<l.length→(a.map (AV.int .i64))[k]? =some (.int .i64 (qD a (k:Int))):=by intro k hk;unfold qD;rw[List.getElem?_map,show((k:Int)).toNat=k by omega,iW omQ];rfl
 have Ta:Sl (λ_=>True) h5 1 a.length av (a.map (.int .i64)):=T.sl H5.drop.drop;by_cases c1:l.length<p
 ·rw[iJ ⟨hjm,.inl (by dsimp only;omega)⟩]at hJ;rw[hJ];refine jV (qJ (qQ (qV ‹_› .here rfl ?_)));refine qQ (qV ‹_› e_1 rfl ?_);refine xR ‹_› ?_;refine xT omQ ?_;refine qG ?_;(try dsimp only);refine qr ?_;(try dsimp only);refine qG ?_;(try dsimp only);refine zk ?_;(try dsimp only);refine qG ?_;(try dsimp only);refine qr ?_;(try dsimp only);refine qE (qG ?_);(try dsimp only);refine qr ?_;(try dsimp only);refine qG ?_;(try dsimp only);refine zk ?_;(try dsimp only);refine qG ?_;(try dsimp only);refine qr ?_;(try dsimp only);refine qE (qX (qv ?_))
  exact qW ⟨rfl,H5.drop.drop⟩
 by_cases c2:p=l.length
 ·subst c2;refine jV (qJ (qQ (qV ‹_› .here rfl ?_)));refine qQ (qV ‹_› e_1 rfl ?_);refine xR ‹_› ?_;refine xH omQ ?_;refine qG ?_;(try dsimp only);refine qd ?_;(try dsimp only);refine qQ (qV ‹_› .here rfl ?_);refine qQ (qV ‹_› e_1 rfl ?_);refine xR ‹_› ?_;refine qj omQ ?_;refine qG ?_;(try dsimp only);refine qU ?_;(try dsimp only)
  refine jf Ta (hcell i hlt) ?_;by_cases c3:qD a i= -1
  ·refine jK (by rw[c3];decide) ?_;refine qG ?_;(try dsimp only);refine qd ?_;(try dsimp only);refine qE (qI (qG ?_));(try dsimp only);refine qd ?_;(try dsimp only);refine qQ (qV ‹_› .here rfl ?_);refine qQ (qV ‹_› e_1 rfl ?_);refine xR ‹_› ?_;refine jb omQ ?_;refine qG ?_;(try dsimp only);refine qT ?_;(try dsimp only);refine qG ?_;(try dsimp only);refine qd ?_;(try dsimp only);refine qI (qI (qJ ?_))
   exact hj _ _ ⟨rfl,λh=>by
    rcases h.2 with h |h |h
    ·dsimp only at h;omega
    ·exact h.2 c3
    ·dsimp only at h;omega,H5.drop⟩
  ·refine jX (λh=>c3 (by rw[h];decide)) ?_;rw[iJ ⟨hjm,.inr (.inl ⟨rfl,c3⟩)⟩]at hJ;rw[hJ];refine qG ?_;(try dsimp only);refine qd ?_;(try dsimp only);refine qE (qI (qG ?_));(try dsimp only);refine qr ?_;(try dsimp only);refine qG ?_;(try dsimp only);refine zk ?_;(try dsimp only);refine qG ?_;(try dsimp only);refine qr ?_;(try dsimp only);refine qE (qX (qv ?_))
   exact qW ⟨rfl,H5.drop.drop⟩
 ·refine jV (qJ (qQ (qV ‹_› .here rfl ?_)));refine qQ (qV ‹_› e_1 rfl ?_);refine xR ‹_› ?_;refine xH omQ ?_;refine qG ?_;(try dsimp only);refine qd ?_;(try dsimp only);refine qQ (qV ‹_› .here rfl ?_);refine qQ (qV ‹_› e_1 rfl ?_);refine xR ‹_› ?_;refine qq omQ ?_;refine qG ?_;(try dsimp only);refine qT ?_;(try dsimp only);refine qG ?_;(try dsimp only);refine qd ?_;(try dsimp only);refine qI (qI (qG ?_));(try dsimp only);refine qd ?_;(try dsimp only);refine qQ (qV ‹_› .here rfl ?_);refine qQ (qV ‹_› e_1 rfl ?_);refine xR ‹_› ?_;refine zJ omQ ?_;refine qG ?_;(try dsimp only);refine qU ?_;(try dsimp only);refine qQ (qV ‹_› .here rfl ?_)
  refine jf Ta (hcell p omQ) ?_;refine jf Ta (hcell i hlt) ?_;by_cases c3:qD a p=qD a i
  ·refine jK c3 ?_;refine qG ?_;(try dsimp only);refine qd ?_;(try dsimp only);refine qE (qI (qJ ?_))
   exact hj _ _ ⟨rfl,λh=>by
    rcases h.2 with h |h |h
    ·dsimp only at h;omega
    ·have:=h.1;dsimp only at this;omega
    ·exact h.2 c3,H5.drop⟩
  ·refine jX c3 ?_;rw[iJ ⟨hjm,.inr (.inr ⟨by dsimp only;omega,c3⟩)⟩]at hJ;rw[hJ];refine qG ?_;(try dsimp only);refine qd ?_;(try dsimp only);refine qE (qI (qX (qv ?_)))
   exact qW ⟨rfl,H5.drop.drop⟩
theorem qGl {l:List qb}:∀{r:List qb} {i:Nat} {st st':List Int},goM l r i st=.inr st'→∀x∈r,kb x=true:=by
 intro r
 induction r with
 |nil=>intro i st st' _ x hx;cases hx
 |cons y r ih=>
  intro i st st' h x hx;rw[Jf]at h
  split at h
  ·rename_i hw;rcases List.mem_cons.1 hx with rfl |hx
   ·exact(xj hw).1
   ·exact ih h x hx
  ·cases h
theorem qVe {l:List qb}:∀{r:List qb} {i:Nat} {st:List Int} {q:Int×Int},goM l r i st=.inl q→q.2≠0:=by
 intro r
 induction r with
 |nil=>intro i st q h;cases h
 |cons y r ih=>
  intro i st q h;rw[Jf]at h
  split at h
  ·exact ih h
  ·rename_i hw;cases h;exact hw
theorem Gk {l:List qb} (h:(yC l).2=0):goM l l 0 []=.inr []:=by
 unfold yC at h
 split at h
 ·cases h
 ·cases hg:goM l l 0 []with
  |inl q=>rw[hg]at h;exact absurd h (qVe hg)
  |inr st=>
   rw[hg]at h;dsimp only at h
   split at h
   ·rename_i h0;rw[h0]
   ·cases h
theorem K9 {n:Nat} (hn:6≤n) {l:List qb} {sv:AV} (H:HS g h R) (S:Rd g R 5 l.length sv (l.flatMap js)) (hl:l.length≤100) :
  t_w n 52 [.agg [sv]] h λv h'=>v=.tup [.int .i64 (yC l).1,.int .i64 (yC l).2]∧HS g h' R:=by
 refine t_e1 (S:=S52) rfl omQ λk hk=>?_;unfold S52;try simp only[iZ]
 refine qH H (yi (wL (S.sl H))) λb0 h1 H1=>?_;have hLV:=(S.sl H).lenV;clear H;have hC:yC l=if l.length=0∨40<l.length then(0,4)else match goM l l 0 []with
  | .inl r=>r
  | .inr st=>if st=[]then Q9 l (vY l 0 []) l 0 else(jZ st,12):=rfl
 generalize yC l=C at*;refine qQ (qV ‹_› .here rfl ?_);refine xR ‹_› ?_;by_cases c0:l.length=0
 ·rw[iJ (.inl c0)]at hC;subst hC;refine qj omQ ?_;refine qG ?_;(try dsimp only);refine qr ?_;(try dsimp only);refine qE (qX ?_)
  exact qW ⟨rfl,H1.drop⟩
 by_cases c1:40<l.length
 ·rw[iJ (.inr c1)]at hC;subst hC;refine qq omQ ?_;refine qG ?_;(try dsimp only);refine qd ?_;(try dsimp only);refine qQ (qV ‹_› .here rfl ?_);refine xR ‹_› ?_;refine xT omQ ?_;refine qI (qX ?_)
  exact qW ⟨rfl,H1.drop⟩
 rw[iQ omQ]at hC;refine qq omQ ?_;refine qG ?_;(try dsimp only);refine qd ?_;(try dsimp only);refine qQ (qV ‹_› .here rfl ?_);refine xR ‹_› ?_;refine xH omQ ?_;refine qI (qJ (qQ (qV ‹_› .here rfl ?_)));refine xR ‹_› ?_
 generalize hG:goM l l 0 []=G at hC;refine zG (λm s h'=>∃(i:Nat) (st:List Int) (tv:AV),s=(.int .i64 (i:Int),.int .i64 (l.length:Int),sv,tv,.ptr b0 0,())∧i≤l.length∧m=l.length-i∧StOk i st∧st.length≤i∧goM l (l.drop i) i st=G∧HS g h' (StC tv st::qw b0 [sv]::R))
  ?_ (m:=l.length) (by show _<1000000000;omega) ⟨0,[],.nils,rfl,by omega,by omega,StOk.nil,by simp,hG,H1.nils (e:=3) (sz:=1)⟩
 clear H1;rintro m ih s h2 hih ⟨i,st,tv,rfl,hi,rfl,hs,hsl,hgo,H⟩;dsimp only;by_cases hlt:i<l.length
 ·rw[Y6 hlt]at hgo;have hrow:=Qt hlt;generalize l[i]=x at*;refine zJ omQ ?_;refine qX (xK (S.sl H.drop.drop) hlt omQ hrow ?_);refine qH H rfl λb h4 H4=>?_;refine qe H4 (b:=b) .here rfl (by simp[js]) rfl λh5 H5=>?_;have H5:HS g h5 (qw b (js x)::StC tv st::qw b0 [sv]::R):=H5;clear H H4;refine qA H5 (b:=b0) (off:=0) e_2 rfl omQ rfl ?_;refine qA H5 (b:=b) (off:=0) .here rfl omQ rfl ?_;refine qY (Zg omQ H5 S.more.more.more (Rd.own (e:=3) e_1) (λy hy=>by have:=hs y hy;omega) omQ) ?_;rintro _ h6 ⟨rfl,H6⟩;by_cases hw:zE l st x=0
  ·rw[iJ hw]at hgo;have ho:=xj hw;refine jK hw ?_;unfold js at H6;refine qJ (qQ (qV ‹_› .here rfl ?_));refine qY (GA omQ (H6.sel e_1) (λh=>ho.2.1 (.inl h)) omQ) ?_;intro tv2 h8 H8;have hbl:=Yc st i x.1;refine qf omQ ?_;exact hih (l.length-(i+1)) _ _ omQ ⟨i+1,jQ st i x.1,tv2,rfl,by omega,rfl,hs.behind,by omega,hgo,H8.sub (.cons .here (.drop .refl))⟩
  ·rw[iQ hw]at hgo;subst hgo;rw[hC];refine jX hw ?_;refine qX (qv ?_);exact qW ⟨rfl,H6.drop.drop.drop⟩
 ·obtain rfl:i=l.length:=by omega
  rw[List.drop_length]at hgo;have hgo:(Sum.inr st:(Int×Int) ⊕ List Int)=G:=hgo;subst hgo;dsimp only at hC;refine jb omQ (qJ ?_);refine yb (H.sl (e:=3) .here) ?_;by_cases h0:st=[]
  ·subst h0;rw[iJ rfl]at hC;rw[show([]:List Int).length=0 from rfl];refine xH omQ ?_;refine qJ (qG ?_);(try dsimp only)
   refine qA H (b:=b0) (off:=0) e_1 rfl omQ rfl ?_;refine qA H (b:=b0) (off:=0) e_1 rfl omQ rfl ?_;refine qY (Xm omQ H S.more.more hG hl) ?_;intro av h3 H3;refine qY (O6 (a:=vY l 0 []) omQ H3 S.more.more.more (by rw[YI];exact Rd.own .here) YI (qGl hG) hl) ?_;rintro _ h4 ⟨rfl,H4⟩;rw[← hC];refine qB rfl ?_;refine qB rfl ?_;refine zU H (b:=b0) e_1 rfl H3 e_2 rfl rfl omQ (HS.lt H e_1) ?_;refine qv ?_;exact qW ⟨rfl,H4.drop.drop.drop⟩
  ·rw[iQ h0]at hC;subst hC;have hl0:st.length≠0:=λh=>h0 (iA h);refine xT omQ ?_;refine qX (qY (Jw omQ (H.sl (e:=3) .here) omQ) ?_);rintro _ h3 ⟨rfl,rfl⟩;refine qv ?_;exact qW ⟨rfl,H.drop.drop⟩
theorem qjD {l:List qb} {st':List Int} (hg:goM l l 0 []=.inr st') {i:Nat} (hi:i<l.length) (ho:0<ja l[i].1∨l[i].1=16):∃p:Nat,(vY l 0 [])[i]? =some (p:Int)∧p<l.length:=by
 obtain⟨s,h1,h2⟩:=qZf (r:=l) (i:=0) (j:=i) (st:=[]) hi;obtain⟨h3,h4⟩:=h2 hg StOk.nil;have hw:=h4 l[i] (iW hi);have hne:=(xj hw).2.1 ho;have hin:=h3.inmost hne;refine⟨(jZ s).toNat,?_,by omega⟩;rw[h1]
 congr 1
 omega
end
section
variable {g h:AH} {L R:List SP}
theorem Sel.app {A A':List SP} {P:SP} (s:Sel A P A') (R:List SP):Sel (A++R) P (A'++R):=by
 induction s with
 |here=>exact .here
 |there s ih=>exact .there ih
def RlC (p:AV×AV) (x:LvM):SP:=.all [qL 61 2 x.1.length p.1 (x.1.flatMap jU),qL 3 1 x.2.length p.2 (x.2.map (.int .i64))]
theorem RlC.E {p:AV×AV} {x:LvM} (H:HS g h (RlC p x::R)):HS g h (qL 61 2 x.1.length p.1 (x.1.flatMap jU)::qL 3 1 x.2.length p.2 (x.2.map (.int .i64))::R):=H.allE
theorem RlC.I {p:AV×AV} {x:LvM} (H:HS g h (qL 61 2 x.1.length p.1 (x.1.flatMap jU)::qL 3 1 x.2.length p.2 (x.2.map (.int .i64))::R)):HS g h (RlC p x::R):=H.allI
def UA (ps:List (AV×AV)):List AV:=ps.reverse.flatMap λp=>[p.1,p.2]
theorem Gq {n:Nat} (hn:1≤n) {x lo hi:Int} (hl:lo≤hi):t_w n 73 [.int .i64 x,.int .i64 lo,.int .i64 hi] h λv h'=>v=.int .i64 (max lo (min x hi))∧h'=h:=by
 refine t_e3 (S:=S73) rfl omQ λk hk=>?_;unfold S73;try simp only[iZ]
 repeat' (first |with_reducible refine qX ?_ |with_reducible refine qJ ?_ |(with_reducible refine qU ?_;try dsimp only) |(with_reducible refine qr ?_;try dsimp only) |(with_reducible refine qT ?_;try dsimp only) |(with_reducible refine qd ?_;try dsimp only) |(with_reducible refine zk ?_;try dsimp only) |with_reducible refine qE ?_ |with_reducible refine qI ?_ |(with_reducible refine qG ?_;try dsimp only) |with_reducible refine qv ?_ |with_reducible refine jV ?_ |with_reducible refine jq ?_ |with_reducible refine qf omQ ?_ |with_reducible refine zZ omQ ?_ |with_reducible refine yj omQ ?_ |with_reducible refine yt omQ ?_ |with_reducible refine zB ?_ |with_reducible refine zP ?_ |with_reducible refine zo (λhc=>?_) (λhc=>?_) |with_reducible refine gJ (λhc=>?_) (λhc=>?_) |with_reducible refine gd (λhc=>?_) (λhc=>?_) |with_reducible refine xS (λhc=>?_) (λhc=>?_) |with_reducible refine xp (λhc=>?_) (λhc=>?_) |with_reducible refine yW (λhc=>?_) (λhc=>?_) |with_reducible refine vC (λhc=>?_) (λhc=>?_))
 all_goals refine qW ⟨?_,rfl⟩
 all_goals congr 1
 all_goals omega
end
section
variable {g h:AH} {L R:List SP}
def frS (lv:List LvM):Nat:=(lv.map λx=>x.2.length).sum
theorem wq (x:LvM) (r:List LvM):frS (x::r)=x.2.length+frS r:=by simp[frS]
theorem qJn {x y:LvM} {r:List LvM}:frS (w8 (x::y::r)).2=frS (x::y::r):=by unfold frS w8;simp;omega
end
end Go.Proofs.YtbiljkdgeekpbabGreatDoor
