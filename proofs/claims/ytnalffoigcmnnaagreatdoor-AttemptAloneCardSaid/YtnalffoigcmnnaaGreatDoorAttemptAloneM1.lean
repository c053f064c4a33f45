/- Lemmas for 'quietus/quietuslaw26.AttemptAlone': What a transaction knows and writes, as plain data: cells, levels, views;Write sets: by the program;Levels of cells and frees: by the program;Views: by the ... No condition. -/
import Derived.Test.YtnalffoigcmnnaaGreatDoorAttemptAloneAe7
import Derived.Test.YtnalffoigcmnnaaGreatDoorAttemptAloneT
import Derived.KernelRfl
namespace Go.Proofs.YtnalffoigcmnnaaGreatDoor
open Go Go.Ae
abbrev Cl:Type:=Int×Int
def jU (c:Int×Int):List AV:=[.int .i64 c.1,.int .u64 c.2]
def XU (p:Int):List Cl→Option Nat
 |[]=>none
 |c::l=>if c.1=p then some 0 else(XU p l).map (· +1)
def j0 (p:Int):List Cl→Option Int
 |[]=>none
 |c::l=>if c.1=p then some c.2 else j0 p l
def yz (p v:Int):List Cl→List Cl
 |[]=>[(p,v)]
 |c::l=>if c.1=p then(p,v)::l else c::yz p v l
def yV (l cs:List Cl):List Cl:=cs.foldl (λl c=>yz c.1 c.2 l) l
theorem Vx {p:Int} {l:List Cl}:XU p l=none↔j0 p l=none:=by
 induction l with
 |nil=>simp[XU,j0]
 |cons c l ih=>
  unfold XU j0
  split
  ·simp
  ·simp[ih]
theorem Ui {p:Int}:∀{l:List Cl} {i:Nat},XU p l=some i→i<l.length∧(∃x,l[i]? =some (p,x)∧j0 p l=some x)∧∀v,yz p v l=l.set i (p,v):=by
 intro l
 induction l with
 |nil=>intro i h;cases h
 |cons c l ih=>
  intro i h;unfold XU at h;unfold j0
  split at h
  ·rename_i hc;cases h;rw[iJ hc];refine⟨by simp,⟨c.2,by rw[← hc];rfl,rfl⟩,λv=>?_⟩;unfold yz;rw[iJ hc];rfl
  ·rename_i hc;rw[iQ hc];cases hi:XU p l with
   |none=>rw[hi]at h;cases h
   |some j=>rw[hi]at h;cases h;obtain⟨h1,⟨x,h2,h2'⟩,h3⟩:=ih hi;refine⟨by simp;omega,⟨x,by simpa using h2,h2'⟩,λv=>?_⟩;unfold yz;rw[iQ hc,h3];rfl
theorem QK {p v:Int} {l:List Cl} (h:j0 p l=none):yz p v l=l++[(p,v)]:=by
 induction l with
 |nil=>rfl
 |cons c l ih=>
  unfold j0 at h
  split at h
  ·cases h
  ·rename_i hc;unfold yz;rw[iQ hc,ih h];rfl
theorem ZY {p:Int}:∀{l:List Cl} {i:Nat},i<l.length→(∀j,j<i→∀c,l[j]? =some c→c.1≠p)→(∃x,l[i]? =some (p,x))→XU p l=some i:=by
 intro l
 induction l with
 |nil=>intro i h;simp at h
 |cons c l ih=>
  intro i hi h1 ⟨x,h2⟩;unfold XU;cases i with
  |zero=>simp at h2;rw[iJ (by rw[h2])]
  |succ i=>rw[iQ (h1 0 omQ c rfl),ih (by simpa using hi) (λj hj c' hc'=>h1 (j+1) omQ c' (by simpa using hc')) ⟨x,by simpa using h2⟩];rfl
theorem qGm {p:Int}:∀{l:List Cl},(∀c∈l,c.1≠p)→XU p l=none:=by
 intro l
 induction l with
 |nil=>intro _;rfl
 |cons c l ih=>intro h;unfold XU;rw[iQ (h c (iK ..)),ih λc' hc'=>h c' (iX _ hc')];rfl
theorem X5 {p v:Int} {l:List Cl}:(yz p v l).length=if j0 p l=none then l.length+1 else l.length:=by
 induction l with
 |nil=>simp[yz,j0]
 |cons c l ih=>
  unfold yz j0
  split
  ·simp
  ·rw[List.length_cons,ih]
   split<;>simp
theorem UJ {p q v:Int} {l:List Cl}:j0 q (yz p v l)=if q=p then some v else j0 q l:=by
 induction l with
 |nil=>
  simp only[yz,j0];by_cases h:p=q
  ·simp[h]
  ·rw[iQ h,iQ (λh'=>h h'.symm)]
 |cons c l ih=>
  unfold yz
  split
  ·rename_i hc;simp only[j0];by_cases h:p=q
   ·simp[h]
   ·rw[iQ h,iQ (λh'=>h h'.symm),iQ (by rw[hc];exact h)]
  ·rename_i hc;simp only[j0,ih];by_cases h:c.1=q
   ·rw[iJ h,iJ h,iQ (by rintro rfl;exact hc h)]
   ·rw[iQ h,iQ h]
def InC (l:List Cl):Prop:=∀c∈l,1≤c.1∧c.1<256
theorem InC.put {l:List Cl} {p v:Int} (h:InC l) (hp:1≤p∧p<256):InC (yz p v l):=by
 induction l with
 |nil=>intro c hc;simp[yz]at hc;subst hc;exact hp
 |cons a l ih=>
  unfold yz
  split
  ·intro c hc;rcases List.mem_cons.1 hc with rfl |hc
   ·exact hp
   ·exact h c (iX _ hc)
  ·intro c hc;rcases List.mem_cons.1 hc with rfl |hc
   ·exact h _ (iK ..)
   ·exact ih (λc hc=>h c (iX _ hc)) c hc
def UnC (l:List Cl):Prop:=(l.map (·.1)).Nodup
theorem Nj {p:Int} {l:List Cl}:j0 p l=none↔p∉l.map (·.1):=by
 induction l with
 |nil=>simp[j0]
 |cons c l ih=>
  unfold j0
  split
  ·rename_i h;simp[h]
  ·rename_i h;rw[ih,List.map_cons,List.mem_cons,not_or];exact⟨λh'=>⟨λh2=>h h2.symm,h'⟩,λh'=>h'.2⟩
theorem qXr {p v:Int} {l:List Cl}:(yz p v l).map (·.1)=if j0 p l=none then l.map (·.1)++[p]else l.map (·.1):=by
 induction l with
 |nil=>simp[yz,j0]
 |cons c l ih=>
  unfold yz j0
  split
  ·rename_i h;simp[h]
  ·rw[List.map_cons,ih]
   split<;>simp
theorem UnC.put {l:List Cl} {p v:Int} (h:UnC l):UnC (yz p v l):=by
 unfold UnC;rw[qXr]
 split
 ·rename_i hp;rw[Nj]at hp;rw[List.nodup_append];exact⟨h,by simp,λa ha b hb=>by rw[List.mem_singleton]at hb;subst hb;rintro rfl;exact hp ha⟩
 ·exact h
theorem qVm {l:List Cl}:∀{cs:List Cl},UnC cs→(∀c∈cs,j0 c.1 l=none)→yV l cs=l++cs:=by
 intro cs
 induction cs generalizing l with
 |nil=>intro _ _;simp[yV]
 |cons c cs ih=>
  intro hu hn;have hu':UnC cs:=(List.nodup_cons.1 hu).2;have hc:c.1∉cs.map (·.1):=(List.nodup_cons.1 hu).1;show yV (yz c.1 c.2 l) cs=_
  rw[ih hu' (λd hd=>by
   rw[UJ,iQ (by rintro h;exact hc (by rw[← h];exact List.mem_map_of_mem hd))]
   exact hn d (iX _ hd)),QK (hn c (iK ..)),List.append_assoc]
  rfl
theorem VI {cs:List Cl} (h:UnC cs):yV [] cs=cs:=by rw[qVm h (λ_ _=>rfl),List.nil_append]
def J3 (m:Nat) (l:List Cl) (p v:Int):Int×List Cl :=
 if p<1∨256≤p then(2,l)else if j0 p l=none∧m≤l.length then(5,l)else(0,yz p v l)
def Qp (m:Nat) (l:List Cl):List Cl→Int×List Cl
 |[]=>(0,l)
 |c::cs=>if(J3 m l c.1 c.2).1=0 then Qp m (J3 m l c.1 c.2).2 cs else J3 m l c.1 c.2
theorem Zn {m:Nat} {l:List Cl} {c:Cl} {cs:List Cl}:Qp m l (c::cs)=if(J3 m l c.1 c.2).1=0 then Qp m (J3 m l c.1 c.2).2 cs else J3 m l c.1 c.2:=rfl
theorem YX {m:Nat}:∀{cs l:List Cl},InC cs→l.length+cs.length≤m→Qp m l cs=(0,yV l cs):=by
 intro cs
 induction cs with
 |nil=>intro l _ _;rfl
 |cons c cs ih=>
  intro l hi hl;have hc:=hi c (iK ..);have hp:J3 m l c.1 c.2=(0,yz c.1 c.2 l):=by unfold J3;rw[iQ omQ,iQ (by simp at hl;omega)]
  unfold Qp
  rw[hp,iJ rfl,ih (λd hd=>hi d (iX _ hd)) (by
   have:=X5 (p:=c.1) (v:=c.2) (l:=l);simp at hl;show(yz c.1 c.2 l).length+cs.length≤m
   split at this<;>omega)]
  rfl
abbrev LvM:Type:=List Cl×List Int
def YM (p:Int):List LvM→Option Int
 |[]=>none
 |x::r=>match j0 p x.1 with |some v=>some v |none=>YM p r
def yy (lv:List LvM):Nat:=(lv.map λx=>x.1.length).sum
def jV (lv:List LvM):List Cl:=lv.foldl (λout x=>yV x.1 out) []
def vz (lv:List LvM):List Int:=lv.reverse.flatMap (·.2)
structure OkL (most:Nat) (lv:List LvM):Prop where
  held:yy lv≤most
  le:most≤96
  ins:∀x∈lv,InC x.1
  un:∀x∈lv,UnC x.1
  one:1≤lv.length
  deep:lv.length≤6
def vk (most:Nat) (lv:List LvM) (p v:Int):Int×List LvM :=
 match lv with
 |[]=>(0,[])
 |x::r=>if p<1∨256≤p then(2,lv)else if j0 p x.1=none∧most≤yy lv then(5,lv)else(0,(yz p v x.1,x.2)::r)
def yr (most:Nat) (was lv:List LvM):List Cl→Int×List LvM
 |[]=>(0,lv)
 |c::cs=>if(vk most lv c.1 c.2).1=0 then yr most was (vk most lv c.1 c.2).2 cs else((vk most lv c.1 c.2).1,was)
def w9 (lv:List LvM):Int×List LvM:=if 6≤lv.length then(9,lv)else(0,([],[])::lv)
def kX (lv:List LvM):Int×List LvM:=if lv.length=1 then(10,lv)else(0,lv.tail)
def kf (lv:List LvM):Int×List LvM:=match lv with
 |x::y::r=>(0,(yV y.1 x.1,y.2++x.2)::r)
 |_=>(10,lv)
def JY (lv:List LvM) (b:Int):List LvM:=match lv with
 |x::r=>(x.1,x.2++[b])::r
 |[]=>[]
theorem vw {most:Nat} {was lv:List LvM} {c:Cl} {cs:List Cl}:yr most was lv (c::cs)=if(vk most lv c.1 c.2).1=0 then yr most was (vk most lv c.1 c.2).2 cs else((vk most lv c.1 c.2).1,was):=rfl
theorem zO {x:LvM} {r:List LvM}:yy (x::r)=x.1.length+yy r:=by simp[yy]
theorem Ve {most:Nat} {lv:List LvM} {p v:Int} (O:OkL most lv):OkL most (vk most lv p v).2∧(vk most lv p v).2.length=lv.length:=by
 cases lv with
 |nil=>have:=O.one;simp at this
 |cons x r=>
  unfold vk;dsimp only
  split
  ·exact⟨O,rfl⟩
  ·rename_i hp
   split
   ·exact⟨O,rfl⟩
   ·rename_i h1;have hh:=O.held;rw[zO]at hh;refine⟨⟨?_,O.le,?_,?_,by simp,O.deep⟩,rfl⟩
    ·show yy ((yz p v x.1,x.2)::r)≤most;rw[zO,X5]
     split
     ·rename_i h2;rw[zO]at h1;have:¬most≤x.1.length+yy r:=λh3=>h1 ⟨h2,h3⟩;omega
     ·exact hh
    ·intro y hy;rcases List.mem_cons.1 hy with rfl |hy
     ·exact(O.ins x (iK ..)).put omQ
     ·exact O.ins y (iX _ hy)
    ·intro y hy;rcases List.mem_cons.1 hy with rfl |hy
     ·exact(O.un x (iK ..)).put
     ·exact O.un y (iX _ hy)
theorem Ob {most:Nat} {was:List LvM} (W:OkL most was):∀{cs:List Cl} {lv:List LvM},OkL most lv→lv.length=was.length→OkL most (yr most was lv cs).2∧(yr most was lv cs).2.length=was.length:=by
 intro cs
 induction cs with
 |nil=>intro lv O hl;exact⟨O,hl⟩
 |cons c cs ih=>
  intro lv O hl;unfold yr
  split
  ·exact ih (Ve O).1 ((Ve O).2.trans hl)
  ·exact⟨W,rfl⟩
theorem qVB {most:Nat} {lv:List LvM} (O:OkL most lv):OkL most (w9 lv).2:=by
 unfold w9
 split
 ·exact O
 ·refine⟨by rw[zO];have:=O.held;simpa using this,O.le,?_,?_,by simp,by simp;omega⟩
  ·intro y hy;rcases List.mem_cons.1 hy with rfl |hy
   ·intro c hc;cases hc
   ·exact O.ins y hy
  ·intro y hy;rcases List.mem_cons.1 hy with rfl |hy
   ·exact List.nodup_nil
   ·exact O.un y hy
theorem qVN {most:Nat} {lv:List LvM} (O:OkL most lv):OkL most (kX lv).2:=by
 unfold kX
 split
 ·exact O
 ·rename_i h1;cases lv with
  |nil=>have:=O.one;simp at this
  |cons x r=>
   have hh:=O.held;have h2:=O.deep;rw[zO]at hh;simp at h1 h2;refine⟨by show yy r≤most;omega,O.le,λy hy=>O.ins y (iX _ hy),λy hy=>O.un y (iX _ hy),?_,by show r.length≤6;omega⟩;show 1≤r.length;cases r with
   |nil=>simp at h1
   |cons _ _=>simp
theorem Uw:∀{cs l:List Cl},(yV l cs).length≤l.length+cs.length:=by
 intro cs
 induction cs with
 |nil=>intro l;exact Nat.le_refl _
 |cons c cs ih=>
  intro l;have:=ih (l:=yz c.1 c.2 l);have h2:=X5 (p:=c.1) (v:=c.2) (l:=l);show(yV (yz c.1 c.2 l) cs).length≤_;rw[List.length_cons]
  split at h2<;>omega
theorem InC.puts:∀{cs l:List Cl},InC l→InC cs→InC (yV l cs):=by
 intro cs
 induction cs with
 |nil=>intro l h _;exact h
 |cons c cs ih=>intro l h hc;exact ih (h.put (hc c (iK ..))) λd hd=>hc d (iX _ hd)
theorem UnC.puts:∀{cs l:List Cl},UnC l→UnC (yV l cs):=by
 intro cs
 induction cs with
 |nil=>intro l h;exact h
 |cons c cs ih=>intro l h;exact ih h.put
theorem qWa {most:Nat} {lv:List LvM} (O:OkL most lv):OkL most (kf lv).2:=by
 match lv,O with
 |[],O=>exact O
 |[x],O=>exact O
 |x::y::r,O=>
  have hh:=O.held;have h2:=O.deep;rw[zO,zO]at hh;have:=Uw (cs:=x.1) (l:=y.1);refine⟨by show yy ((yV y.1 x.1,y.2++x.2)::r)≤most;rw[zO];dsimp only;omega,O.le,?_,?_,by simp[kf],by simp[kf]at h2 ⊢;omega⟩
  ·intro z hz;rcases List.mem_cons.1 hz with rfl |hz
   ·exact(O.ins y osQ).puts (O.ins x osQ)
   ·exact O.ins z (by simp[hz])
  ·intro z hz;rcases List.mem_cons.1 hz with rfl |hz
   ·exact(O.un y osQ).puts
   ·exact O.un z (by simp[hz])
theorem qV8 {most:Nat} {lv:List LvM} {b:Int} (O:OkL most lv):OkL most (JY lv b):=by
 cases lv with
 |nil=>exact O
 |cons x r=>
  refine⟨O.held,O.le,?_,?_,by simp[JY],O.deep⟩
  ·intro z hz;rcases List.mem_cons.1 hz with rfl |hz
   ·exact O.ins x osQ
   ·exact O.ins z (by simp[hz])
  ·intro z hz;rcases List.mem_cons.1 hz with rfl |hz
   ·exact O.un x osQ
   ·exact O.un z (by simp[hz])
end Go.Proofs.YtnalffoigcmnnaaGreatDoor
namespace Go.Proofs.YtnalffoigcmnnaaGreatDoor
open Go Go.Ae
set_option maxRecDepth 100000
variable {g h:AH} {L R:List SP}
def WrC (w m:Nat) (l:List Cl):SP:=.ex λv=>.all [qk w [.int .i64 (m:Int),v],qD 66 2 l.length v (l.flatMap jU)]
theorem WrC.E {w m:Nat} {l:List Cl} (H:HS g h (WrC w m l::R)):∃v,HS g h (qk w [.int .i64 (m:Int),v]::qD 66 2 l.length v (l.flatMap jU)::R):=by obtain⟨v,H⟩:=H.exE;exact⟨v,H.allE⟩
theorem WrC.I {w m:Nat} {l:List Cl} {v:AV} (H:HS g h (qk w [.int .i64 (m:Int),v]::qD 66 2 l.length v (l.flatMap jU)::R)):HS g h (WrC w m l::R) :=
 HS.exI v (HS.allI H)
theorem M5 (l:List Cl):ql (l.flatMap jU)=true:=by unfold ql;rw[List.all_eq_true];intro v hv;obtain⟨c,_,hc⟩:=List.mem_flatMap.1 hv;simp[jU]at hc;rcases hc with rfl |rfl<;>rfl
theorem YJ {l:List Cl} {i:Nat} {c:Cl} (h:l[i]? =some c):((l.flatMap jU).drop (i*2)).take 2=jU c:=by obtain⟨hi,e⟩:=List.getElem?_eq_some_iff.1 h;rw[gk (sz:=2) jU (λ_=>rfl),List.drop_eq_getElem_cons hi,e,List.flatMap_cons];rfl
theorem qGF {l:List Cl} {i:Nat} {p x v:Int} (h:l[i]? =some (p,x)):(l.flatMap jU).set (i*2+1) (.int .u64 v)=(l.set i (p,v)).flatMap jU:=by
 have hi:=(List.getElem?_eq_some_iff.1 h).1;apply List.ext_getElem?;intro j;have hd:j=j/2*2+j%2:=by omega
 have hm:j%2<2:=by omega
 rw[List.getElem?_set,wo (sz:=2) jU (λ_=>rfl)];have e1:=Yy (sz:=2) jU (λ_=>rfl) l (j/2) (j%2) hm;have e2:=Yy (sz:=2) jU (λ_=>rfl) (l.set i (p,v)) (j/2) (j%2) hm;rw[← hd]at e1 e2;rw[e1,e2,List.getElem?_set];by_cases h1:i*2+1=j
 ·have:j/2=i:=by omega
  have h3:j%2=1:=by omega
  rw[iJ h1,iJ omQ,iJ this.symm,iJ hi,h3];rfl
 ·rw[iQ h1];by_cases h2:i=j/2
  ·have h3:j%2=0:=by omega
   rw[iJ h2,iJ hi,h3,← h2,h];rfl
  ·rw[iQ h2]
def zI (o:Option Nat):Int:=match o with |some i=>(i:Int) |none=>-1
theorem MC {n:Nat} (hn:1≤n) {m:Nat} (hm:m≤96) (H:HS g h R):t_w n 122 [.int .i64 (m:Int)] h λv h'=>∃w,v=.ptr w 0∧HS g h' (WrC w m []::R):=by
 refine t_e1 (S:=S122) rfl omQ λk hk=>?_;unfold S122;try simp only[iZ]
 refine jm (zK (qI rfl (qM H rfl λw h2 H2=>qY ⟨w,rfl,?_⟩)));rw[show max ((0:Nat):Int) (min (m:Int) ((96:Nat):Int))=(m:Int) by omega]at H2;exact WrC.I ((H2.nils (e:=66) (sz:=2)).sel (P:=qk w [.int .i64 (m:Int),.nils]) e_1 :)
theorem qXo {n:Nat} (hn:2≤n) {p:Int} {v:AV} {c0:Nat} {l:List Cl} (H:HS g h L) (S:Rd g L 2 l.length v (l.flatMap jU)) (s:Sel L (qk c0 [.int .i64 p]) R) (hl:l.length<1000000) :
  t_w n 276 [v,.fn 277 [] [.ptr c0 0]] h λv h'=>v=.int .i64 (zI (XU p l))∧HS g h' L:=by
 refine t_e2 (S:=S276) rfl omQ λk hk=>?_;unfold S276;try simp only[iZ]
 refine zD (S.sl H) ?_
 refine(jP (λm s h'=>∃i:Nat,s=(.int .i64 (i:Int),.int .i64 (l.length:Int),.fn 277 [] [.ptr c0 0],v,())∧i≤l.length∧m=l.length-i∧HS g h' L∧
  (∀j,j<i→∀c,l[j]? =some c→c.1≠p)) ?_ (m:=l.length) (by show _<1000000000;omega) ⟨0,rfl,by omega,by omega,H,λj hj=>by omega⟩)
 rintro m ih s' h' hih ⟨i,rfl,h1,rfl,H,h2⟩;dsimp only;refine jt (λhlt=>qX ?_) λhge=>qJ (qx (qY ⟨?_,H⟩))
 ·have hi:i<l.length:=by omega
  have hc:l[i]? =some l[i]:=iW hi;refine zf (l:=jU l[i]) (S.sl H) hi omQ (YJ hc) ?_;refine qW (Q':=λv h2=>v=.bool (decide (l[i].1=p))∧HS g h2 L) (qz6 (g:=(tD2 S277)) rfl omQ λk hk=>?_) ?_
  ·show wp (S277 (callT tab qj k) _ _ _).1 _;unfold S277;try simp only[ iZ]
   refine qM H rfl λb h3 H3=>?_;refine qQ (qG ‹_› .here rfl ?_);refine qG H3 (.there s) rfl (Jw (qY ⟨rfl,H3.drop⟩))
  ·rintro _ h3 ⟨rfl,H3⟩;refine MN (λhe=>qx (qY ⟨?_,H3⟩)) λhne=>qU omQ ?_
   ·rw[ZY hi h2 ⟨l[i].2,by rw[hc,← he]⟩];rfl
   ·refine hih (l.length-(i+1)) _ _ omQ ⟨i+1,rfl,by omega,rfl,H3,λj hj c hc'=>?_⟩;by_cases h4:j<i
    ·exact h2 j h4 c hc'
    ·obtain rfl:j=i:=by omega
     rw[hc]at hc';cases hc';exact hne
 ·rw[qGm λc hc=>?_]
  ·rfl
  ·obtain⟨j,hj⟩:=List.getElem?_of_mem hc;exact h2 j (by have:=(List.getElem?_eq_some_iff.1 hj).1;omega) c hj
theorem NY {n:Nat} (hn:3≤n) {w m:Nat} {l:List Cl} {p:Int} (H:HS g h (WrC w m l::R)) (hl:l.length<1000000) :
  t_w n 241 [.ptr w 0,.int .i64 p] h λv h'=>v=.int .i64 (zI (XU p l))∧HS g h' (WrC w m l::R):=by
 refine t_e2 (S:=S241) rfl omQ λk hk=>?_;unfold S241;try simp only[iZ]
 obtain⟨v,H⟩:=WrC.E H;refine JR H ⟨rfl,rfl⟩ λc0 h2 H2=>?_;refine qq (qQ (qG ‹_› e_1 rfl ?_));refine qW (qXo (p:=p) omQ H2 (H2.rd e_2) .here hl) ?_;rintro _ h3 ⟨rfl,H3⟩;exact qY ⟨rfl,WrC.I H3.drop⟩
theorem qQi {n:Nat} (hn:4≤n) {w m:Nat} {l:List Cl} {p:Int} (H:HS g h (WrC w m l::R)) (hl:l.length<1000000) :
  t_w n 265 [.ptr w 0,.int .i64 p] h λv h'=>v=.tup [.int .u64 ((j0 p l).getD 0),.bool (j0 p l).isSome]∧HS g h' (WrC w m l::R):=by
 refine t_e2 (S:=S265) rfl omQ λk hk=>?_;unfold S265;try simp only[iZ]
 refine qW (NY omQ H hl) ?_;rintro _ h3 ⟨rfl,H3⟩;cases hi:XU p l with
 |none=>refine zB (by show¬((0:Nat):Int)≤ -1;omega) ?_;refine qJ ?_;exact qY ⟨by rw[Vx.1 hi];rfl,H3⟩
 |some i=>obtain⟨h1,⟨x,h2,h2'⟩,_⟩:=Ui hi;refine zz (by show((0:Nat):Int)≤(i:Int);omega) ?_;obtain⟨v,H4⟩:=WrC.E H3;refine qX (qq (qQ (qG ‹_› .here rfl ?_)));refine vj (x:=.int .u64 x) (H4.sl e_1) omQ h1 ?_ (qY ⟨by rw[h2'];rfl,H3⟩);rw[Yy (sz:=2) jU (λ_=>rfl) _ _ _ omQ,h2];rfl
theorem qQl {n:Nat} (hn:4≤n) {w m:Nat} {l:List Cl} {p x:Int} (H:HS g h (WrC w m l::R)) (hl:l.length<1000000) :
  t_w n 173 [.ptr w 0,.int .i64 p,.int .u64 x] h λv h'=>v=.int .i64 (J3 m l p x).1∧HS g h' (WrC w m (J3 m l p x).2::R):=by
 refine t_e3 (S:=S173) rfl omQ λk hk=>?_;unfold S173;try simp only[iZ]
 unfold J3;by_cases hp:p<1∨256≤p
 ·rw[iJ hp]
  repeat' (first |with_reducible refine qX ?_ |with_reducible refine qJ ?_ |(with_reducible refine qR ?_;try dsimp only) |(with_reducible refine qf ?_;try dsimp only) |(with_reducible refine qT ?_;try dsimp only) |(with_reducible refine qa ?_;try dsimp only) |(with_reducible refine jc ?_;try dsimp only) |with_reducible refine qC ?_ |with_reducible refine qF ?_ |(with_reducible refine qV ?_;try dsimp only) |with_reducible refine qx ?_ |with_reducible refine qu ?_ |with_reducible refine jQ ?_ |with_reducible refine qU omQ ?_ |with_reducible refine jM omQ ?_ |with_reducible refine xJ omQ ?_ |with_reducible refine xS omQ ?_ |with_reducible refine jm ?_ |with_reducible refine zK ?_ |with_reducible refine qz omQ ?_ |with_reducible refine qZ omQ ?_ |with_reducible refine jq omQ ?_ |with_reducible refine jk omQ ?_ |with_reducible refine zq omQ ?_ |with_reducible refine jo omQ ?_ |with_reducible refine JF omQ ?_ |with_reducible refine X0 omQ ?_ |with_reducible refine xn omQ ?_ |with_reducible refine xc omQ ?_ |with_reducible refine zz omQ ?_ |with_reducible refine zB omQ ?_ |with_reducible refine jt (λhc=>?_) (λhc=>?_) |with_reducible refine gd (λhc=>?_) (λhc=>?_) |with_reducible refine yd (λhc=>?_) (λhc=>?_) |with_reducible refine xT (λhc=>?_) (λhc=>?_) |with_reducible refine vq (λhc=>?_) (λhc=>?_) |with_reducible refine xA (λhc=>?_) (λhc=>?_) |with_reducible refine vP (λhc=>?_) (λhc=>?_))
  all_goals exact qY ⟨rfl,H⟩
 rw[iQ hp];refine jo omQ ?_;refine qV ?_;(try dsimp only);refine qa ?_;(try dsimp only);refine zB omQ ?_;refine qF (qJ ?_)
 refine qW (NY omQ H hl) ?_;rintro _ h3 ⟨rfl,H3⟩;cases hi:XU p l with
 |none=>
  refine zB (by show¬((0:Nat):Int)≤ -1;omega) ?_;have hg:=Vx.1 hi;obtain⟨v,H4⟩:=WrC.E H3;refine qJ (qq (qQ (qG ‹_› .here rfl ?_)));refine qs ‹_› e_1 ?_;refine qq (qQ (qG ‹_› .here rfl ?_));by_cases hf:m≤l.length
  ·rw[iJ ⟨hg,hf⟩];refine zz omQ ?_;refine qX ?_;exact qY ⟨rfl,H3⟩
  ·rw[iQ (λh=>hf h.2)];refine zB omQ ?_;refine qJ (qq (qQ (qG ‹_› .here rfl ?_)));refine qI rfl ?_;refine qr (sz:=2) (l:=[.int .i64 p,.int .u64 x]) H4 rfl rfl rfl rfl λv5 h5 H5=>?_;refine zT (H5.sel e_2) (H5.sl .here) omQ omQ rfl λv6 h6 H6=>?_;refine qq (qQ (qH H6 e_2 (H6.one .here) osQ λh7 H7=>qY ⟨rfl,WrC.I (v:=v6) ?_⟩));rw[QK hg,List.flatMap_append,List.length_append];exact H7.sub (.cons .here (.cons .here (.drop (.refl))))
 |some i=>obtain⟨h1,⟨y,h2,h2'⟩,h5⟩:=Ui hi;refine zz (by show((0:Nat):Int)≤(i:Int);omega) ?_;obtain⟨v,H4⟩:=WrC.E H3;refine qX (qq (qQ (qG ‹_› .here rfl ?_)));rw[iQ (λh=>by rw[h2']at h;cases h.1)];refine qkC (H4.sel e_1) h1 omQ ⟨rfl,rfl⟩ λh6 H6=>qY ⟨rfl,WrC.I (v:=v) ?_⟩;rw[qGF h2]at H6;dsimp only;rw[h5,List.length_set];exact H6.sub (.cons e_1 (.refl))
theorem NX {n:Nat} (hn:1≤n) {v:AV} {l:List Cl} (H:HS g h L) (s:Sel L (qD 66 2 l.length v (l.flatMap jU)) R) (hl:l.length<1000000) :
  t_w n 131 [v] h λv' h'=>HS g h' (qD 66 2 l.length v' (l.flatMap jU)::L):=by
 refine t_e1 (S:=S131) rfl omQ λk hk=>?_;unfold S131;try simp only[iZ]
 refine Je H s (λ_ h0=>qX (qY ?_)) (qJ ?_)
 ·have:=iA h0;subst this;exact H.nils
 ·refine qr (n:=0) (l:=[]) (sz:=2) H rfl rfl rfl rfl λv2 h2 H2=>?_;refine zT H2 (H2.sl (.there s)) omQ omQ (M5 l) λv3 h3 H3=>qY ?_;rw[Nat.zero_add,List.nil_append]at H3;exact H3
theorem Yk {n:Nat} (hn:2≤n) {w m:Nat} {l:List Cl} (H:HS g h (WrC w m l::R)) (hl:l.length<1000000) :
  t_w n 124 [.ptr w 0] h λv h'=>HS g h' (qD 66 2 l.length v (l.flatMap jU)::WrC w m l::R):=by
 refine t_e1 (S:=S124) rfl omQ λk hk=>?_;unfold S124;try simp only[iZ]
 obtain⟨v,H⟩:=WrC.E H;refine qq (qQ (qG ‹_› .here rfl ?_));refine qW (NX omQ H e_1 hl) λv3 h3 H3=>qY ?_;have:=WrC.I (v:=v) (w:=w) (m:=m) (l:=l) (H3.sub (L':=_::_::qD 66 2 l.length v3 (l.flatMap jU)::R) (.cons e_1 (.cons e_1 .refl)));exact this.sub (.cons e_1 (.refl))
theorem qjs {n:Nat} (hn:1≤n) {w m:Nat} {l:List Cl} (H:HS g h (WrC w m l::R)) :
  t_w n 292 [.ptr w 0] h λv h'=>v=.int .i64 (l.length:Int)∧h'=h:=by
 refine t_e1 (S:=S292) rfl omQ λk hk=>?_;unfold S292;try simp only[iZ]
 obtain⟨v,H⟩:=WrC.E H;refine qq (qQ (qG ‹_› .here rfl ?_));refine qs ‹_› e_1 ?_;exact qY ⟨rfl,rfl⟩
def wg (m:Nat) (l cs:List Cl):Int×List Cl:=if(Qp m l cs).1=0 then Qp m l cs else((Qp m l cs).1,l)
theorem Yv {n:Nat} (hn:5≤n) {w m:Nat} {l cs:List Cl} {c:AV} (H:HS g h (WrC w m l::R)) (S:Rd g R 2 cs.length c (cs.flatMap jU)) (hl:l.length<100000) (hc:cs.length<100000) :
  t_w n 123 [.ptr w 0,c] h λv h'=>v=.int .i64 (wg m l cs).1∧HS g h' (WrC w m (wg m l cs).2::R):=by
 refine t_e2 (S:=S123) rfl omQ λk hk=>?_;unfold S123;try simp only[iZ]
 refine qW (Yk omQ H omQ) λv0 h1 H1=>?_;refine zD (S.sl H1.drop.drop) ?_
 refine jP (λk s h'=>∃(i:Nat) (l':List Cl),s=(.int .i64 (i:Int),.int .i64 (cs.length:Int),c,v0,.ptr w 0,())∧i≤cs.length∧k=cs.length-i∧l'.length≤l.length+i∧
  HS g h' (WrC w m l'::qD 66 2 l.length v0 (l.flatMap jU)::R)∧Qp m l cs=Qp m l' (cs.drop i)) ?_ (m:=cs.length) (by show _<1000000000;omega) ⟨0,l,rfl,by omega,by omega,by omega,H1.sub (.cons e_1 (.refl)),rfl⟩
 rintro k ih s h2 hih ⟨i,l',rfl,h1,rfl,hl',H,hT⟩;dsimp only;refine jt (λhlt=>qX ?_) λhge=>qJ (qx (qY ?_))
 ·have hi:i<cs.length:=by omega
  have hci:cs[i]? =some cs[i]:=iW hi;refine zf (l:=jU cs[i]) (S.sl H.drop.drop) hi omQ (YJ hci) ?_;refine qM H rfl λb h3 H3=>qc H3 .here rfl (by show 0+2≤2;omega) rfl λh4 H4=>?_;have H5:HS g h4 (qk b (jU cs[i])::WrC w m l'::qD 66 2 l.length v0 (l.flatMap jU)::R):=H4;unfold jU at H5;refine qQ (qG ‹_› .here rfl ?_);refine qQ (qG ‹_› .here rfl ?_);refine qW (qQl omQ H5.drop omQ) ?_;rintro _ h6 ⟨rfl,H6⟩;rw[List.drop_eq_getElem_cons hi,Zn]at hT;refine xA (λhne=>qX ?_) λhe=>qJ (qU omQ ?_)
  ·have hne:¬(J3 m l' cs[i].1 cs[i].2).1=0:=by simpa using hne
   rw[iQ hne]at hT;obtain⟨v7,H7⟩:=WrC.E H6;refine qq (qQ (qH H7 .here (H7.one e_2) osQ λh8 H8=>qx (qY ?_)));unfold wg;rw[hT,iQ hne];exact⟨rfl,WrC.I (v:=v0) (H8.sub (.cons .here (.cons e_1 (.drop .refl))))⟩
  ·have he':(J3 m l' cs[i].1 cs[i].2).1=0:=by simpa using he
   rw[iJ he']at hT;refine hih (cs.length-(i+1)) _ _ omQ ⟨i+1,_,rfl,by omega,rfl,?_,H6,hT⟩;have:=X5 (p:=cs[i].1) (v:=cs[i].2) (l:=l');unfold J3
   repeat' split
   all_goals dsimp only
   all_goals first |omega |(split at this<;>omega)
 ·rw[List.drop_of_length_le omQ]at hT;have hT:Qp m l cs=(0,l'):=hT;unfold wg;rw[hT,iJ rfl];exact⟨rfl,H.sub (.cons .here (.drop .refl))⟩
end Go.Proofs.YtnalffoigcmnnaaGreatDoor
namespace Go.Proofs.YtnalffoigcmnnaaGreatDoor
open Go Go.Ae
set_option maxRecDepth 100000
variable {g h:AH} {L R:List SP}
def LvC (a:Nat) (x:LvM):SP:=.ex λw=>.ex λfv=>.all [qk a [.ptr w 0,fv],WrC w 96 x.1,qD 3 1 x.2.length fv (x.2.map (.int .i64))]
theorem LvC.E {a:Nat} {x:LvM} (H:HS g h (LvC a x::R)):∃w fv,HS g h (qk a [.ptr w 0,fv]::WrC w 96 x.1::qD 3 1 x.2.length fv (x.2.map (.int .i64))::R):=by obtain⟨w,H⟩:=H.exE;obtain⟨fv,H⟩:=H.exE;exact⟨w,fv,H.allE⟩
theorem LvC.I {a w:Nat} {fv:AV} {x:LvM} (H:HS g h (qk a [.ptr w 0,fv]::WrC w 96 x.1::qD 3 1 x.2.length fv (x.2.map (.int .i64))::R)):HS g h (LvC a x::R) :=
 HS.exI w (HS.exI fv (HS.allI H))
def xF (ps:List Nat):List AV:=ps.reverse.map λa=>.ptr a 0
def LgC (q most:Nat) (lv:List LvM):SP:=.ex λv=>.ex λps:List Nat=>.all (.pur (ps.length=lv.length)::qk q [.int .i64 (most:Int),v]::qD 197 1 lv.length v (xF ps)::List.zipWith LvC ps lv)
theorem LgC.E {q most:Nat} {lv:List LvM} (H:HS g h (LgC q most lv::R)):∃v ps,ps.length=lv.length∧HS g h (qk q [.int .i64 (most:Int),v]::qD 197 1 lv.length v (xF ps)::(List.zipWith LvC ps lv++R)):=by obtain⟨v,H⟩:=H.exE;obtain⟨ps,H⟩:=H.exE;obtain⟨e,H⟩:=HS.purE (H.allE);exact⟨v,ps,e,H⟩
theorem LgC.I {q most:Nat} {lv:List LvM} {v:AV} {ps:List Nat} (e:ps.length=lv.length) (H:HS g h (qk q [.int .i64 (most:Int),v]::qD 197 1 lv.length v (xF ps)::(List.zipWith LvC ps lv++R))):HS g h (LgC q most lv::R) :=
 HS.exI v (HS.exI ps (HS.allI (HS.purI e H)))
theorem LgC.E1 {q most:Nat} {x:LvM} {r:List LvM} (H:HS g h (LgC q most (x::r)::R)):∃v a ps,ps.length=r.length∧HS g h (qk q [.int .i64 (most:Int),v]::qD 197 1 (r.length+1) v (xF (a::ps))::LvC a x::(List.zipWith LvC ps r++R)):=by
 obtain⟨v,ps,e,H⟩:=LgC.E H;cases ps with
 |nil=>simp at e
 |cons a ps=>exact⟨v,a,ps,by simpa using e,H⟩
theorem LgC.I1 {q most:Nat} {x:LvM} {r:List LvM} {v:AV} {a:Nat} {ps:List Nat} (e:ps.length=r.length) (H:HS g h (qk q [.int .i64 (most:Int),v]::qD 197 1 (r.length+1) v (xF (a::ps))::LvC a x::(List.zipWith LvC ps r++R))):HS g h (LgC q most (x::r)::R) :=
 LgC.I (ps:=a::ps) (by simp[e]) H
theorem O8 (a:Nat) (ps:List Nat):(xF (a::ps))[ps.length]? =some (.ptr a 0):=by unfold xF;rw[List.reverse_cons,List.map_append,List.getElem?_append_right osQ];simp
theorem Y0 {ps:List Nat} {i:Nat} (hi:i<ps.length):(xF ps)[i]? =(ps[ps.length-1-i]?).map λa=>.ptr a 0:=by unfold xF;rw[List.getElem?_map,List.getElem?_reverse hi]
theorem G1 {ps:List Nat}:∀{lv:List LvM} {i a:Nat} {x:LvM},ps[i]? =some a→lv[i]? =some x→∃T,Sel (List.zipWith LvC ps lv++R) (LvC a x) T:=by
 induction ps with
 |nil=>intro lv i a x h;simp at h
 |cons b ps ih=>
  intro lv i a x h1 h2;cases lv with
  |nil=>simp at h2
  |cons y lv=>
   cases i with
   |zero=>simp at h1 h2;subst h1;subst h2;exact⟨_,.here⟩
   |succ i=>obtain⟨T,s⟩:=ih (lv:=lv) (i:=i) (by simpa using h1) (by simpa using h2);exact⟨_,.there s⟩
theorem Xx {n q:Nat} (hn:1≤n) {m v:AV} {a:Nat} {ps:List Nat} {R1 R2:List SP} {e:TypeId} (H:HS g h L) (s1:Sel L (qk q [m,v]) R1) (s2:Sel L (qD e 1 (ps.length+1) v (xF (a::ps))) R2) (hl:ps.length<1000000) :
  t_w n 266 [.ptr q 0] h λr h'=>r=.ptr a 0∧h'=h:=by
 refine t_e1 (S:=S266) rfl omQ λk hk=>?_;unfold S266;try simp only[iZ]
 refine qq (qQ (qG H s1 rfl (qq (qQ (qG H s1 rfl (qs H s2 (jM omQ ?_)))))));rw[show((ps.length+1:Nat):Int)-((1:Nat):Int)=((ps.length:Nat):Int) by omega];exact jA (H.sl s2) (O8 a ps) (qY ⟨rfl,rfl⟩)
theorem VR {n:Nat} (hn:2≤n) (H:HS g h R):t_w n 138 [] h λv h'=>∃a,v=.ptr a 0∧HS g h' (LvC a ([],[])::R):=by
 refine t_e0 (S:=S138) rfl omQ λk hk=>?_;unfold S138;try simp only[iZ]
 refine qW (MC (m:=96) omQ omQ H) ?_;rintro _ h2 ⟨w,rfl,H2⟩;refine qI rfl (qM H2 rfl λa h3 H3=>qY ⟨a,rfl,?_⟩);exact LvC.I (w:=w) (fv:=.nils) ((H3.nils (e:=3) (sz:=1)).sub (.cons e_1 (.cons e_1 (.cons .here (.refl)))))
theorem qzn {n:Nat} (hn:3≤n) {m:Int} (H:HS g h R):t_w n 103 [.int .i64 m] h λv h'=>∃q,v=.ptr q 0∧HS g h' (LgC q (max 0 (min m 96)).toNat [([],[])]::R):=by
 refine t_e1 (S:=S103) rfl omQ λk hk=>?_;unfold S103;try simp only[iZ]
 refine jm (zK (qW (VR omQ H) ?_));rintro _ h2 ⟨a,rfl,H2⟩;refine qr (n:=1) (l:=[.ptr a 0]) (sz:=1) H2 rfl rfl rfl rfl λv h3 H3=>?_;have h1:=H3.one .here;refine qI (l:=[.int .i64 (max ((0:Nat):Int) (min m ((96:Nat):Int))),v]) (by simp only[vB,h1.1];rfl) ?_;refine qM H3 (by show(true&&(v.one&&true))=true;rw[h1.2];rfl) λq h4 H4=>qY ⟨q,rfl,?_⟩;refine LgC.I1 (v:=v) (a:=a) (ps:=[]) rfl ?_;rw[show(((max 0 (min m 96)).toNat:Nat):Int)=max ((0:Nat):Int) (min m ((96:Nat):Int)) by omega];exact H4
theorem qV9 {n q most:Nat} (hn:2≤n) {lv:List LvM} {b:Int} (H:HS g h (LgC q most lv::R)) (O:OkL most lv) (hf:∀x∈lv,x.2.length<1000000) :
  t_w n 269 [.ptr q 0,.int .i64 b] h λ_ h'=>HS g h' (LgC q most (JY lv b)::R):=by
 cases lv with
 |nil=>have:=O.one;simp at this
 |cons x r=>
 refine t_e2 (S:=S269) rfl omQ λk hk=>?_;unfold S269;try simp only[iZ]
 obtain⟨v,a,ps,e,H⟩:=LgC.E1 H;rw[← e]at H;refine qW (Xx omQ H .here e_1 (by have:=O.deep;simp at this;omega)) ?_;rintro _ _ ⟨rfl,rfl⟩;obtain⟨w,fv,H2⟩:=LvC.E (H.sel e_2);refine qq (qQ (qG ‹_› .here rfl ?_));refine qr (n:=1) (l:=[.int .i64 b]) (sz:=1) H2 rfl rfl rfl rfl λv3 h3 H3=>?_;have:=hf x (iK ..);refine zT (H3.sel (P:=qD 3 1 x.2.length fv (x.2.map (.int .i64))) e_3) (H3.sl .here) omQ omQ rfl λv4 h4 H4=>?_;refine qq (qQ (qH H4 e_2 (H4.one .here) osQ λh5 H5=>qY ?_));refine LgC.I1 (v:=v) (a:=a) (ps:=ps) e ?_;rw[← e];have:=LvC.I (a:=a) (w:=w) (fv:=v4) (x:=(x.1,x.2++[b])) (R:=qk q [.int .i64 (most:Int),v]::qD 197 1 (ps.length+1) v (xF (a::ps))::(List.zipWith LvC ps r++R))
  (by rw[List.map_append,List.length_append];exact H5.sub (.cons .here (.cons e_2 (.cons .here (.cons e_1 (.cons e_1 (.drop (.refl))))))))
 exact this.sub (.cons e_1 (.cons e_1 (.refl)))
theorem qZc {n q most:Nat} (hn:1≤n) {lv:List LvM} (H:HS g h (LgC q most lv::R)) (O:OkL most lv) (hf:(vz lv).length<1000000) :
  t_w n 87 [.ptr q 0] h λv h'=>HS g h' (qD 3 1 (vz lv).length v ((vz lv).map (.int .i64))::LgC q most lv::R):=by
 refine t_e1 (S:=S87) rfl omQ λk hk=>?_;unfold S87;try simp only[iZ]
 have hd:=O.deep;obtain⟨v,ps,e,H⟩:=LgC.E H;refine qq (qQ (qG ‹_› .here rfl ?_));refine qs ‹_› e_1 ?_
 refine jP (λm s h'=>∃(i:Nat) (acc:AV),s=(.int .i64 (i:Int),.int .i64 (lv.length:Int),v,acc,())∧i≤lv.length∧m=lv.length-i∧
  HS g h' (qD 3 1 ((lv.reverse.take i).flatMap (·.2)).length acc (((lv.reverse.take i).flatMap (·.2)).map (.int .i64))::qk q [.int .i64 (most:Int),v]::qD 197 1 lv.length v (xF ps)::(List.zipWith LvC ps lv++R)))
  ?_ (m:=lv.length) (by have:=O.deep;show _<1000000000;omega) ⟨0,.nils,rfl,by omega,by omega,H.nils⟩
 rintro m ih s h' hih ⟨i,acc,rfl,h1,rfl,H⟩;dsimp only;refine jt (λhlt=>qX ?_) λhge=>qJ (qx (qY ?_))
 ·have hi:i<lv.length:=by omega
  have ha:ps[ps.length-1-i]? =some (ps[ps.length-1-i]'omQ):=iW _;have hx:lv[ps.length-1-i]? =some (lv[ps.length-1-i]'omQ):=iW _;generalize ps[ps.length-1-i]'omQ=a at ha;have hx2:lv.reverse[i]? =some (lv[ps.length-1-i]'omQ):=by rw[List.getElem?_reverse hi,← hx,e]
  generalize lv[ps.length-1-i]'omQ=x at hx hx2;refine jA (H.sl e_2) (by rw[Y0 omQ,ha];rfl) ?_;obtain⟨T,s⟩:=G1 (R:=R) ha hx;have H2:=H.sel (.there (.there (.there s)));obtain⟨w,fv,H3⟩:=LvC.E H2;refine qq (qQ (qG ‹_› .here rfl ?_));have hlen:((lv.reverse.take i).flatMap (·.2)).length+x.2.length≤(vz lv).length:=by
   have e1:lv.reverse.flatMap (·.2)=(lv.reverse.take (i+1)).flatMap (·.2)++(lv.reverse.drop (i+1)).flatMap (·.2):=by rw[← List.flatMap_append,List.take_append_drop]
   unfold vz;rw[e1,List.take_add_one,hx2];simp
  refine zT (H3.sel (P:=qD 3 1 ((lv.reverse.take i).flatMap (·.2)).length acc (((lv.reverse.take i).flatMap (·.2)).map (.int .i64))) e_3) (H3.sl e_2) omQ omQ ?_ λv4 h4 H4=>qU omQ ?_
  ·simp[ql,AV.one]
  refine hih (lv.length-(i+1)) _ _ omQ ⟨i+1,v4,rfl,by omega,rfl,?_⟩;rw[List.take_add_one,hx2,Option.toList_some,List.flatMap_append,List.map_append,List.length_append,List.flatMap_cons,List.flatMap_nil,List.append_nil];have H5:=LvC.I (a:=a) (w:=w) (fv:=fv) (x:=x) (H4.sub (.cons e_1 (.cons e_1 (.cons e_1 .refl))));exact HS.unsel (.there (.there (.there s))) (H5.sub (.refl))
 ·obtain rfl:i=lv.length:=by omega
  rw[List.take_of_length_le osQ]at H;exact(LgC.I (v:=v) (ps:=ps) e (HS.back (A:=_::_::List.zipWith LvC ps lv) H)).sub (.cons e_1 (.refl))
theorem rsum (l:List Nat):l.reverse.sum=l.sum:=by
 induction l with
 |nil=>rfl
 |cons a l ih=>rw[List.reverse_cons,List.sum_append,ih,List.sum_cons];simp[Nat.add_comm]
theorem qX9 {n q most:Nat} (hn:2≤n) {lv:List LvM} (H:HS g h (LgC q most lv::R)) (O:OkL most lv) :
  t_w n 267 [.ptr q 0] h λv h'=>v=.int .i64 ((most:Int)-(yy lv:Int))∧h'=h:=by
 refine t_e1 (S:=S267) rfl omQ λk hk=>?_;unfold S267;try simp only[iZ]
 obtain⟨v,ps,e,H⟩:=LgC.E H;have hh:=O.held;have hl:=O.le;have hd:=O.deep;refine qq (qQ (qG ‹_› .here rfl ?_));refine qq (qQ (qG ‹_› .here rfl ?_));refine qs ‹_› e_1 ?_;refine jP (λm s h'=>∃(i:Nat),s=(.int .i64 (i:Int),.int .i64 (lv.length:Int),v,.int .i64 ((most:Int)-(((lv.reverse.take i).map λx=>x.1.length).sum:Nat)),())∧i≤lv.length∧m=lv.length-i∧h'=h)
  ?_ (m:=lv.length) (by show _<1000000000;omega) ⟨0,by simp,by omega,by omega,rfl⟩
 rintro m ih s h' hih ⟨i,rfl,h1,rfl,rfl⟩;dsimp only;have hsum:∀j,((lv.reverse.take j).map λx=>x.1.length).sum+((lv.reverse.drop j).map λx=>x.1.length).sum=yy lv:=by intro j;rw[← List.sum_append,← List.map_append,List.take_append_drop,List.map_reverse,rsum];rfl
 refine jt (λhlt=>qX ?_) λhge=>qJ (qx (qY ⟨?_,rfl⟩))
 ·have hi:i<lv.length:=by omega
  have ha:ps[ps.length-1-i]? =some (ps[ps.length-1-i]'omQ):=iW _;have hx:lv[ps.length-1-i]? =some (lv[ps.length-1-i]'omQ):=iW _;generalize ps[ps.length-1-i]'omQ=a at ha;have hx2:lv.reverse[i]? =some (lv[ps.length-1-i]'omQ):=by rw[List.getElem?_reverse hi,← hx,e]
  generalize lv[ps.length-1-i]'omQ=x at hx hx2;refine jA (H.sl e_1) (by rw[Y0 omQ,ha];rfl) ?_;obtain⟨T,s⟩:=G1 (R:=R) ha hx;obtain⟨w,fv,H3⟩:=LvC.E (H.sel (.there (.there s)));refine qq (qQ (qG ‹_› .here rfl ?_));refine qW (qjs omQ (H3.sel e_1)) ?_;rintro _ _ ⟨rfl,rfl⟩;have h2:=hsum i;have h3:=hsum (i+1);have h4:((lv.reverse.take (i+1)).map λx=>x.1.length).sum=((lv.reverse.take i).map λx=>x.1.length).sum+x.1.length:=by rw[List.take_add_one,hx2,Option.toList_some,List.map_append,List.sum_append];simp
  refine jM omQ (qU omQ (hih (lv.length-(i+1)) _ _ omQ ⟨i+1,?_,by omega,rfl,rfl⟩));rw[h4];refine Prod.ext ?_ (Prod.ext rfl (Prod.ext rfl (Prod.ext ?_ rfl)))
  ·show AV.int _ _=AV.int _ _
   congr 1
  ·show AV.int _ _=AV.int _ _
   congr 1
   omega
 ·have h2:=hsum i;rw[List.drop_of_length_le (by simp;omega)]at h2;rw[show((lv.reverse.take i).map λx=>x.1.length).sum=yy lv by simpa using h2]
theorem qQP {k b0 l:Nat} {v:AV} {ps:List Nat} {Inv:Nat→AH→Prop} {Fin:AH→Prop}
  (hrd:∀i h,Inv i h→h.at b0 0=some v∧Sl (λ_=>True) h 1 ps.length v (xF ps))
  (hy:∀i a h,ps[i]? =some a→Inv i h→wp (callT tab qj k (.yield l) [.int .i64 ((ps.length-1-i:Nat):Int),.ptr a 0] h) λr h'=>(r=.bool true∧Inv (i+1) h')∨(r=.bool false∧Fin h'))
  (hl:ps.length<1000000) (h0:Inv 0 h):wp (callT tab qj (k+1) (.fn 172 [] [.ptr b0 0]) [.yield l] h) λ_ h'=>Inv ps.length h'∨Fin h':=by
 refine qz6 (g:=(tD2 S172)) rfl omQ λk' hk=>?_;obtain rfl:k'=k:=by omega
 show wp (S172 _ _ _ _).1 _;unfold S172
 try simp only[iI,uU,iZ]
 obtain⟨r1,r2⟩:=hrd 0 h h0;refine kc r1 (zD r2 (jM omQ ?_));refine jP (λm s h'=>∃i:Nat,s=(.int .i64 ((ps.length:Int)-((1:Nat):Int)-(i:Int)),.ptr b0 0,.yield l,())∧i≤ps.length∧m=ps.length-i∧Inv i h') ?_ (m:=ps.length) (by show _<1000000000;omega) ⟨0,by simp,by omega,by omega,h0⟩;rintro m ih s h' hih ⟨i,rfl,h1,rfl,hI⟩;dsimp only;obtain⟨r1,r2⟩:=hrd i h' hI;refine xT (λhlt=>qX ?_) λhge=>qJ (qx (qY (.inl ?_)))
 ·have hi:i<ps.length:=by omega
  have ha:ps[i]? =some ps[i]:=iW hi;rw[show(ps.length:Int)-((1:Nat):Int)-(i:Int)=((ps.length-1-i:Nat):Int) by omega];refine kc r1 (jA r2 (by rw[Y0 omQ,show ps.length-1-(ps.length-1-i)=i by omega,ha];rfl) ?_);refine qW (hy i _ h' ha hI) ?_;rintro _ h2 (⟨rfl,hI2⟩ |⟨rfl,hF⟩)
  ·refine qu (qJ (jM omQ (hih (ps.length-(i+1)) _ _ omQ ⟨i+1,?_,by omega,rfl,hI2⟩)));refine Prod.ext ?_ rfl;show AV.int _ _=AV.int _ _
   congr 1
   omega
  ·exact jQ (qX (qx (qY (.inr hF))))
 ·obtain rfl:i=ps.length:=by omega
  exact hI
theorem qJ5 {p:Int}:∀{lv:List LvM},(∀(j:Nat) x,lv[j]? =some x→j0 p x.1=none)→YM p lv=none:=by
 intro lv
 induction lv with
 |nil=>intro _;rfl
 |cons x r ih=>intro h;unfold YM;rw[h 0 x rfl];exact ih λj y hy=>h (j+1) y (by simpa using hy)
theorem qZn {p v:Int}:∀{lv:List LvM} {i:Nat} {x:LvM},(∀j,j<i→∀x,lv[j]? =some x→j0 p x.1=none)→lv[i]? =some x→j0 p x.1=some v→YM p lv=some v:=by
 intro lv
 induction lv with
 |nil=>intro i x _ h;simp at h
 |cons y r ih=>
  intro i x h1 h2 h3;unfold YM;cases i with
  |zero=>simp at h2;subst h2;rw[h3]
  |succ i=>rw[h1 0 omQ y rfl];exact ih (i:=i) (x:=x) (λj hj z hz=>h1 (j+1) omQ z (by simpa using hz)) (by simpa using h2) h3
theorem OkL.len {most:Nat} {lv:List LvM} (O:OkL most lv) {x:LvM} (hx:x∈lv):x.1.length≤96:=by
 have h1:=O.held;have h2:=O.le;have:x.1.length≤yy lv:=by
  clear h1 O
  induction lv with
  |nil=>cases hx
  |cons y r ih=>
   rw[zO];rcases List.mem_cons.1 hx with rfl |hx
   ·omega
   ·have:=ih hx;omega
 omega
theorem Gw {n:Nat} (hn:1≤n) {v:AV} (h1:One v) (H:HS g h L):t_w n 121 [v] h λr h'=>∃b,r=.fn 172 [] [.ptr b 0]∧HS g h' (qk b [v]::L):=by
 refine t_e1 (S:=S121) rfl omQ λk hk=>?_;unfold S121;try simp only[iZ]
 exact JR H h1 λb h2 H2=>qY ⟨b,rfl,H2⟩
theorem qzF {n q most:Nat} (hn:8≤n) {lv:List LvM} {p:Int} (H:HS g h (LgC q most lv::R)) (O:OkL most lv) :
  t_w n 224 [.ptr q 0,.int .i64 p] h λv h'=>v=.tup [.int .u64 ((YM p lv).getD 0),.bool (YM p lv).isSome]∧HS g h' (LgC q most lv::R):=by
 (refine qy (g:=W224) rfl omQ λk hk=>?_;show wp (S224 (callT tab qj k) _ _ _) _;unfold S224;try simp only[iI,uU,iZ])
 obtain⟨v,ps,e,H⟩:=LgC.E H;have hd:=O.deep;refine JR H ⟨rfl,rfl⟩ λb1 h1 H=>JR H ⟨rfl,rfl⟩ λb2 h2 H=>JR H ⟨rfl,rfl⟩ λb3 h3 H=>?_;refine qq (qQ (qG ‹_› e_3 rfl ?_));refine qW (Gw omQ (H.one e_4) H) ?_;rintro _ h4 ⟨b4,rfl,H⟩;have H5:=(H.newBlk .dfd).newBlk (.loop .ready none 224 [1,0,1,0] [5,4,3] [.ptr b3 0,.ptr b2 0,.ptr b1 0] h4.nx);generalize(h4.new .dfd).nx=l at H5 ⊢;generalize h4.nx=d at H5 ⊢;obtain⟨k2,rfl⟩:∃k2,k=k2+1:=⟨k-1,by omega⟩
 refine Me (qQP (b0:=b4) (v:=v) (ps:=ps)
  (Inv:=λi h'=>HS g h' (wB l (.loop .ready none 224 [1,0,1,0] [5,4,3] [.ptr b3 0,.ptr b2 0,.ptr b1 0] d)::wB d .dfd::qk b4 [v]::qk b3 [.bool false]::qk b2 [.int .u64 ((0:Nat):Int)]::qk b1 [.int .i64 p]::
   qk q [.int .i64 (most:Int),v]::qD 197 1 lv.length v (xF ps)::(List.zipWith LvC ps lv++R))∧∀j,j<i→∀x,lv[j]? =some x→j0 p x.1=none)
  (Fin:=λh'=>∃x,YM p lv=some x∧HS g h' (wB l (.loop .done (some .ret) 224 [1,0,1,0] [5,4,3] [.ptr b3 0,.ptr b2 0,.ptr b1 0] d)::wB d .dfd::qk b4 [v]::qk b3 [.bool true]::qk b2 [.int .u64 x]::qk b1 [.int .i64 p]::
   qk q [.int .i64 (most:Int),v]::qD 197 1 lv.length v (xF ps)::(List.zipWith LvC ps lv++R)))
  ?_ ?_ omQ ⟨H5,λj hj=>by omega⟩) ?_
 ·rintro i h' ⟨H,_⟩;obtain⟨et,A⟩:=H.obj (b:=b4) e_2;exact⟨A.at 0,e▸H.sl e_7⟩
 ·rintro i a h' ha ⟨H,hno⟩;have hi:=(List.getElem?_eq_some_iff.1 ha).1;have hx:lv[i]? =some (lv[i]'omQ):=iW _;have hm:lv[i]'omQ∈lv:=List.getElem_mem _;generalize lv[i]'omQ=x at hx hm;have hxl:=O.len hm;refine Ms (H.blk .here) (w:=V1) rfl omQ λk3 hk3=>?_;show wp (B1 _ _ _ _ _ (.int .i64 ((ps.length-1-i:Nat):Int)) _ _) _;unfold B1
  try simp only[iI,uU,iZ]
  refine NU H .here λh6 H=>?_;obtain⟨T,s⟩:=G1 (R:=R) ha hx;obtain⟨w,fv,H7⟩:=LvC.E (H.sel (.there (.there (.there (.there (.there (.there (.there (.there s)))))))));refine qq (qQ (qG ‹_› .here rfl ?_));refine qG ‹_› e_8 rfl ?_;refine qW (qQi omQ (H7.sel e_1) omQ) ?_;rintro _ h8 ⟨rfl,H8⟩;refine qw rfl ?_;refine qw rfl ?_;cases hg:j0 p x.1 with
  |none=>
   refine qJ (qQO H8 e_3 λh9 H9=>.inl ⟨rfl,?_,λj hj y hy=>?_⟩)
   ·have H10:=LvC.I (a:=a) (w:=w) (fv:=fv) (x:=x) (H9.sub (.cons e_2 (.cons e_1 (.cons e_1 .refl))));exact HS.unsel (.there (.there (.there (.there (.there (.there (.there (.there s)))))))) (H10.sub (.refl))
   ·by_cases hj':j<i
    ·exact hno j hj' y hy
    ·obtain rfl:j=i:=by omega
     rw[hx]at hy;cases hy;exact hg
  |some z=>refine qX (qH H8 (b:=b2) e_7 ⟨rfl,rfl⟩ osQ λh9 H9=>qH H9 (b:=b3) e_7 ⟨rfl,rfl⟩ osQ λh10 H10=>qji H10 e_5 λh11 H11=>.inr ⟨rfl,z,qZn hno hx hg,?_⟩);have H12:=LvC.I (a:=a) (w:=w) (fv:=fv) (x:=x) (H11.sub (.cons e_4 (.cons e_3 (.cons e_3 .refl))));exact HS.unsel (.there (.there (.there (.there (.there (.there (.there (.there s)))))))) (H12.sub (.cons .here (.cons .here (.cons e_2 (.cons e_2 (.cons .here (.cons .here (.refl))))))))
 ·rintro _ h6 (⟨H,hno⟩ |⟨x,hx,H⟩)
  ·have hg:YM p lv=none:=qJ5 λj x hj=>hno j (by have:=(List.getElem?_eq_some_iff.1 hj).1;omega) x hj;refine MZ H .here (λh=>by cases h) λh7 H=>N1 (qH H (b:=b2) e_4 ⟨rfl,rfl⟩ osQ λh8 H=>qH H (b:=b3) e_4 ⟨rfl,rfl⟩ osQ λh9 H=>Y1 H e_3 λh10 H=>?_);refine qG ‹_› e_2 rfl ?_;refine qG ‹_› e_1 rfl ?_;refine qY ⟨by rw[hg];rfl,?_⟩;exact LgC.I (v:=v) (ps:=ps) e (H.sub (.cons e_6 (.cons e_6 (.drop (.drop (.drop (.drop (.drop (.drop (.refl))))))))))
  ·refine MZ H .here (λh=>by cases h) λh7 H=>qYF (qx9 rfl (Y1 H e_1 λh8 H=>?_));refine qG ‹_› e_4 rfl ?_;refine qG ‹_› e_3 rfl ?_;refine qY ⟨by rw[hx];rfl,?_⟩;exact LgC.I (v:=v) (ps:=ps) e (H.sub (.cons e_6 (.cons e_6 (.drop (.drop (.drop (.drop (.drop (.drop (.refl))))))))))
theorem qxO {x:LvM} {r:List LvM} {most:Nat} {p v:Int} (O:OkL most (x::r)) (hp:¬(p<1∨256≤p)) (hf:¬(j0 p x.1=none∧most≤yy (x::r))):J3 96 x.1 p v=(0,yz p v x.1):=by have h1:=O.held;have h2:=O.le;rw[zO]at h1 hf;unfold J3;rw[iQ hp,iQ (λh=>hf ⟨h.1,by omega⟩)]
theorem qQ0 {n q most:Nat} (hn:5≤n) {lv:List LvM} {p v:Int} (H:HS g h (LgC q most lv::R)) (O:OkL most lv) :
  t_w n 225 [.ptr q 0,.int .i64 p,.int .u64 v] h λr h'=>r=.int .i64 (vk most lv p v).1∧HS g h' (LgC q most (vk most lv p v).2::R):=by
 cases lv with
 |nil=>have:=O.one;simp at this
 |cons x r=>
 have hxl:=O.len (x:=x) (iK ..);refine t_e3 (S:=S225) rfl omQ λk hk=>?_;unfold S225;try simp only[iZ]
 unfold vk;by_cases hp:p<1∨256≤p
 ·simp only[iJ hp]
  repeat' (first |with_reducible refine qX ?_ |with_reducible refine qJ ?_ |(with_reducible refine qR ?_;try dsimp only) |(with_reducible refine qf ?_;try dsimp only) |(with_reducible refine qT ?_;try dsimp only) |(with_reducible refine qa ?_;try dsimp only) |(with_reducible refine jc ?_;try dsimp only) |with_reducible refine qC ?_ |with_reducible refine qF ?_ |(with_reducible refine qV ?_;try dsimp only) |with_reducible refine qx ?_ |with_reducible refine qu ?_ |with_reducible refine jQ ?_ |with_reducible refine qU omQ ?_ |with_reducible refine jM omQ ?_ |with_reducible refine xJ omQ ?_ |with_reducible refine xS omQ ?_ |with_reducible refine jm ?_ |with_reducible refine zK ?_ |with_reducible refine qz omQ ?_ |with_reducible refine qZ omQ ?_ |with_reducible refine jq omQ ?_ |with_reducible refine jk omQ ?_ |with_reducible refine zq omQ ?_ |with_reducible refine jo omQ ?_ |with_reducible refine JF omQ ?_ |with_reducible refine X0 omQ ?_ |with_reducible refine xn omQ ?_ |with_reducible refine xc omQ ?_ |with_reducible refine zz omQ ?_ |with_reducible refine zB omQ ?_ |with_reducible refine jt (λhc=>?_) (λhc=>?_) |with_reducible refine gd (λhc=>?_) (λhc=>?_) |with_reducible refine yd (λhc=>?_) (λhc=>?_) |with_reducible refine xT (λhc=>?_) (λhc=>?_) |with_reducible refine vq (λhc=>?_) (λhc=>?_) |with_reducible refine xA (λhc=>?_) (λhc=>?_) |with_reducible refine vP (λhc=>?_) (λhc=>?_))
  all_goals exact qY ⟨rfl,H⟩
 simp only[iQ hp];refine jo omQ ?_;refine qV ?_;(try dsimp only);refine qa ?_;(try dsimp only);refine zB omQ ?_;refine qF (qJ ?_)
 have hH:=H;obtain⟨sv,a,ps,e,H⟩:=LgC.E1 H;rw[← e]at H;refine qW (Xx omQ H .here e_1 (by have:=O.deep;simp at this;omega)) ?_;rintro _ _ ⟨rfl,rfl⟩;obtain⟨w,fv,H2⟩:=LvC.E (H.sel e_2);refine qq (qQ (qG ‹_› .here rfl ?_));refine qW (qQi omQ (H2.sel e_1) omQ) ?_;rintro _ h3 ⟨rfl,H3⟩;refine qw rfl ?_;refine qw rfl ?_;have H4:HS g h3 (LgC q most (x::r)::R):=by have H4:=LvC.I (a:=a) (w:=w) (fv:=fv) (x:=x) (H3.sub (.cons e_1 (.cons .here .refl)));refine LgC.I1 (v:=sv) (a:=a) (ps:=ps) e ?_;rw[← e];exact H4.sub (.cons e_1 (.cons e_1 (.refl)))
 have fin:¬(j0 p x.1=none∧most≤yy (x::r))→∀h5,HS g h5 (WrC w 96 x.1::qk a [.ptr w 0,fv]::qD 3 1 x.2.length fv (x.2.map (.int .i64))::qk q [.int .i64 (most:Int),sv]::qD 197 1 (ps.length+1) sv (xF (a::ps))::(List.zipWith LvC ps r++R))→
   t_w k 173 [.ptr w 0,.int .i64 p,.int .u64 v] h5 λr' h'=>r'=.int .i64 0∧HS g h' (LgC q most ((yz p v x.1,x.2)::r)::R):=by
  intro hf h5 H5;refine(qQl omQ H5 omQ).mono ?_;rintro _ h6 ⟨rfl,H6⟩;rw[qxO O hp hf]at H6 ⊢;refine⟨rfl,LgC.I1 (v:=sv) (a:=a) (ps:=ps) e ?_⟩;rw[← e];have H7:=LvC.I (a:=a) (w:=w) (fv:=fv) (x:=(yz p v x.1,x.2)) (H6.sub (.cons e_1 (.cons .here .refl)));exact H7.sub (.cons e_1 (.cons e_1 (.refl)))
 cases hg:j0 p x.1 with
 |some z=>
  simp only[Option.isSome_some];refine qu (qV ?_);(try dsimp only);refine qT ?_;(try dsimp only);refine qF (qJ ?_)
  rw[iQ (λh=>by cases h.1)];refine qW (fin (λh=>by rw[hg]at h;cases h.1) h3 (H3.sub (.refl))) ?_;rintro _ h6 ⟨rfl,H6⟩;exact qY ⟨rfl,H6⟩
 |none=>
  simp only[Option.isSome_none];refine jQ (qV ?_);(try dsimp only);refine qR ?_;(try dsimp only)
  refine qW (qX9 omQ H4 O) ?_;rintro _ _ ⟨rfl,rfl⟩;have hh:=O.held;refine vq (λh0=>?_) λh0=>?_
  ·refine qC (qX ?_);rw[iJ ⟨by trivial,by omega⟩];exact qY ⟨rfl,H4⟩
  ·refine qC (qJ ?_);rw[iQ (λh=>h0 omQ)];refine qW (fin (λh=>h0 omQ) _ (H3.sub (.refl))) ?_;rintro _ h6 ⟨rfl,H6⟩;exact qY ⟨rfl,H6⟩
theorem Y5 {most:Nat} {x:LvM} {r:List LvM} {p v:Int}:∃c,(vk most (x::r) p v).2=(c,x.2)::r:=by
 unfold vk;dsimp only
 split
 ·exact⟨x.1,rfl⟩
 ·split
  ·exact⟨x.1,rfl⟩
  ·exact⟨_,rfl⟩
theorem qGR {n q most:Nat} (hn:7≤n) {lv:List LvM} {cs:List Cl} {c:AV} (H:HS g h (LgC q most lv::R)) (O:OkL most lv) (S:Rd g R 2 cs.length c (cs.flatMap jU)) (hc:cs.length<100000) :
  t_w n 243 [.ptr q 0,c] h λr h'=>r=.int .i64 (yr most lv lv cs).1∧HS g h' (LgC q most (yr most lv lv cs).2::R):=by
 cases lv with
 |nil=>have:=O.one;simp at this
 |cons x r=>
 have hxl:=O.len (x:=x) (iK ..);have hxi:=O.ins x (iK ..);have hxu:=O.un x (iK ..);refine t_e2 (S:=S243) rfl omQ λk hk=>?_;unfold S243;try simp only[iZ]
 refine qW (MC (m:=96) omQ omQ H) ?_;rintro _ h1 ⟨w0,rfl,H1⟩;obtain⟨sv,a,ps,e,H2⟩:=LgC.E1 (H1.sel e_1);rw[← e]at H2;refine qW (Xx omQ H2 .here e_1 (by have:=O.deep;simp at this;omega)) ?_;rintro _ _ ⟨rfl,rfl⟩;obtain⟨w,fv,H3⟩:=LvC.E (H2.sel e_2);refine qq (qQ (qG ‹_› .here rfl ?_));refine qW (Yk omQ (H3.sel (P:=WrC w 96 x.1) e_1) omQ) λva h4 H4=>?_;refine qW (Yv (cs:=x.1) (l:=[]) (m:=96) (w:=w0) omQ (H4.sel (.there (.there (.there (.there (.there (.there (Sel.skip _ .here))))))))  (.own .here) osQ omQ) ?_;rintro _ h5 ⟨_,H5⟩;have ht:wg 96 [] x.1=(0,x.1):=by unfold wg;rw[YX hxi (by simpa using hxl),VI hxu,iJ rfl]
 rw[ht]at H5;have H6:HS g h5 (LgC q most (x::r)::WrC w0 96 x.1::R):=by have H7:=LvC.I (a:=a) (w:=w) (fv:=fv) (x:=x) (H5.sub (.cons e_3 (.cons e_2 (.cons e_2 .refl))));refine LgC.I1 (v:=sv) (a:=a) (ps:=ps) e ?_;rw[← e];have H8:HS g h5 (WrC w0 96 x.1::(qk q [.int .i64 (most:Int),sv]::qD 197 1 (ps.length+1) sv (xF (a::ps))::LvC a x::List.zipWith LvC ps r)++R):=H7.sub (.cons e_1 (.cons e_2 (.cons e_2 (.cons .here (.drop .refl)))));exact HS.back H8
 clear H1 H2 H3 H4 H5;refine zD (S.sl H6.drop.drop) ?_
 refine jP (λk s h'=>∃(i:Nat) (c':List Cl),s=(.int .i64 (i:Int),.int .i64 (cs.length:Int),c,.ptr w0 0,.ptr q 0,())∧i≤cs.length∧k=cs.length-i∧OkL most ((c',x.2)::r)∧
  HS g h' (LgC q most ((c',x.2)::r)::WrC w0 96 x.1::R)∧yr most (x::r) (x::r) cs=yr most (x::r) ((c',x.2)::r) (cs.drop i)) ?_ (m:=cs.length) (by show _<1000000000;omega) ⟨0,x.1,rfl,by omega,by omega,O,H6,rfl⟩
 rintro k2 ih s h2 hih ⟨i,c',rfl,h1,rfl,O',H,hT⟩;dsimp only;refine jt (λhlt=>qX ?_) λhge=>qJ (qx (qY ?_))
 ·have hi:i<cs.length:=by omega
  have hci:cs[i]? =some cs[i]:=iW hi;refine zf (l:=jU cs[i]) (S.sl H.drop.drop) hi omQ (YJ hci) ?_;refine qM H rfl λb h3 H3=>qc H3 .here rfl (by show 0+2≤2;omega) rfl λh4 H4=>?_;have H5:HS g h4 (qk b (jU cs[i])::LgC q most ((c',x.2)::r)::WrC w0 96 x.1::R):=H4;unfold jU at H5;refine qQ (qG ‹_› .here rfl ?_);refine qQ (qG ‹_› .here rfl ?_);refine qW (qQ0 omQ H5.drop O') ?_;rintro _ h6 ⟨rfl,H6⟩;rw[List.drop_eq_getElem_cons hi,vw]at hT;have O2:=(Ve (p:=cs[i].1) (v:=cs[i].2) O').1;obtain⟨c2,hc2⟩:=Y5 (most:=most) (x:=(c',x.2)) (r:=r) (p:=cs[i].1) (v:=cs[i].2);refine xA (λhne=>qX ?_) λhe=>qJ (qU omQ ?_)
  ·have hne:¬(vk most ((c',x.2)::r) cs[i].1 cs[i].2).1=0:=by simpa using hne
   rw[iQ hne]at hT;rw[hc2]at H6;obtain⟨sv,a,ps,e,H7⟩:=LgC.E1 H6;rw[← e]at H7;refine qW (Xx omQ H7 .here e_1 (by have:=O.deep;simp at this;omega)) ?_;rintro _ _ ⟨rfl,rfl⟩;obtain⟨w,fv,H8⟩:=LvC.E (H7.sel e_2);refine qq (qQ (qH H8 .here ⟨rfl,rfl⟩ osQ λh9 H9=>qx (qY ?_)));rw[hT];refine⟨rfl,LgC.I1 (v:=sv) (a:=a) (ps:=ps) e ?_⟩;rw[← e];obtain⟨T,sT,uT⟩:∃T,Sel (List.zipWith LvC ps r++WrC w0 96 x.1::R) (WrC w0 96 x.1) T∧T=List.zipWith LvC ps r++R:=⟨_,Sel.skip _ .here,rfl⟩;subst uT;have H10:=LvC.I (a:=a) (w:=w0) (fv:=fv) (x:=x) (H9.sub (.cons .here (.cons (.there (.there (.there (.there sT)))) (.cons e_1 (.drop .refl)))));exact H10.sub (.cons e_1 (.cons e_1 (.refl)))
  ·have he':(vk most ((c',x.2)::r) cs[i].1 cs[i].2).1=0:=by simpa using he
   rw[iJ he',hc2]at hT;rw[hc2]at H6 O2;exact hih (cs.length-(i+1)) _ _ omQ ⟨i+1,c2,rfl,by omega,rfl,O2,H6,hT⟩
 ·rw[List.drop_of_length_le omQ]at hT;have hT:yr most (x::r) (x::r) cs=(0,(c',x.2)::r):=hT;rw[hT];exact⟨rfl,H.sub (.cons .here (.drop .refl))⟩
theorem Kn (a:Nat) (ps:List Nat):xF (a::ps)=xF ps++[.ptr a 0]:=by unfold xF;rw[List.reverse_cons,List.map_append];rfl
theorem Ur (ps:List Nat):(xF ps).length=ps.length:=by simp[xF]
theorem qYR {n q most:Nat} (hn:3≤n) {lv:List LvM} (H:HS g h (LgC q most lv::R)) (O:OkL most lv) :
  t_w n 270 [.ptr q 0] h λv h'=>v=.int .i64 (w9 lv).1∧HS g h' (LgC q most (w9 lv).2::R):=by
 refine t_e1 (S:=S270) rfl omQ λk hk=>?_;unfold S270;try simp only[iZ]
 have hH:=H;obtain⟨v,ps,e,H⟩:=LgC.E H;unfold w9;by_cases h6:6≤lv.length
 ·rw[iJ h6];refine qq (qQ (qG ‹_› .here rfl ?_));refine qs ‹_› e_1 ?_;refine zz omQ ?_;refine qX ?_;exact qY ⟨rfl,hH⟩
 ·rw[iQ h6];refine qq (qQ (qG ‹_› .here rfl ?_));refine qs ‹_› e_1 ?_;refine zB omQ ?_;refine qJ (qV ?_);(try dsimp only);refine qq (qQ (qG ‹_› .here rfl ?_))
  refine qW (VR omQ H) ?_;rintro _ h2 ⟨a,rfl,H2⟩;refine qr (n:=1) (l:=[.ptr a 0]) (sz:=1) H2 rfl rfl rfl rfl λv3 h3 H3=>?_;refine zT (H3.sel e_3) (H3.sl .here) omQ omQ rfl λv4 h4 H4=>?_;refine qq (qQ (qH H4 (b:=q) e_3 (H4.one .here) osQ λh5 H5=>?_));refine qp ‹_› .here rfl ‹_› e_1 rfl (HS.lt ‹_› .here) ?_;refine qY ⟨rfl,LgC.I1 (v:=v4) (a:=a) (ps:=ps) e ?_⟩;rw[Kn];exact H5.sub (.cons .here (.cons .here (.cons e_1 (.drop (.refl)))))
theorem OD {n q:Nat} (hn:1≤n) {m v:AV} {a:Nat} {ps:List Nat} (h1:1≤ps.length) (hl:ps.length<1000) (H:HS g h (qk q [m,v]::qD 197 1 (ps.length+1) v (xF (a::ps))::R)) :
  t_w n 234 [.ptr q 0] h λr h'=>r=.int .i64 0∧∃v',HS g h' (qk q [m,v']::qD 197 1 ps.length v' (xF ps)::R):=by
 refine t_e1 (S:=S234) rfl omQ λk hk=>?_;unfold S234;try simp only[iZ]
 refine qq (qQ (qG ‹_› .here rfl ?_));refine qs ‹_› e_1 ?_;refine qZ omQ ?_;refine qJ (qq (qQ (qG ‹_› .here rfl ?_)));refine qq (qQ (qG ‹_› .here rfl ?_));refine qs ‹_› e_1 ?_;refine jM omQ ?_;rw[show((ps.length+1:Nat):Int)-((1:Nat):Int)=((ps.length:Nat):Int) by omega];refine Ja (H.sel e_1) omQ omQ λv' H2=>?_;refine qq (qQ (qH H2 (b:=q) e_1 (H2.one .here) osQ λh3 H3=>qY ⟨rfl,v',?_⟩));rw[Kn,Nat.mul_one,← Ur ps,List.take_left,Ur]at H3;exact H3.sub (.cons .here (.refl))
theorem NJ {n q most:Nat} (hn:1≤n) {lv:List LvM} (H:HS g h (LgC q most lv::R)) (O:OkL most lv) :
  t_w n 234 [.ptr q 0] h λv h'=>v=.int .i64 (kX lv).1∧HS g h' (LgC q most (kX lv).2::R):=by
 unfold kX;by_cases h1:lv.length=1
 ·rw[iJ h1];refine t_e1 (S:=S234) rfl omQ λk hk=>?_;unfold S234;try simp only[iZ]
  have hH:=H;obtain⟨v,ps,e,H⟩:=LgC.E H;refine qq (qQ (qG ‹_› .here rfl ?_));refine qs ‹_› e_1 ?_;refine qz omQ ?_;refine qX ?_;exact qY ⟨rfl,hH⟩
 ·rw[iQ h1];cases lv with
  |nil=>have:=O.one;simp at this
  |cons x r=>
  have hd:=O.deep;simp at h1 hd;have h1':1≤r.length:=by cases r with |nil=>simp at h1 |cons _ _=>simp
  obtain⟨v,a,ps,e,H⟩:=LgC.E1 H;rw[← e]at H;refine(OD hn omQ omQ H).mono ?_;rintro _ h2 ⟨rfl,v',H2⟩;refine⟨rfl,LgC.I (v:=v') (ps:=ps) e ?_⟩;show HS g h2 (_::qD 197 1 r.length v' _::(List.zipWith LvC ps r++R));rw[← e];exact H2.sub (.cons .here (.cons .here (.drop .refl)))
theorem qWb {n q most:Nat} (hn:6≤n) {lv:List LvM} (H:HS g h (LgC q most lv::R)) (O:OkL most lv) (hf:∀x∈lv,x.2.length<1000000) :
  t_w n 232 [.ptr q 0] h λv h'=>v=.int .i64 (kf lv).1∧HS g h' (LgC q most (kf lv).2::R):=by
 rcases lv with _ |⟨x,_ |⟨y,r⟩⟩
 ·have:=O.one;simp at this
 ·
  refine t_e1 (S:=S232) rfl omQ λk hk=>?_;unfold S232;try simp only[iZ]
  obtain⟨v,a,ps,e,H2⟩:=LgC.E1 H;rw[← e]at H2;refine qW (Xx omQ H2 .here e_1 (by simp at e;simp[e])) ?_;rintro _ _ ⟨rfl,rfl⟩;refine qW (NJ omQ H O) ?_;rintro _ h3 ⟨rfl,H3⟩;rw[show kX [x]=(10,[x])from rfl]at H3 ⊢;refine jq omQ ?_;refine qX ?_;exact qY ⟨rfl,H3⟩
 ·
  have hx:=hf x osQ;have hy:=hf y osQ;have hxi:=O.ins x osQ;have hd:=O.deep;have hh:=O.held;have hle:=O.le;rw[zO,zO]at hh;simp at hd;refine t_e1 (S:=S232) rfl omQ λk hk=>?_;unfold S232;try simp only[iZ]
  obtain⟨v,a,ps,e,H2⟩:=LgC.E1 H;rw[← e]at H2;refine qW (Xx omQ H2 .here e_1 (by simp at e;omega)) ?_;rintro _ _ ⟨rfl,rfl⟩;simp at e;refine qW (OD omQ omQ omQ H2) ?_;rintro _ h3 ⟨rfl,v',H3⟩;cases ps with
  |nil=>simp at e
  |cons b ps=>
  simp at e;refine jk omQ ?_;refine qJ (qW (Xx omQ H3 .here e_1 omQ) ?_);rintro _ _ ⟨rfl,rfl⟩;have H4:HS g _ (LvC b y::LvC a x::qk q [.int .i64 (most:Int),v']::qD 197 1 (ps.length+1) v' (xF (b::ps))::(List.zipWith LvC ps r++R)):=H3.sub (.cons e_3 (.cons e_2 (.cons .here (.cons .here .refl))));obtain⟨w1,f1,H4⟩:=LvC.E H4;obtain⟨w2,f2,H5⟩:=LvC.E (H4.sel e_3);refine qq (qQ (qG ‹_› e_3 rfl ?_));refine qq (qQ (qG ‹_› .here rfl ?_));refine zT (H5.sel e_5) (H5.sl e_2) omQ omQ ?_ λv6 h6 H6=>?_
  ·simp[ql,AV.one]
  refine qq (qQ (qH H6 (b:=b) e_4 (H6.one .here) osQ λh7 H7=>?_));simp only[List.set_cons_zero,List.set_cons_succ]at H7;refine qV ?_;(try dsimp only);refine qq (qQ (qG ‹_› .here rfl ?_));refine qq (qQ (qG ‹_› e_2 rfl ?_))
  refine qW (Yk omQ (H7.sel (P:=WrC w2 96 x.1) e_3) omQ) λv8 h8 H8=>?_;refine qW (Yv (cs:=x.1) (l:=y.1) (m:=96) (w:=w1) omQ (H8.sel (P:=WrC w1 96 y.1) e_6) (.own .here) omQ omQ) ?_;rintro _ h9 ⟨rfl,H9⟩;have ht:wg 96 y.1 x.1=(0,yV y.1 x.1):=by unfold wg;rw[YX hxi omQ,iJ rfl]
  rw[ht]at H9 ⊢;refine qp ‹_› .here rfl ‹_› e_2 rfl (HS.lt ‹_› .here) ?_;refine qY ⟨rfl,LgC.I1 (v:=v') (a:=b) (ps:=ps) omQ ?_⟩;show HS g h9 (_::qD 197 1 (r.length+1) v' _::_);rw[← e];have H10:=LvC.I (a:=b) (w:=w1) (fv:=v6) (x:=(yV y.1 x.1,y.2++x.2)) (R:=qk q [.int .i64 (most:Int),v']::qD 197 1 (ps.length+1) v' (xF (b::ps))::(List.zipWith LvC ps r++R))
   (by rw[List.map_append,List.length_append];exact H9.sub (.cons e_3 (.cons .here (.cons e_2 (.cons e_4 (.cons e_4 (.drop (.drop (.drop (.drop (.refl)))))))))))
  exact H10.sub (.cons e_1 (.cons e_1 (.refl)))
theorem Xh:∀(lv:List LvM) (out:List Cl),(lv.foldl (λout x=>yV x.1 out) out).length≤out.length+yy lv:=by
 intro lv
 induction lv with
 |nil=>intro out;simp
 |cons x r ih=>intro out;have h1:=ih (yV x.1 out);have h2:=Uw (cs:=out) (l:=x.1);rw[List.foldl_cons,zO];omega
theorem Vb:∀(lv:List LvM) (out:List Cl),InC out→(∀x∈lv,InC x.1)→InC (lv.foldl (λout x=>yV x.1 out) out):=by
 intro lv
 induction lv with
 |nil=>intro out h _;exact h
 |cons x r ih=>intro out h hx;exact ih _ ((hx x (iK ..)).puts h) λy hy=>hx y (iX _ hy)
theorem qZT (l1 l2:List LvM):yy (l1++l2)=yy l1+yy l2:=by simp[yy]
theorem qZ9 {n q most:Nat} (hn:9≤n) {lv:List LvM} (H:HS g h (LgC q most lv::R)) (O:OkL most lv) :
  t_w n 86 [.ptr q 0] h λv h'=>HS g h' (qD 66 2 (jV lv).length v ((jV lv).flatMap jU)::LgC q most lv::R):=by
 (refine qy (g:=W86) rfl omQ λk hk=>?_;show wp (S86 (callT tab qj k) _ _) _;unfold S86;try simp only[iI,uU,iZ])
 obtain⟨v,ps,e,H⟩:=LgC.E H;have hd:=O.deep;have hle:=O.le;have hhe:=O.held;refine JR (H.nils (e:=66) (sz:=2)) ⟨rfl,rfl⟩ λb1 h1 H=>?_;refine qq (qQ (qG ‹_› e_2 rfl ?_));refine qW (Gw omQ (H.one e_3) H) ?_;rintro _ h4 ⟨b4,rfl,H⟩;have H5:=(H.newBlk .dfd).newBlk (.loop .ready none 86 [1,1,0,1,0] [3] [.ptr b1 0] h4.nx);generalize(h4.new .dfd).nx=l at H5 ⊢;generalize h4.nx=d at H5 ⊢;obtain⟨k2,rfl⟩:∃k2,k=k2+1:=⟨k-1,by omega⟩
 refine Me (qQP (b0:=b4) (v:=v) (ps:=ps)
  (Inv:=λi h'=>∃ov,HS g h' (wB l (.loop .ready none 86 [1,1,0,1,0] [3] [.ptr b1 0] d)::wB d .dfd::qk b4 [v]::qk b1 [ov]::qD 66 2 (jV (lv.take i)).length ov ((jV (lv.take i)).flatMap jU)::
   qk q [.int .i64 (most:Int),v]::qD 197 1 lv.length v (xF ps)::(List.zipWith LvC ps lv++R)))
  (Fin:=λ_=>False) ?_ ?_ omQ ⟨.nils,H5⟩) ?_
 ·rintro i h' ⟨ov,H⟩;obtain⟨et,A⟩:=H.obj (b:=b4) e_2;exact⟨A.at 0,e▸H.sl e_6⟩
 ·rintro i a h' ha ⟨ov,H⟩;have hi:=(List.getElem?_eq_some_iff.1 ha).1;have hx:lv[i]? =some (lv[i]'omQ):=iW _;have hm:lv[i]'omQ∈lv:=List.getElem_mem _;generalize lv[i]'omQ=x at hx hm;have hxl:=O.len hm;have hxi:=O.ins x hm;have hxu:=O.un x hm;have hml:(jV (lv.take i)).length+x.1.length≤96:=by
   have h1:=Xh (lv.take i) [];have h2:yy lv=yy (lv.take i)+(x.1.length+yy (lv.drop (i+1))):=by
    rw[← zO,← qZT]
    congr 1
    have h3:lv.drop i=x::lv.drop (i+1):=by
     have hi':i<lv.length:=by omega
     rw[List.drop_eq_getElem_cons hi'];rw[iW hi']at hx;rw[Option.some.inj hx]
    rw[← h3,List.take_append_drop]
   unfold jV;simp at h1;omega
  have hmi:InC (jV (lv.take i)):=Vb _ _ (λc hc=>by cases hc) λy hy=>O.ins y (List.mem_of_mem_take hy);have hms:jV (lv.take (i+1))=yV x.1 (jV (lv.take i)):=by unfold jV;rw[List.take_add_one,hx,Option.toList_some,List.foldl_append];rfl
  refine Ms (H.blk .here) (w:=V0) rfl omQ λk3 hk3=>?_;show wp (B0 _ _ _ (.int .i64 ((ps.length-1-i:Nat):Int)) _ _) _;unfold B0
  try simp only[iI,uU,iZ]
  refine NU H .here λh6 H=>?_;refine qW (MC (m:=96) omQ omQ H) ?_;rintro _ h7 ⟨w0,rfl,H⟩;obtain⟨T,s⟩:=G1 (R:=R) ha hx;obtain⟨w,fv,H7⟩:=LvC.E (H.sel (.there (.there (.there (.there (.there (.there (.there (.there s)))))))));refine qq (qQ (qG ‹_› .here rfl ?_));refine qW (Yk omQ (H7.sel (P:=WrC w 96 x.1) e_1) omQ) λva h8 H8=>?_;refine qW (Yv (cs:=x.1) (l:=[]) (m:=96) (w:=w0) omQ (H8.sel (P:=WrC w0 96 []) e_4) (.own .here) osQ omQ) ?_;rintro _ h9 ⟨_,H9⟩;have ht:wg 96 [] x.1=(0,x.1):=by unfold wg;rw[YX hxi (by simpa using hxl),VI hxu,iJ rfl]
  rw[ht]at H9;dsimp only at H9;refine qG ‹_› e_8 rfl ?_;have ht2:wg 96 x.1 (jV (lv.take i))=(0,yV x.1 (jV (lv.take i))):=by unfold wg;rw[YX hmi omQ,iJ rfl]
  have S2:Rd g _ 2 (jV (lv.take i)).length ov ((jV (lv.take i)).flatMap jU):=H9.drop.rd (L:=qD 66 2 x.1.length va (x.1.flatMap jU)::WrC w 96 x.1::qk a [.ptr w 0,fv]::qD 3 1 x.2.length fv (x.2.map (.int .i64))::
   wB l (.loop .busy none 86 [1,1,0,1,0] [3] [.ptr b1 0] d)::wB d .dfd::qk b4 [v]::qk b1 [ov]::qD 66 2 (jV (lv.take i)).length ov ((jV (lv.take i)).flatMap jU)::
   qk q [.int .i64 (most:Int),v]::qD 197 1 lv.length v (xF ps)::T) e_8
  refine qW (Yv omQ H9 S2 omQ omQ) ?_;rintro _ h10 ⟨_,H10⟩;rw[ht2]at H10;dsimp only at H10;have hpl:=Uw (cs:=jV (lv.take i)) (l:=x.1);refine qW (Yk omQ H10 omQ) λvb h11 H11=>?_;refine qH H11 (b:=b1) e_9 (H11.one .here) osQ λh12 H12=>qQO H12 e_7 λh13 H13=>.inl ⟨rfl,vb,?_⟩;rw[hms]
  have H14:=LvC.I (a:=a) (w:=w) (fv:=fv) (x:=x) (R:=wB l (.loop .ready none 86 [1,1,0,1,0] [3] [.ptr b1 0] d)::wB d .dfd::qk b4 [v]::qk b1 [vb]::
   qD 66 2 (yV x.1 (jV (lv.take i))).length vb ((yV x.1 (jV (lv.take i))).flatMap jU)::qk q [.int .i64 (most:Int),v]::qD 197 1 lv.length v (xF ps)::T) (H13.sub (.cons e_6 (.cons e_5 (.cons e_5 (.cons .here (.cons e_4 (.cons e_4 (.cons .here (.cons .here (.cons e_3 (.cons e_3 (.drop (.drop (.drop (.refl)))))))))))))))
  exact HS.unsel (.there (.there (.there (.there (.there (.there (.there s))))))) H14
 ·rintro _ h6 (⟨ov,H⟩ |hF)
  ·rw[List.take_of_length_le omQ]at H;refine MZ H .here (λh=>by cases h) λh7 H=>N1 ?_;refine qG ‹_› e_3 rfl ?_;refine Y1 H e_1 λh10 H=>qY ?_
   exact(LgC.I (v:=v) (ps:=ps) e (HS.back (A:=_::_::List.zipWith LvC ps lv) (H.sub (L':=qD 66 2 (jV lv).length ov ((jV lv).flatMap jU)::qk q [.int .i64 (most:Int),v]::
    qD 197 1 lv.length v (xF ps)::(List.zipWith LvC ps lv++R)) (.cons e_4 (.cons e_4 (.cons e_4 (.drop (.drop (.drop (.drop (.refl))))))))))).sub (.cons e_1 (.refl))
  ·exact hF.elim
end Go.Proofs.YtnalffoigcmnnaaGreatDoor
namespace Go.Proofs.YtnalffoigcmnnaaGreatDoor
open Go Go.Ae
set_option maxRecDepth 100000
variable {g h:AH} {L R:List SP}
structure VM where
  sz:Nat
  K:List Cl
  most:Nat
  lv:List LvM
  need:Int
structure OkV (M:VM):Prop where
  lo:32≤M.sz
  hi:M.sz≤256
  lvs:OkL M.most M.lv
  ins:∀c∈M.K,1≤c.1∧c.1<M.sz
  un:UnC M.K
  fr:∀x∈M.lv,x.2.length<100000
def zP (M:VM) (p x:Int):Int×VM :=
 if 1≤p∧p<M.sz then match j0 p M.K with
  |some y=>(if y=x then 0 else 14,M)
  |none=>(0,{ M with K:=M.K++[(p,x)] })
 else(2,M)
def qb (M:VM) (p:Int):(Int×Int)×VM :=
 if 1≤p∧p<M.sz then match YM p M.lv with
  |some x=>((x,0),M)
  |none=>match j0 p M.K with
   |some x=>((x,0),M)
   |none=>((0,11),{ M with need:=p })
 else((0,2),M)
def jr (M:VM) (cs:List Cl):Int×VM :=
 if∀c∈cs,1≤c.1∧c.1<M.sz then((yr M.most M.lv M.lv cs).1,{ M with lv:=(yr M.most M.lv M.lv cs).2 })else(2,M)
def freeV (M:VM) (b:Int):VM:={ M with lv:=JY M.lv b }
def yg (M:VM):Int×VM:=((w9 M.lv).1,{ M with lv:=(w9 M.lv).2 })
def xY (M:VM):Int×VM:=((kX M.lv).1,{ M with lv:=(kX M.lv).2 })
def yh (M:VM):Int×VM:=((kf M.lv).1,{ M with lv:=(kf M.lv).2 })
theorem Xp:∀(n:Nat) (l:List Int),l.Nodup→(∀x∈l,0≤x∧x<n)→l.length≤n:=by
 intro n
 induction n with
 |zero=>
  intro l _ h;cases l with
  |nil=>exact Nat.le_refl _
  |cons x l=>have:=h x (iK ..);omega
 |succ n ih=>
  intro l hd h;by_cases hx:(n:Int)∈l
  ·have:=ih (l.erase n) (hd.erase _) (λx hx'=>by
    have h1:=h x (List.mem_of_mem_erase hx');have h2:x≠n:=by rintro rfl;exact(List.Nodup.not_mem_erase hd) hx'
    omega)
   rw[List.length_erase_of_mem hx]at this;omega
  ·have:=ih l hd (λx hx'=>by
    have h1:=h x hx';have h2:x≠n:=by rintro rfl;exact hx hx'
    omega)
   omega
theorem OkV.klen {M:VM} (O:OkV M):M.K.length≤256:=by
 have hu:(M.K.map (·.1)).Nodup:=O.un
 have:=Xp M.sz _ hu (λx hx=>by
  obtain⟨c,hc,rfl⟩:=List.mem_map.1 hx;have:=O.ins c hc
  omega)
 rw[List.length_map]at this;have:=O.hi;omega
def Qb (f:Int×Bool):List AV:=[.int .u64 f.1,.bool f.2]
def gr (K:List Cl) (i:Nat):Int×Bool:=match j0 (i:Int) K with |some x=>(x,true) |none=>(0,false)
def yM (sz:Nat) (K:List Cl):List (Int×Bool):=(List.range sz).map (gr K)
theorem Qq (sz:Nat) (K:List Cl):(yM sz K).length=sz:=by simp[yM]
theorem Qy {sz:Nat} {K:List Cl} {i:Nat} (hi:i<sz):(yM sz K)[i]? =some (gr K i):=by simp[yM,List.getElem?_range hi]
theorem kg {α:Type} {sz:Nat} {enc:α→List AV} (he:∀a,(enc a).length=sz) {l:List α} {i:Nat} {a:α} (h:l[i]? =some a):((l.flatMap enc).drop (i*sz)).take sz=enc a:=by obtain⟨hi,e⟩:=List.getElem?_eq_some_iff.1 h;rw[gk (sz:=sz) enc he,List.drop_eq_getElem_cons hi,e,List.flatMap_cons,← he a,List.take_left]
theorem V3 {α:Type} {sz:Nat} {enc:α→List AV} (he:∀a,(enc a).length=sz) {l:List α} {i:Nat} {a:α} (hi:i<l.length):gp (l.flatMap enc) (i*sz) (enc a)=(l.set i a).flatMap enc:=by
 have h1:(l.flatMap enc).take (i*sz)=(l.take i).flatMap enc:=by
  have e1:l.flatMap enc=(l.take i).flatMap enc++(l.drop i).flatMap enc:=by rw[← List.flatMap_append,List.take_append_drop]
  have e2:((l.take i).flatMap enc).length=i*sz:=by rw[wo (sz:=sz) enc he,List.length_take,Nat.min_eq_left omQ]
  rw[e1,← e2,List.take_left]
 have h2:(l.flatMap enc).drop (i*sz+sz)=(l.drop (i+1)).flatMap enc:=by rw[show i*sz+sz=(i+1)*sz by rw[Nat.add_mul,Nat.one_mul],gk (sz:=sz) enc he]
 unfold gp;rw[he,h1,h2,List.set_eq_take_append_cons_drop,iJ hi,List.flatMap_append,List.flatMap_cons,List.append_assoc]
theorem qZ6 {α:Type} {enc:α→List AV} {a:α}:∀n,y9 (enc a) n=(List.replicate n a).flatMap enc:=by
 intro n
 induction n with
 |zero=>rfl
 |succ n ih=>rw[y9,ih,List.replicate_succ,List.flatMap_cons]
theorem Zs (sz:Nat):yM sz []=List.replicate sz (0,false):=by unfold yM;rw[show gr []=λ_=>((0,false):Int×Bool)from rfl,List.map_const',List.length_range]
theorem ZO {sz:Nat} {K:List Cl} {i:Nat} {x:Int} (hi:i<sz) (hn:j0 (i:Int) K=none):yM sz (K++[((i:Int),x)])=(yM sz K).set i (x,true):=by
 have e:∀j:Nat,j0 (j:Int) (K++[((i:Int),x)])=if j=i then some x else j0 (j:Int) K:=by
  intro j;rw[← QK hn,UJ];by_cases h:j=i
  ·rw[iJ h,iJ (by rw[h])]
  ·rw[iQ h,iQ omQ]
 apply List.ext_getElem?;intro j;rw[List.getElem?_set,Qq];by_cases hj:j<sz
 ·rw[Qy hj];by_cases h:i=j
  ·subst h;rw[iJ rfl,iJ hi];unfold gr;rw[e,iJ rfl]
  ·rw[iQ h,Qy hj];unfold gr;rw[e,iQ omQ]
 ·rw[List.getElem?_eq_none (by rw[Qq];omega),iQ omQ,List.getElem?_eq_none (by rw[Qq];omega)]
def ViewC (v:Nat) (M:VM):SP:=.ex λfv=>.ex λov=>.ex λq=>.ex λe=>.all [qk v [fv,ov,.ptr q 0,.int .i64 M.need],qD e 2 M.sz fv ((yM M.sz M.K).flatMap Qb),
 qD 3 1 M.K.length ov (M.K.map λc=>.int .i64 c.1),LgC q M.most M.lv]
theorem ViewC.E {v:Nat} {M:VM} (H:HS g h (ViewC v M::R)):∃fv ov q e,HS g h (qk v [fv,ov,.ptr q 0,.int .i64 M.need]::qD e 2 M.sz fv ((yM M.sz M.K).flatMap Qb)::
  qD 3 1 M.K.length ov (M.K.map λc=>.int .i64 c.1)::LgC q M.most M.lv::R):=by
 obtain⟨fv,H⟩:=H.exE;obtain⟨ov,H⟩:=H.exE;obtain⟨q,H⟩:=H.exE;obtain⟨e,H⟩:=H.exE;exact⟨fv,ov,q,e,H.allE⟩
theorem ViewC.I {v:Nat} {M:VM} {fv ov:AV} {q:Nat} {e:TypeId} (H:HS g h (qk v [fv,ov,.ptr q 0,.int .i64 M.need]::qD e 2 M.sz fv ((yM M.sz M.K).flatMap Qb)::
  qD 3 1 M.K.length ov (M.K.map λc=>.int .i64 c.1)::LgC q M.most M.lv::R)):HS g h (ViewC v M::R) :=
 HS.exI fv (HS.exI ov (HS.exI q (HS.exI e (HS.allI H))))
def szZ (n:Int):Nat:=(max 32 (min n 256)).toNat
theorem VV (n:Int):32≤szZ n∧szZ n≤256:=by unfold szZ;omega
def Xg (words most:Int):VM:=⟨szZ words,[],(max 0 (min most 96)).toNat,[([],[])],0⟩
theorem qQI {m:Nat} (hm:m≤96):OkL m [([],[])]:=⟨by simp[yy],hm,by intro x hx;simp at hx;subst hx;intro c hc;simp at hc,by intro x hx;simp at hx;subst hx;exact List.nodup_nil,by simp,by simp⟩
theorem qzO (words most:Int):OkV (Xg words most) :=
 ⟨(VV _).1,(VV _).2,qQI (by show(max 0 (min most 96)).toNat≤96;omega),by intro c hc;simp[Xg]at hc,List.nodup_nil,by intro x hx;simp[Xg]at hx;subst hx;simp⟩
theorem qQd {n:Nat} (hn:4≤n) {w m:Int} (H:HS g h R):t_w n 74 [.int .i64 w,.int .i64 m] h λr h'=>∃v,r=.ptr v 0∧HS g h' (ViewC v (Xg w m)::R):=by
 refine t_e2 (S:=S74) rfl omQ λk hk=>?_;unfold S74;try simp only[iZ]
 refine jm (zK ?_);have hb:=VV w;rw[show max ((32:Nat):Int) (min w ((256:Nat):Int))=((szZ w:Nat):Int) by unfold szZ;omega];refine KX (sz:=2) H rfl (Nat.le_refl _) omQ λfv h2 H2=>?_;refine qW (qzn omQ H2) ?_;rintro _ h3 ⟨q,rfl,H3⟩;have h1:=H3.one e_1;refine qI (l:=[fv,.nils,.ptr q 0,.int .i64 0]) (by unfold vB;rw[h1.1];rfl) ?_;refine qM H3 (by show(fv.one&&(true&&(true&&(true&&true))))=true;rw[h1.2];rfl) λv h4 H4=>qY ⟨v,rfl,?_⟩;rw[List.take_of_length_le (by rw[yN];exact Nat.le_refl _),show y9 [AV.int .u64 ((0:Nat):Int),AV.bool false] (szZ w)=(yM (szZ w) []).flatMap Qb by rw[Zs,← qZ6];rfl]at H4;exact ViewC.I (M:=Xg w m) ((H4.nils (e:=3) (sz:=1)).sub (.cons e_1 (.cons e_2 (.cons .here (.cons .here (.refl))))))
theorem Xs {n:Nat} (hn:1≤n) {v:Nat} {M:VM} (H:HS g h (ViewC v M::R)):t_w n 79 [.ptr v 0] h λr h'=>r=.int .i64 (M.sz:Int)∧h'=h:=by
 refine t_e1 (S:=S79) rfl omQ λk hk=>?_;unfold S79;try simp only[iZ]
 obtain⟨fv,ov,q,e,H⟩:=ViewC.E H;refine qq (qQ (qG ‹_› .here rfl ?_));refine qs ‹_› e_1 ?_;exact qY ⟨rfl,rfl⟩
theorem My {n:Nat} (hn:1≤n) {v:Nat} {M:VM} {p:Int} (H:HS g h (ViewC v M::R)):t_w n 110 [.ptr v 0,.int .i64 p] h λr h'=>r=.bool (decide (1≤p∧p<M.sz))∧h'=h:=by
 refine t_e2 (S:=S110) rfl omQ λk hk=>?_;unfold S110;try simp only[iZ]
 obtain⟨fv,ov,q,e,H⟩:=ViewC.E H;by_cases h1:1≤p
 ·refine zz omQ ?_;refine qV ?_;(try dsimp only);refine qR ?_;(try dsimp only);refine qq (qQ (qG ‹_› .here rfl ?_));refine qs ‹_› e_1 ?_
  refine QP (qC (qY ⟨?_,rfl⟩))
  congr 1
  exact decide_eq_decide.2 ⟨λh2=>⟨h1,h2⟩,λh2=>h2.2⟩
 ·refine zB omQ ?_;refine qV ?_;(try dsimp only);refine qT ?_;(try dsimp only);refine qF ?_
  exact qY ⟨by rw[iV (λh2=>h1 h2.1)],rfl⟩
theorem Kv {M:VM} {p x:Int} (O:OkV M):OkV (zP M p x).2:=by
 unfold zP
 split
 ·rename_i hp
  split
  ·exact O
  ·rename_i hn;refine⟨O.lo,O.hi,O.lvs,?_,?_,O.fr⟩
   ·intro c hc;rcases List.mem_append.1 hc with hc |hc
    ·exact O.ins c hc
    ·rw[List.mem_singleton]at hc;subst hc;exact hp
   ·have:=O.un.put (p:=p) (v:=x);rw[QK hn]at this;exact this
 ·exact O
theorem Ow {n:Nat} (hn:2≤n) {v:Nat} {M:VM} {p x:Int} (H:HS g h (ViewC v M::R)) (O:OkV M) :
  t_w n 80 [.ptr v 0,.int .i64 p,.int .u64 x] h λr h'=>r=.int .i64 (zP M p x).1∧HS g h' (ViewC v (zP M p x).2::R):=by
 refine t_e3 (S:=S80) rfl omQ λk hk=>?_;unfold S80;try simp only[iZ]
 refine qW (My omQ H) ?_;rintro _ _ ⟨rfl,rfl⟩;have hO:=O.hi;unfold zP;by_cases hp:1≤p∧p<M.sz
 ·rw[iJ hp];rw[iG hp];obtain⟨i,rfl⟩:∃i:Nat,p=(i:Int):=⟨p.toNat,by omega⟩;have hi:i<M.sz:=by omega
  have hH:=H;obtain⟨fv,ov,q,e,H⟩:=ViewC.E H;refine qu (qJ (qq (qQ (qG ‹_› .here rfl ?_))));refine zf (l:=Qb (gr M.K i)) (H.sl e_1) hi omQ (kg (enc:=Qb) (sz:=2) (λ_=>rfl) (Qy hi)) ?_;refine qM H rfl λb h3 H3=>qc H3 .here rfl (by show 0+2≤2;omega) rfl λh4 H4=>?_
  have H5:HS g h4 (qk b (Qb (gr M.K i))::qk v [fv,ov,.ptr q 0,.int .i64 M.need]::qD e 2 M.sz fv ((yM M.sz M.K).flatMap Qb)::
   qD 3 1 M.K.length ov (M.K.map λc=>.int .i64 c.1)::LgC q M.most M.lv::R):=H4
  unfold Qb at H5;cases hg:j0 (i:Int) M.K with
  |some y=>
   rw[show gr M.K i=(y,true) by unfold gr;rw[hg]]at H5;refine qQ (qG ‹_› .here rfl ?_);refine qX (qQ (qG ‹_› .here rfl ?_));have H6:=ViewC.I (H5.drop);by_cases hy:y=x
   ·refine jk omQ ?_;refine qJ (qY ⟨by dsimp only;rw[iJ hy];rfl,H6⟩)
   ·refine jq omQ ?_;refine qX (qY ⟨by dsimp only;rw[iQ hy];rfl,H6⟩)
  |none=>
   rw[show gr M.K i=(0,false) by unfold gr;rw[hg]]at H5;have hkl:=O.klen;refine qQ (qG ‹_› .here rfl ?_);refine qJ (qq (qQ (qG ‹_› e_1 rfl ?_)));refine qI rfl ?_;refine Oo (l:=[.int .u64 x,.bool true]) (H5.drop.sel (P:=qD e 2 M.sz fv ((yM M.sz M.K).flatMap Qb)) e_1) hi rfl rfl λh6 H6=>?_
   rw[show gp ((yM M.sz M.K).flatMap Qb) (i*2) [AV.int .u64 x,AV.bool true]=(yM M.sz (M.K++[((i:Int),x)])).flatMap Qb by
    rw[ZO hi hg,← V3 (enc:=Qb) (sz:=2) (λ_=>rfl) (by rw[Qq];exact hi)];rfl]at H6
   refine qq (qQ (qG ‹_› e_1 rfl ?_));refine qr (n:=1) (l:=[.int .i64 (i:Int)]) (sz:=1) H6 rfl rfl rfl rfl λv7 h7 H7=>?_;refine zT (H7.sel (P:=qD 3 1 M.K.length ov (M.K.map λc=>.int .i64 c.1)) e_3) (H7.sl .here) omQ omQ rfl λv8 h8 H8=>?_;refine qq (qQ (qH H8 e_3 (H8.one .here) osQ λh9 H9=>qY ⟨rfl,ViewC.I (M:={ M with K:=M.K++[((i:Int),x)] }) (fv:=fv) (ov:=v8) (q:=q) (e:=e) ?_⟩));rw[List.map_append,List.length_append];exact H9.sub (.cons .here (.cons e_2 (.cons .here (.cons e_1 (.drop (.refl))))))
 ·rw[iQ hp,iV hp];refine jQ (qX ?_);exact qY ⟨rfl,H⟩
theorem xw {M:VM} {p:Int} (O:OkV M):OkV (qb M p).2:=by
 unfold qb
 repeat' split
 all_goals exact⟨O.lo,O.hi,O.lvs,O.ins,O.un,O.fr⟩
theorem kp {n:Nat} (hn:9≤n) {v:Nat} {M:VM} {p:Int} (H:HS g h (ViewC v M::R)) (O:OkV M) :
  t_w n 159 [.ptr v 0,.int .i64 p] h λr h'=>r=.tup [.int .u64 (qb M p).1.1,.int .i64 (qb M p).1.2]∧HS g h' (ViewC v (qb M p).2::R):=by
 refine t_e2 (S:=S159) rfl omQ λk hk=>?_;unfold S159;try simp only[iZ]
 refine qW (My omQ H) ?_;rintro _ _ ⟨rfl,rfl⟩;have hO:=O.hi;unfold qb;by_cases hp:1≤p∧p<M.sz
 ·rw[iJ hp];rw[iG hp];obtain⟨i,rfl⟩:∃i:Nat,p=(i:Int):=⟨p.toNat,by omega⟩;have hi:i<M.sz:=by omega
  obtain⟨fv,ov,q,e,H⟩:=ViewC.E H;refine qu (qJ (qq (qQ (qG ‹_› .here rfl ?_))));refine qW (qzF omQ (H.sel (P:=LgC q M.most M.lv) e_3) O.lvs) ?_;rintro _ h2 ⟨rfl,H2⟩;refine qw rfl ?_;refine qw rfl ?_;cases hl:YM (i:Int) M.lv with
  |some y=>simp only[Option.isSome_some,Option.getD_some];refine qX ?_;exact qY ⟨rfl,ViewC.I (H2.sub (.cons e_1 (.cons e_1 (.cons e_1 (.refl)))))⟩
  |none=>
   simp only[Option.isSome_none];refine qJ (qq (qQ (qG ‹_› e_1 rfl ?_)));refine zf (l:=Qb (gr M.K i)) (H2.sl e_2) hi omQ (kg (enc:=Qb) (sz:=2) (λ_=>rfl) (Qy hi)) ?_;refine qM H2 rfl λb h3 H3=>qc H3 .here rfl (by show 0+2≤2;omega) rfl λh4 H4=>?_
   have H5:HS g h4 (qk b (Qb (gr M.K i))::LgC q M.most M.lv::qk v [fv,ov,.ptr q 0,.int .i64 M.need]::qD e 2 M.sz fv ((yM M.sz M.K).flatMap Qb)::
    qD 3 1 M.K.length ov (M.K.map λc=>.int .i64 c.1)::R):=H4
   unfold Qb at H5;cases hg:j0 (i:Int) M.K with
   |some y=>rw[show gr M.K i=(y,true) by unfold gr;rw[hg]]at H5;refine qQ (qG ‹_› .here rfl ?_);refine qX (qQ (qG ‹_› .here rfl ?_));exact qY ⟨rfl,ViewC.I (H5.drop.sub (.cons e_1 (.cons e_1 (.cons e_1 (.refl)))))⟩
   |none=>rw[show gr M.K i=(0,false) by unfold gr;rw[hg]]at H5;refine qQ (qG ‹_› .here rfl ?_);refine qJ (qq (qQ ?_));refine qH H5 (b:=v) e_2 ⟨rfl,rfl⟩ osQ λh9 H9=>qY ⟨rfl,ViewC.I (M:={ M with need:=(i:Int) }) (fv:=fv) (ov:=ov) (q:=q) (e:=e) (H9.sub (.cons .here (.cons e_2 (.cons e_2 (.cons e_1 (.drop (.refl)))))))⟩
 ·rw[iQ hp,iV hp];refine jQ (qX ?_);exact qY ⟨rfl,H⟩
theorem qj3 {most:Nat} {lv:List LvM} {p v:Int} {n:Nat} (h:∀x∈lv,x.2.length<n):∀x∈(vk most lv p v).2,x.2.length<n:=by
 cases lv with
 |nil=>exact h
 |cons y r=>
  obtain⟨c,hc⟩:=Y5 (most:=most) (x:=y) (r:=r) (p:=p) (v:=v);rw[hc];intro x hx;rcases List.mem_cons.1 hx with rfl |hx
  ·exact h y (iK ..)
  ·exact h x (iX _ hx)
theorem qV4 {most:Nat} {was:List LvM} {n:Nat} (hw:∀x∈was,x.2.length<n):∀{cs:List Cl} {lv:List LvM},(∀x∈lv,x.2.length<n)→∀x∈(yr most was lv cs).2,x.2.length<n:=by
 intro cs
 induction cs with
 |nil=>intro lv h;exact h
 |cons c cs ih=>
  intro lv h;rw[vw]
  split
  ·exact ih (qj3 h)
  ·exact hw
theorem Ni {M:VM} {cs:List Cl} (O:OkV M):OkV (jr M cs).2:=by
 unfold jr
 split
 ·exact⟨O.lo,O.hi,(Ob O.lvs O.lvs rfl).1,O.ins,O.un,qV4 O.fr O.fr⟩
 ·exact O
theorem Xr {n:Nat} (hn:8≤n) {v:Nat} {M:VM} {cs:List Cl} {c:AV} (H:HS g h (ViewC v M::R)) (O:OkV M) (S:Rd g R 2 cs.length c (cs.flatMap jU)) (hc:cs.length<100000) :
  t_w n 176 [.ptr v 0,c] h λr h'=>r=.int .i64 (jr M cs).1∧HS g h' (ViewC v (jr M cs).2::R):=by
 refine t_e2 (S:=S176) rfl omQ λk hk=>?_;unfold S176;try simp only[iZ]
 refine zD (S.sl H.drop) ?_;refine jP (λk s h'=>∃i:Nat,s=(.int .i64 (i:Int),.int .i64 (cs.length:Int),c,c,.ptr v 0,())∧i≤cs.length∧k=cs.length-i∧HS g h' (ViewC v M::R)∧∀j,j<i→∀d,cs[j]? =some d→1≤d.1∧d.1<M.sz)
  ?_ (m:=cs.length) (by show _<1000000000;omega) ⟨0,rfl,by omega,by omega,H,λj hj=>by omega⟩
 rintro k2 ih s h2 hih ⟨i,rfl,h1,rfl,H,hno⟩;dsimp only;refine jt (λhlt=>qX ?_) λhge=>qJ ?_
 ·have hi:i<cs.length:=by omega
  have hci:cs[i]? =some cs[i]:=iW hi;refine zf (l:=jU cs[i]) (S.sl H.drop) hi omQ (YJ hci) ?_;refine qM H rfl λb h3 H3=>qc H3 .here rfl (by show 0+2≤2;omega) rfl λh4 H4=>?_;have H5:HS g h4 (qk b (jU cs[i])::ViewC v M::R):=H4;unfold jU at H5;refine qQ (qG ‹_› .here rfl ?_);refine qW (My omQ H5.drop) ?_;rintro _ _ ⟨rfl,rfl⟩;by_cases hin:1≤cs[i].1∧cs[i].1<M.sz
  ·rw[iG hin];refine qu (qJ (qU omQ ?_));refine hih (cs.length-(i+1)) _ _ omQ ⟨i+1,rfl,by omega,rfl,H5.drop,λj hj d hd=>?_⟩;by_cases hj':j<i
   ·exact hno j hj' d hd
   ·obtain rfl:j=i:=by omega
    rw[hci]at hd;cases hd;exact hin
  ·rw[iV hin];refine jQ (qX (qx ?_));unfold jr;rw[iQ (λh=>hin (h _ (List.getElem_mem hi)))];exact qY ⟨rfl,H5.drop⟩
 ·have hall:∀d∈cs,1≤d.1∧d.1<M.sz:=by
   intro d hd;obtain⟨j,hj⟩:=List.getElem?_of_mem hd;exact hno j (by have:=(List.getElem?_eq_some_iff.1 hj).1;omega) d hj
  obtain⟨fv,ov,q,e,H⟩:=ViewC.E H;refine qq (qQ (qG ‹_› .here rfl ?_));refine qW (qGR omQ (H.sel (P:=LgC q M.most M.lv) e_3) O.lvs (S.more.more.more) hc) ?_;rintro _ h4 ⟨rfl,H4⟩;unfold jr;rw[iJ hall];exact qx (qY ⟨rfl,ViewC.I (M:={ M with lv:=(yr M.most M.lv M.lv cs).2 }) (fv:=fv) (ov:=ov) (q:=q) (e:=e) (H4.sub (.cons e_1 (.cons e_1 (.cons e_1 (.refl)))))⟩)
theorem qKR {n:Nat} (hn:4≤n) {v:Nat} {M:VM} (H:HS g h (ViewC v M::R)) (O:OkV M) :
  t_w n 230 [.ptr v 0] h λr h'=>r=.int .i64 (yg M).1∧HS g h' (ViewC v (yg M).2::R):=by
 refine t_e1 (S:=S230) rfl omQ λk hk=>?_;unfold S230;try simp only[iZ]
 obtain⟨fv,ov,q,e,H⟩:=ViewC.E H;refine qq (qQ (qG ‹_› .here rfl ?_));refine qW (qYR omQ (H.sel (P:=LgC q M.most M.lv) e_3) O.lvs) ?_;rintro _ h2 ⟨rfl,H2⟩;exact qY ⟨rfl,ViewC.I (M:=(yg M).2) (fv:=fv) (ov:=ov) (q:=q) (e:=e) (H2.sub (.cons e_1 (.cons e_1 (.cons e_1 (.cons .here (.refl))))))⟩
theorem NP {n:Nat} (hn:2≤n) {v:Nat} {M:VM} (H:HS g h (ViewC v M::R)) (O:OkV M) :
  t_w n 167 [.ptr v 0] h λr h'=>r=.int .i64 (xY M).1∧HS g h' (ViewC v (xY M).2::R):=by
 refine t_e1 (S:=S167) rfl omQ λk hk=>?_;unfold S167;try simp only[iZ]
 obtain⟨fv,ov,q,e,H⟩:=ViewC.E H;refine qq (qQ (qG ‹_› .here rfl ?_));refine qW (NJ omQ (H.sel (P:=LgC q M.most M.lv) e_3) O.lvs) ?_;rintro _ h2 ⟨rfl,H2⟩;exact qY ⟨rfl,ViewC.I (M:=(xY M).2) (fv:=fv) (ov:=ov) (q:=q) (e:=e) (H2.sub (.cons e_1 (.cons e_1 (.cons e_1 (.cons .here (.refl))))))⟩
theorem Nu {n:Nat} (hn:7≤n) {v:Nat} {M:VM} (H:HS g h (ViewC v M::R)) (O:OkV M) :
  t_w n 165 [.ptr v 0] h λr h'=>r=.int .i64 (yh M).1∧HS g h' (ViewC v (yh M).2::R):=by
 refine t_e1 (S:=S165) rfl omQ λk hk=>?_;unfold S165;try simp only[iZ]
 obtain⟨fv,ov,q,e,H⟩:=ViewC.E H;refine qq (qQ (qG ‹_› .here rfl ?_));refine qW (qWb omQ (H.sel (P:=LgC q M.most M.lv) e_3) O.lvs λx hx=>Nat.lt_trans (O.fr x hx) omQ) ?_;rintro _ h2 ⟨rfl,H2⟩;exact qY ⟨rfl,ViewC.I (M:=(yh M).2) (fv:=fv) (ov:=ov) (q:=q) (e:=e) (H2.sub (.cons e_1 (.cons e_1 (.cons e_1 (.cons .here (.refl))))))⟩
theorem qW1 {n:Nat} (hn:3≤n) {v:Nat} {M:VM} {b:Int} (H:HS g h (ViewC v M::R)) (O:OkV M) :
  t_w n 229 [.ptr v 0,.int .i64 b] h λ_ h'=>HS g h' (ViewC v (freeV M b)::R):=by
 refine t_e2 (S:=S229) rfl omQ λk hk=>?_;unfold S229;try simp only[iZ]
 obtain⟨fv,ov,q,e,H⟩:=ViewC.E H;refine qq (qQ (qG ‹_› .here rfl ?_));refine qW (qV9 omQ (H.sel (P:=LgC q M.most M.lv) e_3) O.lvs λx hx=>Nat.lt_trans (O.fr x hx) omQ) ?_;intro _ h2 H2;exact qY (ViewC.I (M:=freeV M b) (fv:=fv) (ov:=ov) (q:=q) (e:=e) (H2.sub (.cons e_1 (.cons e_1 (.cons e_1 (.cons .here (.refl)))))))
theorem Ky {n:Nat} (hn:1≤n) {v:Nat} {M:VM} (H:HS g h (ViewC v M::R)) :
  t_w n 91 [.ptr v 0] h λr h'=>r=.int .i64 M.need∧h'=h:=by
 refine t_e1 (S:=S91) rfl omQ λk hk=>?_;unfold S91;try simp only[iZ]
 obtain⟨fv,ov,q,e,H⟩:=ViewC.E H;refine qq (qQ (qG ‹_› .here rfl ?_));exact qY ⟨rfl,rfl⟩
theorem Yp {n:Nat} (hn:10≤n) {v:Nat} {M:VM} (H:HS g h (ViewC v M::R)) (O:OkV M) :
  t_w n 50 [.ptr v 0] h λr h'=>HS g h' (qD 66 2 (jV M.lv).length r ((jV M.lv).flatMap jU)::ViewC v M::R):=by
 refine t_e1 (S:=S50) rfl omQ λk hk=>?_;unfold S50;try simp only[iZ]
 obtain⟨fv,ov,q,e,H⟩:=ViewC.E H;refine qq (qQ (qG ‹_› .here rfl ?_));refine qW (qZ9 omQ (H.sel (P:=LgC q M.most M.lv) e_3) O.lvs) ?_;intro r h2 H2;refine qY ?_;have H3:=ViewC.I (v:=v) (M:=M) (fv:=fv) (ov:=ov) (q:=q) (e:=e) (R:=qD 66 2 (jV M.lv).length r ((jV M.lv).flatMap jU)::R) (H2.sub (.cons e_2 (.cons e_2 (.cons e_2 (.cons e_1 (.refl))))));exact H3.sub (.cons e_1 (.refl))
theorem qJt {n:Nat}:∀{l:List LvM},(∀x∈l,x.2.length<n)→(l.flatMap (·.2)).length≤l.length*n:=by
 intro l h
 induction l with
 |nil=>simp
 |cons x r ih=>have h1:=h x (iK ..);have h2:=ih λy hy=>h y (iX _ hy);rw[List.flatMap_cons,List.length_append,List.length_cons,Nat.add_mul,Nat.one_mul];omega
theorem ZS {n:Nat} {lv:List LvM} (h:∀x∈lv,x.2.length<n):(vz lv).length≤lv.length*n:=by have:=qJt (l:=lv.reverse) (n:=n) λx hx=>h x (List.mem_reverse.1 hx);rw[List.length_reverse]at this;exact this
theorem Uh {n:Nat} (hn:2≤n) {v:Nat} {M:VM} (H:HS g h (ViewC v M::R)) (O:OkV M) :
  t_w n 51 [.ptr v 0] h λr h'=>HS g h' (qD 3 1 (vz M.lv).length r ((vz M.lv).map (.int .i64))::ViewC v M::R):=by
 refine t_e1 (S:=S51) rfl omQ λk hk=>?_;unfold S51;try simp only[iZ]
 obtain⟨fv,ov,q,e,H⟩:=ViewC.E H;refine qq (qQ (qG ‹_› .here rfl ?_));have hfl:=ZS O.fr;have hd:=O.lvs.deep;refine qW (qZc omQ (H.sel (P:=LgC q M.most M.lv) e_3) O.lvs omQ) ?_;intro r h2 H2;refine qY ?_;have H3:=ViewC.I (v:=v) (M:=M) (fv:=fv) (ov:=ov) (q:=q) (e:=e) (R:=qD 3 1 (vz M.lv).length r ((vz M.lv).map (.int .i64))::R) (H2.sub (.cons e_2 (.cons e_2 (.cons e_2 (.cons e_1 (.refl))))));exact H3.sub (.cons e_1 (.refl))
def xM (zs:List Int) (i:Nat):Int:=zs[i]?.getD 0
def kW (zs:List Int):List Cl:=(List.range (szZ zs.length-1)).map λi=>(((i+1:Nat):Int),xM zs (i+1))
def zt (zs:List Int) (most:Int):VM:=⟨szZ zs.length,kW zs,(max 0 (min most 96)).toNat,[([],[])],0⟩
theorem ZH (zs:List Int):(kW zs).length=szZ zs.length-1:=by simp[kW]
theorem MP (zs:List Int) {i:Nat} (hi:i+1<szZ zs.length):(kW zs)[i]? =some (((i+1:Nat):Int),xM zs (i+1)):=by unfold kW;rw[List.getElem?_map,List.getElem?_range omQ];rfl
theorem qQb (zs:List Int) {i:Nat} {p:Int} (hp:(i:Int)<p):j0 p ((kW zs).take i)=none:=by rw[Nj];intro hm;obtain⟨c,hc,he⟩:=List.mem_map.1 hm;obtain⟨j,hj⟩:=List.getElem?_of_mem hc;have hjl:=(List.getElem?_eq_some_iff.1 hj).1;simp[ZH]at hjl;rw[List.getElem?_take_of_lt omQ,MP zs omQ]at hj;cases hj;dsimp only at he;omega
def GM (zs:List Int) (most:Int) (i:Nat):VM:={ zt zs most with K:=(kW zs).take i }
theorem qQr (zs:List Int) (most:Int) (i:Nat):OkV (GM zs most i):=by
 have hb:=VV (zs.length:Int);refine⟨hb.1,hb.2,qQI (by show(max 0 (min most 96)).toNat≤96;omega),?_,?_,by intro x hx;simp[GM,zt]at hx;subst hx;simp⟩
 ·intro c hc;obtain⟨j,hj⟩:=List.getElem?_of_mem (List.mem_of_mem_take hc);have hjl:=(List.getElem?_eq_some_iff.1 hj).1;rw[ZH]at hjl;rw[MP zs omQ]at hj;cases hj;show 1≤((j+1:Nat):Int)∧((j+1:Nat):Int)<((szZ zs.length:Nat):Int);omega
 ·show((((kW zs).take i).map (·.1))).Nodup;refine List.Nodup.sublist ((List.take_sublist i _).map _) ?_;unfold kW;rw[List.map_map];refine List.Pairwise.map _ ?_ (List.nodup_range (n:=szZ zs.length-1));intro a b hab;simp;omega
theorem qJu (zs:List Int) (most:Int):OkV (zt zs most):=by have:=qQr zs most (kW zs).length;unfold GM at this;rw[List.take_length]at this;exact this
theorem qJd {n:Nat} (hn:5≤n) {zs:List Int} {a0:AV} {m:Int} (H:HS g h R) (S:Rd g R 1 zs.length a0 (zs.map (.int .u64))) :
  t_w n 45 [a0,.int .i64 m] h λr h'=>∃v,r=.ptr v 0∧HS g h' (ViewC v (zt zs m)::R):=by
 refine t_e2 (S:=S45) rfl omQ λk hk=>?_;unfold S45;try simp only[iZ]
 have hb:=VV (zs.length:Int);refine zD (S.sl H) ?_;refine qW (qQd omQ H) ?_;rintro _ h1 ⟨v,rfl,H1⟩;refine jP (λk s h'=>∃i:Nat,s=(.int .i64 ((i+1:Nat):Int),.ptr v 0,a0,())∧i+1≤szZ zs.length∧k=szZ zs.length-(i+1)∧HS g h' (ViewC v (GM zs m i)::R)) ?_ (m:=szZ zs.length-1) (by show _<1000000000;omega) ⟨0,rfl,by omega,by omega,H1⟩;rintro k2 ih s h' hih ⟨i,rfl,h1,rfl,H⟩;dsimp only;refine qW (Xs omQ H) ?_;rintro _ _ ⟨rfl,rfl⟩;show wp (jv .lss _ (.int .i64 ((szZ zs.length:Nat):Int)) _) _;refine jt (λhlt=>qX ?_) λhge=>qJ (qx (qY ⟨v,rfl,?_⟩))
 ·have hi:i+1<szZ zs.length:=by omega
  refine jT [] (λs g'=>s=(.int .u64 (xM zs (i+1)),.int .i64 ((i+1:Nat):Int),.ptr v 0,a0,())∧HS g g' (ViewC v (GM zs m i)::R)) ?_ ?_
  ·intro j hj;refine zD (S.sl H.drop) ?_;refine jt (λhl=>qX ?_) λhl=>qJ ?_
   ·refine jA (S.sl H.drop) (x:=.int .u64 (xM zs (i+1))) ?_ (hj _ _ ⟨rfl,H⟩);unfold xM;rw[List.getElem?_map,iW omQ];rfl
   ·refine hj _ _ ⟨?_,H⟩;unfold xM;rw[List.getElem?_eq_none omQ];rfl
  ·rintro s g' ⟨rfl,H2⟩;dsimp only;refine qW (Ow omQ H2 (qQr zs m i)) ?_;rintro _ h4 ⟨_,H4⟩;have hk:(zP (GM zs m i) ((i+1:Nat):Int) (xM zs (i+1))).2=GM zs m (i+1):=by
    unfold zP;rw[iJ (show 1≤((i+1:Nat):Int)∧((i+1:Nat):Int)<((GM zs m i).sz:Int)from⟨by omega,show((i+1:Nat):Int)<((szZ zs.length:Nat):Int) by omega⟩)]
    show(match j0 ((i+1:Nat):Int) ((kW zs).take i)with
     |some y=>(if y=xM zs (i+1)then(0:Int)else 14,GM zs m i)
     |none=>(0,{ GM zs m i with K:=(kW zs).take i++[(((i+1:Nat):Int),xM zs (i+1))] })).2=_
    rw[qQb zs omQ];dsimp only;unfold GM;rw[List.take_add_one,MP zs hi];rfl
   rw[hk]at H4;refine qU omQ (hih (szZ zs.length-(i+1+1)) _ _ omQ ⟨i+1,rfl,by omega,rfl,H4⟩)
 ·have hi:i=(kW zs).length:=by rw[ZH];omega
  subst hi;unfold GM at H;rw[List.take_length]at H;exact H
end Go.Proofs.YtnalffoigcmnnaaGreatDoor
namespace Go.Proofs.YtnalffoigcmnnaaGreatDoor
open Go Go.Ae
abbrev qS:Type:=Int×Int×Int×Int×Int
def q8 (x:qS):List AV:=[.int .i64 x.1,.int .i64 x.2.1,.int .i64 x.2.2.1,.int .i64 x.2.2.2.1,.int .u64 x.2.2.2.2]
theorem GA (l:List qS):ql (l.flatMap q8)=true:=by unfold ql;rw[List.all_eq_true];intro v hv;obtain⟨c,_,hc⟩:=List.mem_flatMap.1 hv;simp[q8]at hc;rcases hc with rfl |rfl |rfl |rfl |rfl<;>rfl
def jY (op:Int):(Int×Int)×(Int×Int)×(Int×Int) :=
 if op=1∨op=11∨op=21 then((0,7),(0,0),(0,0))
 else if op=2∨op=10 then((0,7),(0,7),(0,0))
 else if op=3∨op=4∨op=5∨op=6∨op=7 then((0,7),(0,7),(0,7))
 else if op=8∨op=9 then((0,7),(0,7),(0,15))
 else if op=12 then((0,0),(0,0),(0,40))
 else if op=13 then((0,7),(0,0),(0,40))
 else if op=23 then((1,12),(0,7),(0,6))
 else((0,0),(0,0),(0,0))
def vK (f:Int×Int) (n:Int):Bool:=decide (f.1≤n∧n≤f.2)
def vJ (x:qS):Bool:=decide (1≤x.1∧x.1≤23)&&vK (jY x.1).1 x.2.1&&vK (jY x.1).2.1 x.2.2.1&&vK (jY x.1).2.2 x.2.2.2.1&&decide (x.2.2.2.2=0∨x.1=1)
def zR (op:Int):Bool:=decide (op=14∨op=17)
def jO (op:Int):Int:=if op=15 then 14 else if op=18 then 17 else if op=19 then 18 else 0
def qm (st:List Int):Int:=st.getLast?.getD (-1)
def qL (l:List qS) (i:Int):qS:=(l[i.toNat]?).getD (0,0,0,0,0)
def opM (l:List qS) (st:List Int):Int:=if st=[]then 0 else(qL l (qm st)).1
def zk (l:List qS) (st:List Int) (x:qS):Int :=
 if vJ x=false then 8
 else if 0<jO x.1∧opM l st≠jO x.1 then 12
 else if x.1=16∧opM l st≠14 then 12
 else if zR x.1=true∧5≤st.length then 9
 else 0
def qt (st:List Int) (i op:Int):List Int :=
 if zR op=true∨op=18 then(if 0<jO op then st.dropLast else st)++[i]else(if 0<jO op then st.dropLast else st)
def goM (l:List qS):List qS→Nat→List Int→(Int×Int) ⊕ List Int
 |[],_,st=>.inr st
 |x::r,i,st=>if zk l st x=0 then goM l r (i+1) (qt st i x.1)else .inl (i,zk l st x)
def yn:List qS→Nat→List Int→List Int
 |[],_,_=>[]
 |x::r,i,st=>qm st::yn r (i+1) (qt st i x.1)
def qB (a:List Int) (i:Int):Int:=(a[i.toNat]?).getD 0
def JD (l:List qS) (a:List Int) (i:Nat) (x:qS):Prop :=
 (x.1=12∨x.1=13)∧((l.length:Int)<x.2.2.2.1∨(x.2.2.2.1=l.length∧qB a i≠ -1)∨(x.2.2.2.1<l.length∧qB a x.2.2.2.1≠qB a i))
instance {l:List qS} {a:List Int} {i:Nat} {x:qS}:Decidable (JD l a i x):=by unfold JD;infer_instance
def Qo (l:List qS) (a:List Int):List qS→Nat→Int×Int
 |[],_=>(0,0)
 |x::r,i=>if JD l a i x then((i:Int),2)else Qo l a r (i+1)
def yQ (l:List qS):Int×Int :=
 if l.length=0∨40<l.length then(0,4)
 else match goM l l 0 []with
  | .inl r=>r
  | .inr st=>if st=[]then Qo l (yn l 0 []) l 0 else(qm st,12)
def StOk (i:Nat) (st:List Int):Prop:=∀y∈st,0≤y∧y<(i:Int)
theorem StOk.nil {i:Nat}:StOk i []:=λ_ h=>by cases h
theorem StOk.dropLast {i:Nat} {st:List Int} (h:StOk i st):StOk i st.dropLast:=λy hy=>h y ((List.dropLast_sublist st).subset hy)
theorem StOk.behind {i:Nat} {st:List Int} {op:Int} (h:StOk i st):StOk (i+1) (qt st i op):=by
 have h1:∀s,StOk i s→StOk (i+1) s:=λs hs y hy=>by have:=hs y hy;omega
 have h2:∀s,StOk i s→StOk (i+1) (s++[(i:Int)]):=by
  intro s hs y hy;rcases List.mem_append.1 hy with hy |hy
  ·exact h1 s hs y hy
  ·rw[List.mem_singleton]at hy;omega
 unfold qt
 repeat' split
 ·exact h2 _ h.dropLast
 ·exact h2 _ h
 ·exact h1 _ h.dropLast
 ·exact h1 _ h
theorem StOk.inmost {i:Nat} {st:List Int} (h:StOk i st) (hn:st≠[]):0≤qm st∧qm st<(i:Int):=by refine h _ ?_;unfold qm;rw[List.getLast?_eq_some_getLast hn];exact List.getLast_mem hn
theorem K6 (st:List Int) (i op:Int):(qt st i op).length≤st.length+1:=by
 unfold qt
 repeat' split
 all_goals simp
 all_goals omega
theorem XP:qm []= -1:=rfl
theorem zl {l:List qS} {st:List Int} {x:qS} (h:zk l st x=0):vJ x=true∧(0<jO x.1∨x.1=16→st≠[])∧(zR x.1=true→st.length<5):=by
 unfold zk at h
 split at h
 ·cases h
 ·rename_i h1
  split at h
  ·cases h
  ·rename_i h2
   split at h
   ·cases h
   ·rename_i h3
    split at h
    ·cases h
    ·rename_i h4
     refine⟨by simpa using h1,?_,λhb=>by
      by_cases h5:5≤st.length
      ·exact absurd ⟨hb,h5⟩ h4
      ·omega⟩
     rintro ho rfl;have h0:opM l []=0:=rfl;rw[h0]at h2 h3;rcases ho with ho |ho
     ·exact h2 ⟨ho,by omega⟩
     ·exact h3 ⟨ho,by omega⟩
theorem Xi {l r:List qS} {x:qS} {i:Nat} {st:List Int}:goM l (x::r) i st=if zk l st x=0 then goM l r (i+1) (qt st i x.1)else .inl (i,zk l st x):=rfl
theorem G6:∀{r:List qS} {i:Nat} {st:List Int},(yn r i st).length=r.length:=by
 intro r
 induction r with
 |nil=>intro i st;rfl
 |cons x r ih=>intro i st;show(yn r (i+1) _).length+1=_;rw[ih];rfl
theorem qGd:∀{r:List qS} {i j:Nat} {st:List Int},j<r.length→∃s,(yn r i st)[j]? =some (qm s)∧(∀{l:List qS} {st':List Int},goM l r i st=.inr st'→StOk i st→StOk (i+j) s∧∀x,r[j]? =some x→zk l s x=0):=by
 intro r
 induction r with
 |nil=>intro i j st h;simp at h
 |cons x r ih=>
  intro i j st h;cases j with
  |zero=>
   refine⟨st,rfl,λ{l st'} hg hs=>⟨hs,?_⟩⟩;intro y hy;simp at hy;subst hy;rw[Xi]at hg
   split at hg
   ·assumption
   ·cases hg
  |succ j=>
   obtain⟨s,h1,h2⟩:=ih (i:=i+1) (j:=j) (st:=qt st i x.1) (by simp at h;omega);refine⟨s,h1,λ{l st'} hg hs=>?_⟩;rw[Xi]at hg
   split at hg
   ·have:=h2 hg hs.behind;rw[show i+1+j=i+(j+1) by omega]at this;exact this
   ·cases hg
end Go.Proofs.YtnalffoigcmnnaaGreatDoor
namespace Go.Proofs.YtnalffoigcmnnaaGreatDoor
open Go Go.Ae
set_option maxRecDepth 100000
variable {g h:AH} {L R:List SP}
theorem wE {D:Nat→Prop} {sz n:Nat} {v:AV} {xs:List AV} (S:Sl D h sz n v xs):One v:=by cases S<;>exact⟨rfl,rfl⟩
theorem yG {v:AV} (o:One v):ql [v]=true:=by simp[ql,o.2]
theorem zb {g' ha:AH} {b off n nx:Nat} {xs ys l:List AV} {L2 R2:List SP} {K0:Go.Ae.R} {Q:AV→AH→Prop} (H:HS g h L) (s:Sel L (qk b xs) R) (hx:(xs.drop off).take n=l) (H2:HS g' ha L2) (s2:Sel L2 (qk b ys) R2) (hx2:(ys.drop off).take n=l) (hl:l.length=n) (h0:0<n) (hlt:b<nx)
  (w:wp K0 Q):wp (QC (.ptr b off) (some n) (.agg l) h ha nx K0) Q:=by
 obtain⟨e,A⟩:=H.obj s;obtain⟨e2,A2⟩:=H2.obj s2;exact qj6 hl h0 (λi hi=>by rw[A.at,← hx,List.getElem?_take_of_lt hi,List.getElem?_drop]) (λi hi=>by rw[A2.at,← hx2,List.getElem?_take_of_lt hi,List.getElem?_drop]) hlt w
theorem Ok {u x:Bool} {r:AV} {K:AV→Go.Ae.R} {Q:AV→AH→Prop} (hr:u=true→r=.bool x) (w:wp (K (.bool (u&&x))) Q):wp (yJ (.bool u) r (.bool false) K) Q:=by
 cases u
 ·exact w
 ·rw[hr rfl];exact w
end Go.Proofs.YtnalffoigcmnnaaGreatDoor
namespace Go.Proofs.YtnalffoigcmnnaaGreatDoor
open Go Go.Ae
set_option maxRecDepth 100000
variable {g h:AH} {L R:List SP}
theorem qY4 {s:List UInt8} {K:AV→Go.Ae.R} {Q:AV→AH→Prop} {t:Bool} (ht:OQ .neq s []=some (.bool t)) (w:wp (K (.bool t)) Q):wp (UV .neq (.str s) (.str []) K) Q:=by show wp (ob (OQ .neq s []) K) Q;rw[ht];exact w
theorem YY {n:Nat} (hn:1≤n) {x:Int}:t_w n 109 [.int .i64 x] h λv h'=>v=.int .i64 (jO x)∧h'=h:=by
 refine t_e1 (S:=S109) rfl omQ λk hk=>?_;unfold S109;try simp only[iZ]
 repeat' (first |with_reducible refine qX ?_ |with_reducible refine qJ ?_ |(with_reducible refine qR ?_;try dsimp only) |(with_reducible refine qf ?_;try dsimp only) |(with_reducible refine qT ?_;try dsimp only) |(with_reducible refine qa ?_;try dsimp only) |(with_reducible refine jc ?_;try dsimp only) |with_reducible refine qC ?_ |with_reducible refine qF ?_ |(with_reducible refine qV ?_;try dsimp only) |with_reducible refine qx ?_ |with_reducible refine qu ?_ |with_reducible refine jQ ?_ |with_reducible refine qU omQ ?_ |with_reducible refine jM omQ ?_ |with_reducible refine xJ omQ ?_ |with_reducible refine xS omQ ?_ |with_reducible refine jm ?_ |with_reducible refine zK ?_ |with_reducible refine jt (λhc=>?_) (λhc=>?_) |with_reducible refine gd (λhc=>?_) (λhc=>?_) |with_reducible refine yd (λhc=>?_) (λhc=>?_) |with_reducible refine xT (λhc=>?_) (λhc=>?_) |with_reducible refine vq (λhc=>?_) (λhc=>?_) |with_reducible refine xA (λhc=>?_) (λhc=>?_) |with_reducible refine vP (λhc=>?_) (λhc=>?_))
 all_goals refine qY ⟨?_,rfl⟩
 all_goals unfold jO
 all_goals congr 1
 all_goals (repeat' split)
 all_goals omega
theorem KZ {n:Nat} (hn:1≤n) {x:Int}:t_w n 141 [.int .i64 x] h λv h'=>v=.bool (zR x)∧h'=h:=by
 refine t_e1 (S:=S141) rfl omQ λk hk=>?_;unfold S141;try simp only[iZ]
 unfold zR;by_cases h1:x=14
 ·refine qz omQ ?_;refine qV ?_;(try dsimp only);refine qf ?_;(try dsimp only);refine qC ?_
  exact qY ⟨by rw[iG (.inl h1)],rfl⟩
 ·refine qZ omQ ?_;refine qV ?_;(try dsimp only);refine qa ?_;(try dsimp only)
  refine Jw (qF ?_);exact qY ⟨by congr 1;exact decide_eq_decide.2 ⟨.inr,λh=>h.resolve_left h1⟩,rfl⟩
theorem qGD {n:Nat} (hn:1≤n) {x:Int}:t_w n 142 [.int .i64 x] h λv h'=>v=.bool (decide (x=12∨x=13))∧h'=h:=by
 refine t_e1 (S:=S142) rfl omQ λk hk=>?_;unfold S142;try simp only[iZ]
 by_cases h1:x=12
 ·refine qz omQ ?_;refine qV ?_;(try dsimp only);refine qf ?_;(try dsimp only);refine qC ?_
  exact qY ⟨by rw[iG (.inl h1)],rfl⟩
 ·refine qZ omQ ?_;refine qV ?_;(try dsimp only);refine qa ?_;(try dsimp only)
  refine Jw (qF ?_);exact qY ⟨by congr 1;exact decide_eq_decide.2 ⟨.inr,λh=>h.resolve_left h1⟩,rfl⟩
theorem Xj {D:Nat→Prop} {n:Nat} (hn:1≤n) {st:List Int} {v:AV} (S:Sl D h 1 st.length v (st.map (.int .i64))) (hl:st.length<1000) :
  t_w n 106 [v] h λr h'=>r=.int .i64 (qm st)∧h'=h:=by
 refine t_e1 (S:=S106) rfl omQ λk hk=>?_;unfold S106;try simp only[iZ]
 refine zD S ?_;by_cases h0:st.length=0
 ·obtain rfl:=iA h0;refine qz omQ ?_;refine qX ?_;exact qY ⟨rfl,rfl⟩
 ·refine qZ omQ ?_;refine qJ (zD S ?_);refine jM omQ ?_;rw[show(st.length:Int)-((1:Nat):Int)=((st.length-1:Nat):Int) by omega];have hne:st≠[]:=by rintro rfl;exact h0 rfl
  refine jA S (x:=.int .i64 (qm st)) ?_ (qY ⟨rfl,rfl⟩);unfold qm;rw[List.getElem?_map,← List.getLast?_eq_getElem?,List.getLast?_eq_some_getLast hne];rfl
theorem KP {n:Nat} (hn:1≤n) {f:Int×Int} {x:Int} (H:HS g h R):t_w n 188 [.agg [.int .i64 f.1,.int .i64 f.2],.int .i64 x] h λv h'=>v=.bool (vK f x)∧HS g h' R:=by
 refine t_e2 (S:=S188) rfl omQ λk hk=>?_;unfold S188;try simp only[iZ]
 refine qM H rfl λb h1 H1=>?_;unfold vK;by_cases c1:f.1≤x
 ·refine qQ (qG ‹_› .here rfl ?_);refine zz omQ ?_;refine qV ?_;(try dsimp only);refine qR ?_;(try dsimp only);refine qQ (qG ‹_› .here rfl ?_)
  refine Ma (qC ?_);exact qY ⟨by congr 1;exact decide_eq_decide.2 ⟨λh=>⟨c1,h⟩,λh=>h.2⟩,H1.drop⟩
 ·refine qQ (qG ‹_› .here rfl ?_);refine zB omQ ?_;refine qV ?_;(try dsimp only);refine qT ?_;(try dsimp only);refine qF ?_
  exact qY ⟨by rw[iV (λh=>c1 h.1)],H1.drop⟩
def yp (f:Int×Int):List AV:=[.int .i64 f.1,.int .i64 f.2]
theorem Om {n:Nat} (hn:1≤n) {x:Int} (H:HS g h R):t_w n 186 [.int .i64 x] h λv h'=>v=.tup [.agg (yp (jY x).1),.agg (yp (jY x).2.1),.agg (yp (jY x).2.2)]∧HS g h' R:=by
 refine t_e1 (S:=S186) rfl omQ λk hk=>?_;unfold S186;try simp only[iZ]
 refine qM H rfl λb0 h1 H1=>?_;refine qM H1 rfl λb2 h2 H2=>?_;refine qM H2 rfl λb4 h3 H3=>?_;refine qI (l:=[.int .i64 ((0:Nat):Int),.int .i64 ((7:Nat):Int)]) rfl ?_;refine qM H3 rfl λb7 h4 H4=>?_;refine qc H4 (b:=b7) .here rfl osQ rfl λh5 H5=>?_;have H5:HS g h5 (qk b7 (yp (0,7))::qk b4 (yp (0,0))::qk b2 (yp (0,0))::qk b0 (yp (0,0))::R):=H5;clear H H1 H2 H3 H4;refine jT [] (λs h'=>s=(.ptr b4 0,.ptr b2 0,.ptr b0 0,())∧HS g h' (qk b0 (yp (jY x).1)::qk b2 (yp (jY x).2.1)::qk b4 (yp (jY x).2.2)::R)) ?_ ?_
 ·intro j hj;by_cases ha:x=1∨x=11∨x=21
  ·have e:jY x=((0,7),(0,0),(0,0)):=by unfold jY;rw[iJ ha]
   rw[e]at hj;rcases ha with rfl |rfl |rfl
   all_goals (first |with_reducible (refine qV ?_;(try dsimp only);refine qZ omQ ?_;refine qJ ?_;refine qZ omQ ?_;refine qJ ?_;refine qz omQ ?_;refine qX ?_) |with_reducible (refine qV ?_;(try dsimp only);refine qZ omQ ?_;refine qJ ?_;refine qz omQ ?_;refine qX ?_;refine qX ?_) |with_reducible (refine qV ?_;(try dsimp only);refine qz omQ ?_;refine qX ?_;refine qX ?_))
   all_goals refine qE H5 (b:=b7) (off:=0) .here rfl omQ rfl ?_
   all_goals refine qc H5 (b:=b0) e_3 rfl (by simp[yp]) rfl λh6 H6=>?_
   all_goals exact hj _ _ ⟨rfl,H6.sub (.cons .here (.cons e_2 (.cons e_1 (.drop .refl))))⟩
  by_cases hb:x=2∨x=10
  ·have e:jY x=((0,7),(0,7),(0,0)):=by unfold jY;rw[iQ ha,iJ hb]
   rw[e]at hj;rcases hb with rfl |rfl
   all_goals (first |with_reducible (refine qV ?_;(try dsimp only);refine qZ omQ ?_;refine qJ ?_;refine qZ omQ ?_;refine qJ ?_;refine qZ omQ ?_;refine qJ ?_;refine qV ?_;(try dsimp only);refine qZ omQ ?_;refine qJ ?_;refine qz omQ ?_;refine qX ?_;refine qV ?_;(try dsimp only)) |with_reducible (refine qV ?_;(try dsimp only);refine qZ omQ ?_;refine qJ ?_;refine qZ omQ ?_;refine qJ ?_;refine qZ omQ ?_;refine qJ ?_;refine qV ?_;(try dsimp only);refine qz omQ ?_;refine qX ?_;refine qX ?_;refine qV ?_;(try dsimp only)))
   all_goals refine qE H5 (b:=b7) (off:=0) .here rfl omQ rfl ?_
   all_goals refine qE H5 (b:=b7) (off:=0) .here rfl omQ rfl ?_
   all_goals refine qc H5 (b:=b0) e_3 rfl (by simp[yp]) rfl λh6 H6=>?_
   all_goals refine qc H6 (b:=b2) e_3 rfl (by simp[yp]) rfl λh7 H7=>?_
   all_goals refine zb H5 (b:=b7) .here rfl H6 e_1 rfl rfl omQ (HS.lt H5 .here) ?_
   all_goals exact hj _ _ ⟨rfl,H7.sub (.cons e_1 (.cons .here (.cons e_1 (.drop .refl))))⟩
  by_cases hc:x=3∨x=4∨x=5∨x=6∨x=7
  ·have e:jY x=((0,7),(0,7),(0,7)):=by unfold jY;rw[iQ ha,iQ hb,iJ hc]
   rw[e]at hj;rcases hc with rfl |rfl |rfl |rfl |rfl
   all_goals (first |with_reducible (refine qV ?_;(try dsimp only);refine qZ omQ ?_;refine qJ ?_;refine qZ omQ ?_;refine qJ ?_;refine qZ omQ ?_;refine qJ ?_;refine qV ?_;(try dsimp only);refine qZ omQ ?_;refine qJ ?_;refine qZ omQ ?_;refine qJ ?_;refine qV ?_;(try dsimp only);refine qZ omQ ?_;refine qJ ?_;refine qZ omQ ?_;refine qJ ?_;refine qZ omQ ?_;refine qJ ?_;refine qZ omQ ?_;refine qJ ?_;refine qz omQ ?_;refine qX ?_;refine qV ?_;(try dsimp only)) |with_reducible (refine qV ?_;(try dsimp only);refine qZ omQ ?_;refine qJ ?_;refine qZ omQ ?_;refine qJ ?_;refine qZ omQ ?_;refine qJ ?_;refine qV ?_;(try dsimp only);refine qZ omQ ?_;refine qJ ?_;refine qZ omQ ?_;refine qJ ?_;refine qV ?_;(try dsimp only);refine qZ omQ ?_;refine qJ ?_;refine qZ omQ ?_;refine qJ ?_;refine qZ omQ ?_;refine qJ ?_;refine qz omQ ?_;refine qX ?_;refine qX ?_;refine qV ?_;(try dsimp only)) |with_reducible (refine qV ?_;(try dsimp only);refine qZ omQ ?_;refine qJ ?_;refine qZ omQ ?_;refine qJ ?_;refine qZ omQ ?_;refine qJ ?_;refine qV ?_;(try dsimp only);refine qZ omQ ?_;refine qJ ?_;refine qZ omQ ?_;refine qJ ?_;refine qV ?_;(try dsimp only);refine qZ omQ ?_;refine qJ ?_;refine qZ omQ ?_;refine qJ ?_;refine qz omQ ?_;refine qX ?_;refine qX ?_;refine qV ?_;(try dsimp only)) |with_reducible (refine qV ?_;(try dsimp only);refine qZ omQ ?_;refine qJ ?_;refine qZ omQ ?_;refine qJ ?_;refine qZ omQ ?_;refine qJ ?_;refine qV ?_;(try dsimp only);refine qZ omQ ?_;refine qJ ?_;refine qZ omQ ?_;refine qJ ?_;refine qV ?_;(try dsimp only);refine qZ omQ ?_;refine qJ ?_;refine qz omQ ?_;refine qX ?_;refine qX ?_;refine qV ?_;(try dsimp only)) |with_reducible (refine qV ?_;(try dsimp only);refine qZ omQ ?_;refine qJ ?_;refine qZ omQ ?_;refine qJ ?_;refine qZ omQ ?_;refine qJ ?_;refine qV ?_;(try dsimp only);refine qZ omQ ?_;refine qJ ?_;refine qZ omQ ?_;refine qJ ?_;refine qV ?_;(try dsimp only);refine qz omQ ?_;refine qX ?_;refine qX ?_;refine qV ?_;(try dsimp only)))
   all_goals refine qE H5 (b:=b7) (off:=0) .here rfl omQ rfl ?_
   all_goals refine qE H5 (b:=b7) (off:=0) .here rfl omQ rfl ?_
   all_goals refine qE H5 (b:=b7) (off:=0) .here rfl omQ rfl ?_
   all_goals refine qc H5 (b:=b0) e_3 rfl (by simp[yp]) rfl λh6 H6=>?_
   all_goals refine qc H6 (b:=b2) e_3 rfl (by simp[yp]) rfl λh7 H7=>?_
   all_goals refine qc H7 (b:=b4) e_3 rfl (by simp[yp]) rfl λh8 H8=>?_
   all_goals refine zb H6 (b:=b7) e_1 rfl H7 e_2 rfl rfl omQ (HS.lt H5 .here) ?_
   all_goals refine zb H5 (b:=b7) .here rfl H6 e_1 rfl rfl omQ (HS.lt H5 .here) ?_
   all_goals refine zb H5 (b:=b7) .here rfl H6 e_1 rfl rfl omQ (HS.lt H5 .here) ?_
   all_goals exact hj _ _ ⟨rfl,H8.sub (.cons e_2 (.cons e_1 (.cons .here (.drop .refl))))⟩
  by_cases hd:x=8∨x=9
  ·have e:jY x=((0,7),(0,7),(0,15)):=by unfold jY;rw[iQ ha,iQ hb,iQ hc,iJ hd]
   rw[e]at hj;rcases hd with rfl |rfl
   all_goals (first |with_reducible (refine qV ?_;(try dsimp only);refine qZ omQ ?_;refine qJ ?_;refine qZ omQ ?_;refine qJ ?_;refine qZ omQ ?_;refine qJ ?_;refine qV ?_;(try dsimp only);refine qZ omQ ?_;refine qJ ?_;refine qZ omQ ?_;refine qJ ?_;refine qV ?_;(try dsimp only);refine qZ omQ ?_;refine qJ ?_;refine qZ omQ ?_;refine qJ ?_;refine qZ omQ ?_;refine qJ ?_;refine qZ omQ ?_;refine qJ ?_;refine qZ omQ ?_;refine qJ ?_;refine qV ?_;(try dsimp only);refine qZ omQ ?_;refine qJ ?_;refine qz omQ ?_;refine qX ?_;refine qV ?_;(try dsimp only)) |with_reducible (refine qV ?_;(try dsimp only);refine qZ omQ ?_;refine qJ ?_;refine qZ omQ ?_;refine qJ ?_;refine qZ omQ ?_;refine qJ ?_;refine qV ?_;(try dsimp only);refine qZ omQ ?_;refine qJ ?_;refine qZ omQ ?_;refine qJ ?_;refine qV ?_;(try dsimp only);refine qZ omQ ?_;refine qJ ?_;refine qZ omQ ?_;refine qJ ?_;refine qZ omQ ?_;refine qJ ?_;refine qZ omQ ?_;refine qJ ?_;refine qZ omQ ?_;refine qJ ?_;refine qV ?_;(try dsimp only);refine qz omQ ?_;refine qX ?_;refine qX ?_;refine qV ?_;(try dsimp only)))
   all_goals refine qE H5 (b:=b7) (off:=0) .here rfl omQ rfl ?_
   all_goals refine qE H5 (b:=b7) (off:=0) .here rfl omQ rfl ?_
   all_goals refine qI (l:=yp (0,15)) rfl ?_
   all_goals refine qc H5 (b:=b0) e_3 rfl (by simp[yp]) rfl λh6 H6=>?_
   all_goals refine qc H6 (b:=b2) e_3 rfl (by simp[yp]) rfl λh7 H7=>?_
   all_goals refine qc H7 (b:=b4) e_3 rfl (by simp[yp]) rfl λh8 H8=>?_
   all_goals refine zb H5 (b:=b7) .here rfl H6 e_1 rfl rfl omQ (HS.lt H5 .here) ?_
   all_goals exact hj _ _ ⟨rfl,H8.sub (.cons e_2 (.cons e_1 (.cons .here (.drop .refl))))⟩
  by_cases he:x=12
  ·have e:jY x=((0,0),(0,0),(0,40)):=by unfold jY;rw[iQ ha,iQ hb,iQ hc,iQ hd,iJ he]
   rw[e]at hj;subst he;refine qV ?_;(try dsimp only);refine qZ omQ ?_;refine qJ (qZ omQ ?_);refine qJ (qZ omQ ?_);refine qJ (qV ?_);(try dsimp only);refine qZ omQ ?_;refine qJ (qZ omQ ?_);refine qJ (qV ?_);(try dsimp only);refine qZ omQ ?_;refine qJ (qZ omQ ?_);refine qJ (qZ omQ ?_);refine qJ (qZ omQ ?_);refine qJ (qZ omQ ?_);refine qJ (qV ?_);(try dsimp only);refine qZ omQ ?_;refine qJ (qZ omQ ?_);refine qJ (qz omQ ?_);refine qX (qI rfl ?_)
   refine qc H5 (b:=b4) e_1 rfl (by simp[yp]) rfl λh6 H6=>?_;exact hj _ _ ⟨rfl,H6.sub (.cons e_3 (.cons e_2 (.cons .here (.drop .refl))))⟩
  by_cases hf:x=13
  ·have e:jY x=((0,7),(0,0),(0,40)):=by unfold jY;rw[iQ ha,iQ hb,iQ hc,iQ hd,iQ he,iJ hf]
   rw[e]at hj;subst hf;refine qV ?_;(try dsimp only);refine qZ omQ ?_;refine qJ (qZ omQ ?_);refine qJ (qZ omQ ?_);refine qJ (qV ?_);(try dsimp only);refine qZ omQ ?_;refine qJ (qZ omQ ?_);refine qJ (qV ?_);(try dsimp only);refine qZ omQ ?_;refine qJ (qZ omQ ?_);refine qJ (qZ omQ ?_);refine qJ (qZ omQ ?_);refine qJ (qZ omQ ?_);refine qJ (qV ?_);(try dsimp only);refine qZ omQ ?_;refine qJ (qZ omQ ?_);refine qJ (qZ omQ ?_);refine qJ (qz omQ ?_);refine qX ?_
   refine qE H5 (b:=b7) (off:=0) .here rfl omQ rfl ?_;refine qI (l:=yp (0,40)) rfl ?_;refine qc H5 (b:=b0) e_3 rfl (by simp[yp]) rfl λh6 H6=>?_;refine qc H6 (b:=b4) e_2 rfl (by simp[yp]) rfl λh7 H7=>?_;exact hj _ _ ⟨rfl,H7.sub (.cons e_1 (.cons e_2 (.cons .here (.drop .refl))))⟩
  by_cases hg:x=23
  ·have e:jY x=((1,12),(0,7),(0,6)):=by unfold jY;rw[iQ ha,iQ hb,iQ hc,iQ hd,iQ he,iQ hf,iJ hg]
   rw[e]at hj;subst hg;refine qV ?_;(try dsimp only);refine qZ omQ ?_;refine qJ (qZ omQ ?_);refine qJ (qZ omQ ?_);refine qJ (qV ?_);(try dsimp only);refine qZ omQ ?_;refine qJ (qZ omQ ?_);refine qJ (qV ?_);(try dsimp only);refine qZ omQ ?_;refine qJ (qZ omQ ?_);refine qJ (qZ omQ ?_);refine qJ (qZ omQ ?_);refine qJ (qZ omQ ?_);refine qJ (qV ?_);(try dsimp only);refine qZ omQ ?_;refine qJ (qZ omQ ?_);refine qJ (qZ omQ ?_);refine qJ (qZ omQ ?_);refine qJ (qz omQ ?_);refine qX (qI rfl ?_);refine qI rfl ?_;refine qI rfl ?_
   refine qc H5 (b:=b0) e_3 rfl (by simp[yp]) rfl λh6 H6=>?_;refine qc H6 (b:=b2) e_3 rfl (by simp[yp]) rfl λh7 H7=>?_;refine qc H7 (b:=b4) e_3 rfl (by simp[yp]) rfl λh8 H8=>?_;exact hj _ _ ⟨rfl,H8.sub (.cons e_2 (.cons e_1 (.cons .here (.drop .refl))))⟩
  ·have e:jY x=((0,0),(0,0),(0,0)):=by unfold jY;rw[iQ ha,iQ hb,iQ hc,iQ hd,iQ he,iQ hf,iQ hg]
   rw[e]at hj ⊢;refine qV ?_;(try dsimp only);refine qZ omQ ?_;refine qJ (qZ omQ ?_);refine qJ (qZ omQ ?_);refine qJ (qV ?_);(try dsimp only);refine qZ omQ ?_;refine qJ (qZ omQ ?_);refine qJ (qV ?_);(try dsimp only);refine qZ omQ ?_;refine qJ (qZ omQ ?_);refine qJ (qZ omQ ?_);refine qJ (qZ omQ ?_);refine qJ (qZ omQ ?_);refine qJ (qV ?_);(try dsimp only);refine qZ omQ ?_;refine qJ (qZ omQ ?_);refine qJ (qZ omQ ?_);refine qJ (qZ omQ ?_);refine qJ (qZ omQ ?_);refine qJ ?_
   exact hj _ _ ⟨rfl,H5.sub (.cons e_3 (.cons e_2 (.cons e_1 (.drop .refl))))⟩
 ·rintro s h6 ⟨rfl,H6⟩;dsimp only;generalize jY x=F at*;refine qV (qE H6 (b:=b0) (off:=0) .here rfl omQ rfl ?_);refine qE H6 (b:=b2) (off:=0) e_1 rfl omQ rfl ?_;refine qE H6 (b:=b4) (off:=0) e_2 rfl omQ rfl ?_;refine qc H6 (b:=b0) .here rfl (by simp[yp]) rfl λh7 H7=>?_;refine qc H7 (b:=b2) e_1 rfl (by simp[yp]) rfl λh8 H8=>?_;refine qc H8 (b:=b4) e_2 rfl (by simp[yp]) rfl λh9 H9=>?_;refine zb H7 (b:=b4) e_2 rfl H8 e_2 rfl rfl omQ (HS.lt H6 e_2) ?_;refine zb H6 (b:=b4) e_2 rfl H7 e_2 rfl rfl omQ (HS.lt H6 e_2) ?_;refine zb H6 (b:=b2) e_1 rfl H7 e_1 rfl rfl omQ (HS.lt H6 e_1) ?_;refine qx (qE H9 (b:=b0) (off:=0) e_2 rfl omQ rfl ?_);refine qE H9 (b:=b2) (off:=0) e_1 rfl omQ rfl ?_;refine qE H9 (b:=b4) (off:=0) .here rfl omQ rfl ?_;exact qY ⟨rfl,H9.drop.drop.drop⟩
def nameL:List (List UInt8):=[[],[115,101,116],[109,111,118,101],[97,100,100],[115,117,98],[109,117,108],[108,101,115,115],[101,113,117,97,108],[108,111,97,100],[115,116,111,114,101],[97,108,108,111,99],[102,114,101,101],[106,117,109,112],[122,101,114,111],[111,112,101,110],[99,108,111,115,101],[117,110,100,111],[101,105,116,104,101,114],[111,114],[100,111,110,101],[114,101,116,114,121],[101,109,105,116],[102,97,105,108],[99,97,108,108]]
theorem qqi {p:Nat} (hp:p<24):∃s,nameL[p]? =some s∧OQ .neq s []=some (.bool (decide (1≤(p:Int)∧(p:Int)≤23))):=by
 match p,hp with
 | 0,_=>exact⟨_,rfl,rfl⟩
 | 1,_=>exact⟨_,rfl,rfl⟩
 | 2,_=>exact⟨_,rfl,rfl⟩
 | 3,_=>exact⟨_,rfl,rfl⟩
 | 4,_=>exact⟨_,rfl,rfl⟩
 | 5,_=>exact⟨_,rfl,rfl⟩
 | 6,_=>exact⟨_,rfl,rfl⟩
 | 7,_=>exact⟨_,rfl,rfl⟩
 | 8,_=>exact⟨_,rfl,rfl⟩
 | 9,_=>exact⟨_,rfl,rfl⟩
 | 10,_=>exact⟨_,rfl,rfl⟩
 | 11,_=>exact⟨_,rfl,rfl⟩
 | 12,_=>exact⟨_,rfl,rfl⟩
 | 13,_=>exact⟨_,rfl,rfl⟩
 | 14,_=>exact⟨_,rfl,rfl⟩
 | 15,_=>exact⟨_,rfl,rfl⟩
 | 16,_=>exact⟨_,rfl,rfl⟩
 | 17,_=>exact⟨_,rfl,rfl⟩
 | 18,_=>exact⟨_,rfl,rfl⟩
 | 19,_=>exact⟨_,rfl,rfl⟩
 | 20,_=>exact⟨_,rfl,rfl⟩
 | 21,_=>exact⟨_,rfl,rfl⟩
 | 22,_=>exact⟨_,rfl,rfl⟩
 | 23,_=>exact⟨_,rfl,rfl⟩
 |k+24,h=>exact absurd h omQ
theorem qVO {n:Nat} (hn:2≤n) {x:Int} (H:HS g h R):t_w n 187 [.int .i64 x] h λv h'=>∃s,v=.str s∧OQ .neq s []=some (.bool (decide (1≤x∧x≤23)))∧HS g h' R:=by
 refine t_e1 (S:=S187) rfl omQ λk hk=>?_;unfold S187;try simp only[iZ]
 refine qW (Q':=λv h'=>∃e,HS g h' (qD e 1 24 v (nameL.map .str)::R)) ?_ ?_
 ·(refine qy (g:=W248) rfl omQ λk hk=>?_;show wp (S248 (callT tab qj k) _) _;unfold S248;try simp only[iI,uU,iZ])
  exact qr (n:=24) (l:=nameL.map .str) (sz:=1) H rfl rfl rfl rfl λv h1 H1=>qY ⟨_,H1⟩
 rintro v h1 ⟨e,H1⟩;refine qW (Q':=λw h'=>∃s,w=.str s∧OQ .neq s []=some (.bool (decide (1≤x∧x≤23)))∧h'=h1) ?_ ?_
 ·refine t_e2 (S:=S247) rfl omQ λk hk=>?_;unfold S247;try simp only[iZ]
  by_cases c0:x<0
  ·refine zq omQ ?_;refine qV ?_;(try dsimp only);refine qf ?_;(try dsimp only);refine qC (qX ?_)
   exact qY ⟨[],rfl,by rw[iV omQ];rfl,rfl⟩
  ·refine jo omQ ?_;refine qV ?_;(try dsimp only);refine qa ?_;(try dsimp only);refine qs ‹_› .here ?_
   by_cases c1:x<24
   ·obtain⟨p,rfl⟩:∃p:Nat,x=(p:Int):=⟨x.toNat,by omega⟩;obtain⟨s,hs,ht⟩:=qqi (show p<24 by omega);refine zB omQ ?_;refine qF (qJ (jA (H1.sl .here) (x:=.str s) (by rw[List.getElem?_map,hs];rfl) (qY ⟨s,rfl,ht,rfl⟩)))
   ·refine zz omQ ?_;refine qF (qX ?_);exact qY ⟨[],rfl,by rw[iV omQ];rfl,rfl⟩
 ·rintro _ h2 ⟨s,rfl,ht,rfl⟩;exact qY ⟨s,rfl,ht,H1.drop⟩
theorem qzs {n:Nat} (hn:3≤n) {x:qS} (H:HS g h R):t_w n 139 [.agg (q8 x)] h λv h'=>v=.bool (vJ x)∧HS g h' R:=by
 refine t_e1 (S:=S139) rfl omQ λk hk=>?_;unfold S139;try simp only[iZ]
 obtain⟨op,a,b,c,q⟩:=x;refine qM H rfl λb0 h1 H1=>?_;have H1:HS g h1 (qk b0 [.int .i64 op,.int .i64 a,.int .i64 b,.int .i64 c,.int .u64 q]::R):=H1;refine qQ (qG ‹_› .here rfl ?_);refine qW (Om omQ H1) ?_;rintro _ h2 ⟨rfl,H2⟩;have hM:vJ (op,a,b,c,q)=(decide (1≤op∧op≤23)&&vK (jY op).1 a&&vK (jY op).2.1 b&&vK (jY op).2.2 c&&decide (q=0∨op=1)):=rfl;rw[hM];generalize jY op=F at*;obtain⟨f1,f2,f3⟩:=F;dsimp only;refine qw rfl ?_;refine qw rfl ?_;refine qw rfl ?_;refine qM H2 rfl λb1 h3 H3=>?_;refine qM H3 rfl λb2 h4 H4=>?_;refine qM H4 rfl λb3 h5 H5=>?_;refine qc H5 (b:=b1) e_2 rfl osQ rfl λh6 H6=>?_;refine qc H6 (b:=b2) e_2 rfl osQ rfl λh7 H7=>?_;refine qc H7 (b:=b3) e_2 rfl osQ rfl λh8 H8=>?_;have H8:HS g h8 (qk b3 (yp f3)::qk b2 (yp f2)::qk b1 (yp f1)::qk b0 [.int .i64 op,.int .i64 a,.int .i64 b,.int .i64 c,.int .u64 q]::R):=H8;clear H H1 H2 H3 H4 H5 H6 H7;refine qQ (qG ‹_› e_3 rfl ?_);refine qW (qVO omQ H8) ?_;rintro _ h9 ⟨s,rfl,ht,H⟩;refine qY4 ht ?_;clear H8;by_cases c1:1≤op∧op≤23
 rotate_left
 ·rw[iV c1];refine qV ?_;(try dsimp only);refine qT ?_;(try dsimp only);refine qF (qV ?_);(try dsimp only);refine qT ?_;(try dsimp only);refine qF (qV ?_);(try dsimp only);refine qT ?_;(try dsimp only);refine qF (qV ?_);(try dsimp only);refine qT ?_;(try dsimp only);refine qV ?_;(try dsimp only);refine jc ?_;(try dsimp only);refine qV ?_;(try dsimp only);refine qT ?_;(try dsimp only);refine qF ?_
  exact qY ⟨rfl,H.drop.drop.drop.drop⟩
 rw[iG c1];refine qV ?_;(try dsimp only);refine qR ?_;(try dsimp only)
 refine qE H (b:=b1) (off:=0) e_2 rfl omQ rfl ?_;refine qQ (qG ‹_› e_3 rfl ?_);refine qW (KP omQ H) ?_;rintro _ h10 ⟨rfl,H10⟩;cases hf1:vK f1 a
 ·refine qC (qV ?_);(try dsimp only);refine qT ?_;(try dsimp only);refine qF (qV ?_);(try dsimp only);refine qT ?_;(try dsimp only);refine qF (qV ?_);(try dsimp only);refine qT ?_;(try dsimp only);refine qV ?_;(try dsimp only);refine jc ?_;(try dsimp only);refine qV ?_;(try dsimp only);refine qT ?_;(try dsimp only);refine qF ?_
  exact qY ⟨rfl,H10.drop.drop.drop.drop⟩
 refine qC (qV ?_);(try dsimp only);refine qR ?_;(try dsimp only)
 refine qE H10 (b:=b2) (off:=0) e_1 rfl omQ rfl ?_;refine qQ (qG ‹_› e_3 rfl ?_);refine qW (KP omQ H10) ?_;rintro _ h11 ⟨rfl,H11⟩;cases hf2:vK f2 b
 ·refine qC (qV ?_);(try dsimp only);refine qT ?_;(try dsimp only);refine qF (qV ?_);(try dsimp only);refine qT ?_;(try dsimp only);refine qV ?_;(try dsimp only);refine jc ?_;(try dsimp only);refine qV ?_;(try dsimp only);refine qT ?_;(try dsimp only);refine qF ?_
  exact qY ⟨rfl,H11.drop.drop.drop.drop⟩
 refine qC (qV ?_);(try dsimp only);refine qR ?_;(try dsimp only)
 refine qE H11 (b:=b3) (off:=0) .here rfl omQ rfl ?_;refine qQ (qG ‹_› e_3 rfl ?_);refine qW (KP omQ H11) ?_;rintro _ h12 ⟨rfl,H12⟩;cases hf3:vK f3 c
 ·refine qC (qV ?_);(try dsimp only);refine qT ?_;(try dsimp only);refine qV ?_;(try dsimp only);refine jc ?_;(try dsimp only);refine qV ?_;(try dsimp only);refine qT ?_;(try dsimp only);refine qF ?_
  exact qY ⟨rfl,H12.drop.drop.drop.drop⟩
 by_cases c2:q=0
 ·refine qC (qV ?_);(try dsimp only);refine qR ?_;(try dsimp only);refine qQ (qG ‹_› e_3 rfl ?_);refine qz omQ ?_;refine qV ?_;(try dsimp only);refine qf ?_;(try dsimp only);refine qV ?_;(try dsimp only);refine qR ?_;(try dsimp only);refine qC (qC ?_)
  exact qY ⟨by rw[iG (.inl c2)];rfl,H12.drop.drop.drop.drop⟩
 by_cases c3:op=1
 ·refine qC (qV ?_);(try dsimp only);refine qR ?_;(try dsimp only);refine qQ (qG ‹_› e_3 rfl ?_);refine qZ omQ ?_;refine qV ?_;(try dsimp only);refine qa ?_;(try dsimp only);refine qQ (qG ‹_› e_3 rfl ?_);refine qz omQ ?_;refine qV ?_;(try dsimp only);refine qR ?_;(try dsimp only);refine qF (qC ?_)
  exact qY ⟨by rw[iG (.inr c3)];rfl,H12.drop.drop.drop.drop⟩
 ·refine qC (qV ?_);(try dsimp only);refine qR ?_;(try dsimp only);refine qQ (qG ‹_› e_3 rfl ?_);refine qZ omQ ?_;refine qV ?_;(try dsimp only);refine qa ?_;(try dsimp only);refine qQ (qG ‹_› e_3 rfl ?_);refine qZ omQ ?_;refine qV ?_;(try dsimp only);refine qR ?_;(try dsimp only);refine qF (qC ?_)
  exact qY ⟨by rw[iV (λh=>h.elim c2 c3)];rfl,H12.drop.drop.drop.drop⟩
end Go.Proofs.YtnalffoigcmnnaaGreatDoor
namespace Go.Proofs.YtnalffoigcmnnaaGreatDoor
open Go Go.Ae
set_option maxRecDepth 100000
variable {g h:AH} {L R:List SP}
theorem qzp {l:List qS} {i:Nat} (hi:i<l.length):qL l (i:Int)=l[i]:=by unfold qL;rw[show((i:Int)).toNat=i by omega,iW hi];rfl
theorem qVA {n:Nat} (hn:2≤n) {l:List qS} {st:List Int} {sv tv:AV} (H:HS g h R) (S:Rd g R 5 l.length sv (l.flatMap q8)) (T:Rd g R 1 st.length tv (st.map (.int .i64))) (hs:StOk l.length st) (hl:st.length<1000) :
  t_w n 140 [tv,.agg [sv]] h λv h'=>v=.int .i64 (opM l st)∧HS g h' R:=by
 refine t_e2 (S:=S140) rfl omQ λk hk=>?_;unfold S140;try simp only[iZ]
 refine qM H (yG (wE (S.sl H))) λb h1 H1=>?_;refine zD (T.sl H1.drop) ?_;unfold opM;by_cases h0:st=[]
 ·subst h0;rw[iJ rfl]
  skip
  exact qY ⟨rfl,H1.drop⟩
 ·have hl0:st.length≠0:=λh=>h0 (iA h);rw[iQ h0];refine qZ omQ ?_;refine qJ (qV ?_);(try dsimp only);refine qQ (qG ‹_› .here rfl ?_)
  refine qW (Xj omQ (T.sl H1.drop) hl) ?_;rintro _ h1 ⟨rfl,rfl⟩;have hi:=hs.inmost h0;generalize qm st=p at*;obtain⟨p,rfl⟩:∃q:Nat,p=(q:Int):=⟨p.toNat,by omega⟩;have hp:p<l.length:=by omega
  refine vj (x:=.int .i64 l[p].1) (S.sl H1.drop) omQ hp (by rw[Yy (sz:=5) q8 (λ_=>rfl) _ _ _ omQ,iW hp];rfl) ?_;refine qp ‹_› .here rfl ‹_› .here rfl (HS.lt ‹_› .here) ?_;exact qY ⟨by rw[qzp hp],H1.drop⟩
theorem qZD {n:Nat} (hn:4≤n) {l:List qS} {st:List Int} {sv tv:AV} {x:qS} (H:HS g h R) (S:Rd g R 5 l.length sv (l.flatMap q8)) (T:Rd g R 1 st.length tv (st.map (.int .i64))) (hs:StOk l.length st) (hl:st.length<1000) :
  t_w n 104 [.agg [sv],tv,.agg (q8 x)] h λv h'=>v=.int .i64 (zk l st x)∧HS g h' R:=by
 refine t_e3 (S:=S104) rfl omQ λk hk=>?_;unfold S104;try simp only[iZ]
 refine qM H (yG (wE (S.sl H))) λb0 h1 H1=>?_;refine qM H1 rfl λb2 h2 H2=>?_;refine qE H2 (b:=b2) (off:=0) .here rfl omQ rfl ?_;refine qW (qzs omQ H2) ?_;rintro _ h3 ⟨rfl,H3⟩;clear H H1 H2;obtain⟨op,a,b,c,q⟩:=x;have hW:zk l st (op,a,b,c,q)=if vJ (op,a,b,c,q)=false then 8 else if 0<jO op∧opM l st≠jO op then 12 else if op=16∧opM l st≠14 then 12 else if zR op=true∧5≤st.length then 9 else 0:=rfl
 rw[hW];have H3:HS g h3 (qk b2 [.int .i64 op,.int .i64 a,.int .i64 b,.int .i64 c,.int .u64 q]::qk b0 [sv]::R):=H3;cases vJ (op,a,b,c,q)
 ·refine jQ (qX ?_);exact qY ⟨rfl,H3.drop.drop⟩
 rw[iQ osQ]
 (first |with_reducible refine qX ?_ |with_reducible refine qJ ?_ |(with_reducible refine qR ?_;try dsimp only) |(with_reducible refine qf ?_;try dsimp only) |(with_reducible refine qT ?_;try dsimp only) |(with_reducible refine qa ?_;try dsimp only) |(with_reducible refine jc ?_;try dsimp only) |with_reducible refine qC ?_ |with_reducible refine qF ?_ |(with_reducible refine qV ?_;try dsimp only) |with_reducible refine qx ?_ |with_reducible refine qu ?_ |with_reducible refine jQ ?_ |with_reducible refine qU omQ ?_ |with_reducible refine jM omQ ?_ |with_reducible refine xJ omQ ?_ |with_reducible refine xS omQ ?_ |with_reducible refine jm ?_ |with_reducible refine zK ?_)
 (first |with_reducible refine qX ?_ |with_reducible refine qJ ?_ |(with_reducible refine qR ?_;try dsimp only) |(with_reducible refine qf ?_;try dsimp only) |(with_reducible refine qT ?_;try dsimp only) |(with_reducible refine qa ?_;try dsimp only) |(with_reducible refine jc ?_;try dsimp only) |with_reducible refine qC ?_ |with_reducible refine qF ?_ |(with_reducible refine qV ?_;try dsimp only) |with_reducible refine qx ?_ |with_reducible refine qu ?_ |with_reducible refine jQ ?_ |with_reducible refine qU omQ ?_ |with_reducible refine jM omQ ?_ |with_reducible refine xJ omQ ?_ |with_reducible refine xS omQ ?_ |with_reducible refine jm ?_ |with_reducible refine zK ?_)
 refine Gf (λs h'=>s=(.bool (decide (0<jO op∧opM l st≠jO op)),.ptr b2 0,.ptr b0 0,tv,())∧HS g h' (qk b2 [.int .i64 op,.int .i64 a,.int .i64 b,.int .i64 c,.int .u64 q]::qk b0 [sv]::R)) ?_ ?_
 ·intro j hj;refine qQ (qG ‹_› .here rfl ?_);refine qW (YY omQ) ?_;rintro _ h3 ⟨rfl,rfl⟩;by_cases h1:0<jO op
  ·refine xn omQ ?_;refine qR ?_;(try dsimp only)
   refine qE H3 (b:=b0) (off:=0) e_1 rfl omQ rfl ?_;refine qW (qVA omQ H3 S.more.more T.more.more hs hl) ?_;rintro _ h4 ⟨rfl,H4⟩;refine qQ (qG ‹_› .here rfl ?_);refine qW (YY omQ) ?_;rintro _ h4 ⟨rfl,rfl⟩;refine Km (qC (qp ‹_› .here rfl ‹_› .here rfl (HS.lt ‹_› .here) ?_));refine hj _ _ ⟨?_,H4⟩
   congr 2
   exact decide_eq_decide.2 ⟨λh=>⟨h1,h⟩,λh=>h.2⟩
  ·refine xc omQ ?_;refine qT ?_;(try dsimp only);refine qF ?_
   refine hj _ _ ⟨?_,H3⟩;rw[iV (λh=>h1 h.1)]
 clear H3;rintro s h4 ⟨rfl,H⟩;dsimp only;by_cases hA:0<jO op∧opM l st≠jO op
 ·rw[iG hA,iJ hA];refine qX ?_;exact qY ⟨rfl,H.drop.drop⟩
 rw[iV hA,iQ hA];refine qJ (qQ (qG ‹_› .here rfl ?_));refine Jw (Gf (λs h'=>∃(r:AV) (u x:Bool),s=(r,.bool u,.ptr b2 0,tv,())∧(u=true→r=.bool x)∧((u&&x)=decide (op=16∧opM l st≠14))∧HS g h' (qk b2 [.int .i64 op,.int .i64 a,.int .i64 b,.int .i64 c,.int .u64 q]::qk b0 [sv]::R)) ?_ ?_)
 ·intro j hj;by_cases h1:op=16
  ·rw[iG (show op=((16:Nat):Int)from h1)];refine qR ?_;(try dsimp only)
   refine qE H (b:=b0) (off:=0) e_1 rfl omQ rfl ?_;refine qW (qVA omQ H S.more.more T.more.more hs hl) ?_;rintro _ h4 ⟨rfl,H4⟩;refine Km (hj _ _ ⟨_,true,decide (¬opM l st=14),rfl,λ_=>rfl,?_,H4⟩);rw[Bool.true_and];exact decide_eq_decide.2 ⟨λh=>⟨h1,h⟩,λh=>h.2⟩
  ·rw[iV (show¬op=((16:Nat):Int)from h1)];refine qT ?_;(try dsimp only)
   refine hj _ _ ⟨_,false,false,rfl,(λh=>by cases h),?_,H⟩;rw[iV (λh=>h1 h.1)];rfl
 clear H;rintro s h4 ⟨r,u,y,rfl,hr,hu,H⟩;dsimp only;refine Ok hr ?_;rw[hu];by_cases hB:op=16∧opM l st≠14
 ·rw[iG hB,iJ hB];refine qX ?_;exact qY ⟨rfl,H.drop.drop⟩
 rw[iV hB,iQ hB];refine qJ (qQ (qG ‹_› .here rfl ?_));refine qW (KZ omQ) ?_;rintro _ h4 ⟨rfl,rfl⟩;cases hb:zR op
 ·rw[iQ osQ];refine qV ?_;(try dsimp only);refine qT ?_;(try dsimp only);refine qF (qJ ?_)
  exact qY ⟨rfl,H.drop.drop⟩
 ·refine qV ?_;(try dsimp only);refine qR ?_;(try dsimp only)
  refine zD (T.sl H.drop.drop) ?_;by_cases h5:5≤st.length
  ·rw[iJ ⟨rfl,h5⟩];refine zz omQ ?_;refine qC (qX ?_);exact qY ⟨rfl,H.drop.drop⟩
  ·rw[iQ (λh=>h5 h.2)];refine zB omQ ?_;refine qC (qJ ?_);exact qY ⟨rfl,H.drop.drop⟩
def StC (v:AV) (st:List Int):SP:=qD 3 1 st.length v (st.map (.int .i64))
theorem Kx {n:Nat} (hn:2≤n) {st:List Int} {tv:AV} {i op:Int} (H:HS g h (StC tv st::R)) (hs:0<jO op→st≠[]) (hl:st.length<1000) :
  t_w n 105 [tv,.int .i64 i,.int .i64 op] h λv h'=>HS g h' (StC v (qt st i op)::R):=by
 refine t_e3 (S:=S105) rfl omQ λk hk=>?_;unfold S105;try simp only[iZ]
 refine jT [] (λs h'=>∃v,s=(.int .i64 op,.int .i64 i,v,())∧HS g h' (StC v (if 0<jO op then st.dropLast else st)::R)) ?_ ?_
 ·intro j hj;refine qW (YY omQ) ?_;rintro _ h ⟨rfl,rfl⟩;by_cases h1:0<jO op
  ·have hne:=hs h1;have hl0:st.length≠0:=λh=>hne (iA h);rw[iJ h1]at hj;refine xn h1 (qX ?_);refine zD (H.sl (e:=3) .here) ?_;refine jM omQ ?_;rw[show(st.length:Int)-((1:Nat):Int)=((st.length-1:Nat):Int) by omega];refine Ja H omQ omQ λv H1=>?_;refine hj _ _ ⟨v,rfl,?_⟩;unfold StC;rw[List.length_dropLast,List.dropLast_eq_take,List.map_take];rw[Nat.mul_one]at H1;exact H1
  ·rw[iQ h1]at hj;refine xc h1 (qJ ?_);exact hj _ _ ⟨tv,rfl,H⟩
 clear H;rintro s h1 ⟨v,rfl,H⟩;unfold qt;have hl2:(if 0<jO op then st.dropLast else st).length<1000:=by
  split
  ·rw[List.length_dropLast];omega
  ·exact hl
 generalize(if 0<jO op then st.dropLast else st)=st at*;dsimp only;refine qV ?_;(try dsimp only)
 refine qW (KZ omQ) ?_;rintro _ h1 ⟨rfl,rfl⟩;have push:∀{K:AV→AH→Go.Ae.R} {Q:AV→AH→Prop},(∀v' h',HS g h' (StC v' (st++[i])::R)→wp (K v' h') Q)→
   wp (zW h1 3 [.int .i64 ((0:Nat):Int)] 1 [(0,1,.int .i64 i)] λv15 h16=>zU h16 3 1 v v15 K) Q:=by
  intro K Q w;refine qr (n:=1) (l:=[.int .i64 i]) (sz:=1) H rfl rfl rfl rfl λv5 h5 H5=>?_;refine zT (H5.sel e_1) (H5.sl .here) omQ omQ rfl λv6 h6 H6=>w v6 h6 ?_;unfold StC;rw[List.map_append,List.length_append];exact H6.sub (.cons .here (.drop .refl))
 cases hb:zR op
 ·by_cases h18:op=18
  ·rw[iJ (.inr h18)];refine qV ?_;(try dsimp only);refine qa ?_;(try dsimp only);refine qz omQ ?_;refine qF (qX ?_)
   exact push λv' h' H'=>qx (qY H')
  ·rw[iQ (by simp;exact h18)];refine qV ?_;(try dsimp only);refine qa ?_;(try dsimp only);refine qZ omQ ?_;refine qF (qJ (qx ?_))
   exact qY H
 ·rw[iJ (.inl rfl)];refine qV ?_;(try dsimp only);refine qf ?_;(try dsimp only);refine qC (qX ?_)
  exact push λv' h' H'=>qx (qY H')
theorem Yz {l:List qS} {i:Nat} {st:List Int} (hi:i<l.length):goM l (l.drop i) i st=if zk l st l[i]=0 then goM l (l.drop (i+1)) (i+1) (qt st i l[i].1)else .inl ((i:Int),zk l st l[i]):=by rw[List.drop_eq_getElem_cons hi];rfl
theorem Vz {l:List qS} {i:Nat} {st:List Int} (hi:i<l.length):yn (l.drop i) i st=qm st::yn (l.drop (i+1)) (i+1) (qt st i l[i].1):=by rw[List.drop_eq_getElem_cons hi];rfl
theorem XS {l:List qS} {a:List Int} {i:Nat} (hi:i<l.length):Qo l a (l.drop i) i=if JD l a i l[i]then((i:Int),2)else Qo l a (l.drop (i+1)) (i+1):=by rw[List.drop_eq_getElem_cons hi];rfl
theorem Jt {l:List qS} {i:Nat} (hi:i<l.length):((l.flatMap q8).drop (i*5)).take 5=q8 l[i]:=kg (sz:=5) (λ_=>rfl) (iW hi)
theorem Y7 {n:Nat} (hn:3≤n) {l:List qS} {st':List Int} {sv:AV} (H:HS g h R) (S:Rd g R 5 l.length sv (l.flatMap q8)) (hg:goM l l 0 []=.inr st') (hl:l.length≤100) :
  t_w n 108 [.agg [sv]] h λv h'=>HS g h' (qD 3 1 l.length v ((yn l 0 []).map (.int .i64))::R):=by
 refine t_e1 (S:=S108) rfl omQ λk hk=>?_;unfold S108;try simp only[iZ]
 refine qM H (yG (wE (S.sl H))) λb0 h1 H1=>?_;refine qQ (qG ‹_› .here rfl ?_);refine zD (S.sl H1.drop) ?_;refine YB (n:=l.length) H1 omQ λov h2 H2=>?_;refine qQ (qG ‹_› e_1 rfl ?_);refine zD (S.sl H2.drop.drop) ?_
 refine jP (λm s h'=>∃(i:Nat) (st A:List Int) (tv:AV),s=(.int .i64 (i:Int),.int .i64 (l.length:Int),sv,tv,ov,())∧i≤l.length∧m=l.length-i∧StOk i st∧st.length≤i∧goM l (l.drop i) i st=.inr st'∧A.length=i∧yn l 0 []=A++yn (l.drop i) i st∧
  HS g h' (qD 3 1 l.length ov ((A++List.replicate (l.length-i) 0).map (.int .i64))::StC tv st::R))
  ?_ (m:=l.length) (by show _<1000000000;omega) ⟨0,[],[],.nils,rfl,by omega,by omega,StOk.nil,by simp,hg,rfl,rfl,by
   rw[List.nil_append,List.map_replicate]
   exact(H2.nils (e:=3) (sz:=1)).sub (.cons e_1 (.cons .here (.drop .refl)))⟩
 clear H H1 H2;rintro m ih s h3 hih ⟨i,st,A,tv,rfl,hi,rfl,hs,hsl,hgo,hA,hR,H⟩;dsimp only;by_cases hlt:i<l.length
 ·rw[Yz hlt]at hgo;rw[Vz hlt]at hR;have hrow:=Jt hlt;generalize l[i]=x at*;by_cases hw:zk l st x=0
  rotate_left
  ·rw[iQ hw]at hgo;cases hgo
  rw[iJ hw]at hgo;have ho:=zl hw;refine zq omQ ?_;refine qX (zf (S.sl H.drop.drop) hlt omQ hrow ?_);refine qM H rfl λb h4 H4=>?_;refine qc H4 (b:=b) .here rfl (by simp[q8]) rfl λh5 H5=>?_;have H5:HS g h5 (qk b (q8 x)::qD 3 1 l.length ov ((A++List.replicate (l.length-i) 0).map (.int .i64))::StC tv st::R):=H5;unfold q8 at H5;refine qW (Xj omQ (H5.sl (e:=3) e_2) omQ) ?_;rintro _ h5 ⟨rfl,rfl⟩;refine gH (H5.sel e_1) omQ ⟨rfl,rfl⟩ λh6 H6=>?_;have hset:((A++List.replicate (l.length-i) 0).map (AV.int .i64)).set i (.int .i64 (qm st))=((A++[qm st])++List.replicate (l.length-(i+1)) 0).map (.int .i64):=by
   rw[← List.map_set]
   congr 1
   rw[List.set_append_right _ _ omQ,hA,Nat.sub_self,show l.length-i=(l.length-(i+1))+1 by omega,List.replicate_succ];simp
  rw[hset]at H6;refine qQ (qG ‹_› e_1 rfl ?_);refine qW (Kx omQ (H6.sub (L':=StC tv st::qk b [.int .i64 x.1,.int .i64 x.2.1,.int .i64 x.2.2.1,.int .i64 x.2.2.2.1,.int .u64 x.2.2.2.2]::qD 3 1 l.length ov (((A++[qm st])++List.replicate (l.length-(i+1)) 0).map (.int .i64))::R) (.cons e_2 (.cons e_1 (.cons .here .refl)))) (λh=>ho.2.1 (.inl h)) omQ) ?_;intro tv2 h8 H8;refine qU omQ ?_;have hbl:=K6 st i x.1;exact hih (l.length-(i+1)) _ _ omQ ⟨i+1,qt st i x.1,A++[qm st],tv2,rfl,by omega,rfl,hs.behind,by omega,hgo,by simp[hA],by rw[hR];simp,H8.sub (.cons e_2 (.cons .here (.drop .refl)))⟩
 ·obtain rfl:i=l.length:=by omega
  refine jo omQ ?_;refine qJ (qx (qY ?_));rw[hR];rw[Nat.sub_self,List.replicate_zero,List.append_nil]at H;rw[List.drop_length];show HS g h3 (qD _ 1 l.length ov ((A++[]).map _)::R);rw[List.append_nil];exact H.sub (.cons .here (.drop .refl))
theorem qGP {x:qS} (h:vJ x=true) (hj:x.1=12∨x.1=13):0≤x.2.2.2.1∧x.2.2.2.1≤40:=by
 have e:(jY x.1).2.2=(0,40):=by
  rcases hj with e |e<;>rw[e]<;>rfl
 unfold vJ at h;rw[e]at h;simp only[Bool.and_eq_true,vK,decide_eq_true_eq]at h;exact h.1.2
theorem qZb {n:Nat} (hn:2≤n) {l:List qS} {a:List Int} {sv av:AV} (H:HS g h R) (S:Rd g R 5 l.length sv (l.flatMap q8)) (T:Rd g R 1 a.length av (a.map (.int .i64))) (ha:a.length=l.length) (hm:∀x∈l,vJ x=true) (hl:l.length≤100) :
  t_w n 107 [.agg [sv],av] h λv h'=>v=.tup [.int .i64 (Qo l a l 0).1,.int .i64 (Qo l a l 0).2]∧HS g h' R:=by
 refine t_e2 (S:=S107) rfl omQ λk hk=>?_;unfold S107;try simp only[iZ]
 refine qM H (yG (wE (S.sl H))) λb0 h1 H1=>?_;have hLV:=(S.sl H).lenV;clear H;refine qQ (qG ‹_› .here rfl ?_);refine xl ‹_› ?_;refine jP (λm s h'=>∃i:Nat,s=(.int .i64 (i:Int),.int .i64 (l.length:Int),sv,.ptr b0 0,av,())∧i≤l.length∧m=l.length-i∧Qo l a l 0=Qo l a (l.drop i) i∧HS g h' (qk b0 [sv]::R))
  ?_ (m:=l.length) (by show _<1000000000;omega) ⟨0,rfl,by omega,by omega,rfl,H1⟩
 clear H1;rintro m ih s h2 hih ⟨i,rfl,hi,rfl,hJ,H⟩;dsimp only;by_cases hlt:i<l.length
 rotate_left
 ·obtain rfl:i=l.length:=by omega
  rw[List.drop_length]at hJ;rw[hJ];refine jo omQ ?_;refine qJ (qx ?_);exact qY ⟨rfl,H.drop⟩
 rw[XS hlt]at hJ;have hrow:=Jt hlt;have hmx:=hm l[i] (List.getElem_mem hlt);generalize l[i]=x at*;obtain⟨op,xa,xb,c,q⟩:=x;unfold q8 at hrow;refine zq omQ (qX ?_);refine jT [] (λs h'=>s=(.int .i64 (i:Int),.int .i64 (l.length:Int),sv,.ptr b0 0,av,())∧¬JD l a i (op,xa,xb,c,q)∧HS g h' (qk b0 [sv]::R)) ?_ ?_
 rotate_left
 ·rintro s h3 ⟨rfl,hno,H3⟩;rw[iQ hno]at hJ;refine qU omQ ?_;exact hih (l.length-(i+1)) _ _ omQ ⟨i+1,rfl,by omega,rfl,hJ,H3⟩
 intro j hj;clear hih;refine zf (S.sl H.drop) hlt omQ hrow ?_;refine qM H rfl λb h4 H4=>?_;refine qc H4 (b:=b) .here rfl osQ rfl λh5 H5=>?_;have H5:HS g h5 (qk b [.int .i64 op,.int .i64 xa,.int .i64 xb,.int .i64 c,.int .u64 q]::qk b0 [sv]::R):=H5;clear H H4;refine qQ (qG ‹_› .here rfl ?_);refine qW (qGD omQ) ?_;rintro _ h5 ⟨rfl,rfl⟩;by_cases hjm:op=12∨op=13
 rotate_left
 ·rw[iV hjm];refine jQ (qX ?_);exact hj _ _ ⟨rfl,λh=>hjm h.1,H5.drop⟩
 rw[iG hjm];have hc:=qGP hmx hjm;dsimp only at hc;obtain⟨p,rfl⟩:∃p:Nat,c=(p:Int):=⟨c.toNat,by omega⟩;have hcell:∀k:Nat,k<l.length→(a.map (AV.int .i64))[k]? =some (.int .i64 (qB a (k:Int))):=by intro k hk;unfold qB;rw[List.getElem?_map,show((k:Int)).toNat=k by omega,iW omQ];rfl
 have Ta:Sl (λ_=>True) h5 1 a.length av (a.map (.int .i64)):=T.sl H5.drop.drop;by_cases c1:l.length<p
 ·rw[iJ ⟨hjm,.inl (by dsimp only;omega)⟩]at hJ;rw[hJ];refine qu (qJ (qQ (qG ‹_› .here rfl ?_)));refine qQ (qG ‹_› e_1 rfl ?_);refine xl ‹_› ?_;refine xn omQ ?_;refine qV ?_;(try dsimp only);refine qf ?_;(try dsimp only);refine qV ?_;(try dsimp only);refine jc ?_;(try dsimp only);refine qV ?_;(try dsimp only);refine qf ?_;(try dsimp only);refine qC (qV ?_);(try dsimp only);refine qf ?_;(try dsimp only);refine qV ?_;(try dsimp only);refine jc ?_;(try dsimp only);refine qV ?_;(try dsimp only);refine qf ?_;(try dsimp only);refine qC (qX (qx ?_))
  exact qY ⟨rfl,H5.drop.drop⟩
 by_cases c2:p=l.length
 ·subst c2;refine qu (qJ (qQ (qG ‹_› .here rfl ?_)));refine qQ (qG ‹_› e_1 rfl ?_);refine xl ‹_› ?_;refine xc omQ ?_;refine qV ?_;(try dsimp only);refine qa ?_;(try dsimp only);refine qQ (qG ‹_› .here rfl ?_);refine qQ (qG ‹_› e_1 rfl ?_);refine xl ‹_› ?_;refine qz omQ ?_;refine qV ?_;(try dsimp only);refine qR ?_;(try dsimp only)
  refine jA Ta (hcell i hlt) ?_;by_cases c3:qB a i= -1
  ·refine jk (by rw[c3];decide) ?_;refine qV ?_;(try dsimp only);refine qa ?_;(try dsimp only);refine qC (qF (qV ?_));(try dsimp only);refine qa ?_;(try dsimp only);refine qQ (qG ‹_› .here rfl ?_);refine qQ (qG ‹_› e_1 rfl ?_);refine xl ‹_› ?_;refine jo omQ ?_;refine qV ?_;(try dsimp only);refine qT ?_;(try dsimp only);refine qV ?_;(try dsimp only);refine qa ?_;(try dsimp only);refine qF (qF (qJ ?_))
   exact hj _ _ ⟨rfl,λh=>by
    rcases h.2 with h |h |h
    ·dsimp only at h;omega
    ·exact h.2 c3
    ·dsimp only at h;omega,H5.drop⟩
  ·refine jq (λh=>c3 (by rw[h];decide)) ?_;rw[iJ ⟨hjm,.inr (.inl ⟨rfl,c3⟩)⟩]at hJ;rw[hJ];refine qV ?_;(try dsimp only);refine qa ?_;(try dsimp only);refine qC (qF (qV ?_));(try dsimp only);refine qf ?_;(try dsimp only);refine qV ?_;(try dsimp only);refine jc ?_;(try dsimp only);refine qV ?_;(try dsimp only);refine qf ?_;(try dsimp only);refine qC (qX (qx ?_))
   exact qY ⟨rfl,H5.drop.drop⟩
 ·refine qu (qJ (qQ (qG ‹_› .here rfl ?_)));refine qQ (qG ‹_› e_1 rfl ?_);refine xl ‹_› ?_;refine xc omQ ?_;refine qV ?_;(try dsimp only);refine qa ?_;(try dsimp only);refine qQ (qG ‹_› .here rfl ?_);refine qQ (qG ‹_› e_1 rfl ?_);refine xl ‹_› ?_;refine qZ omQ ?_;refine qV ?_;(try dsimp only);refine qT ?_;(try dsimp only);refine qV ?_;(try dsimp only);refine qa ?_;(try dsimp only);refine qF (qF (qV ?_));(try dsimp only);refine qa ?_;(try dsimp only);refine qQ (qG ‹_› .here rfl ?_);refine qQ (qG ‹_› e_1 rfl ?_);refine xl ‹_› ?_;refine zq omQ ?_;refine qV ?_;(try dsimp only);refine qR ?_;(try dsimp only);refine qQ (qG ‹_› .here rfl ?_)
  refine jA Ta (hcell p omQ) ?_;refine jA Ta (hcell i hlt) ?_;by_cases c3:qB a p=qB a i
  ·refine jk c3 ?_;refine qV ?_;(try dsimp only);refine qa ?_;(try dsimp only);refine qC (qF (qJ ?_))
   exact hj _ _ ⟨rfl,λh=>by
    rcases h.2 with h |h |h
    ·dsimp only at h;omega
    ·have:=h.1;dsimp only at this;omega
    ·exact h.2 c3,H5.drop⟩
  ·refine jq c3 ?_;rw[iJ ⟨hjm,.inr (.inr ⟨by dsimp only;omega,c3⟩)⟩]at hJ;rw[hJ];refine qV ?_;(try dsimp only);refine qa ?_;(try dsimp only);refine qC (qF (qX (qx ?_)))
   exact qY ⟨rfl,H5.drop.drop⟩
theorem qzb {l:List qS}:∀{r:List qS} {i:Nat} {st st':List Int},goM l r i st=.inr st'→∀x∈r,vJ x=true:=by
 intro r
 induction r with
 |nil=>intro i st st' _ x hx;cases hx
 |cons y r ih=>
  intro i st st' h x hx;rw[Xi]at h
  split at h
  ·rename_i hw;rcases List.mem_cons.1 hx with rfl |hx
   ·exact(zl hw).1
   ·exact ih h x hx
  ·cases h
theorem qY9 {l:List qS}:∀{r:List qS} {i:Nat} {st:List Int} {q:Int×Int},goM l r i st=.inl q→q.2≠0:=by
 intro r
 induction r with
 |nil=>intro i st q h;cases h
 |cons y r ih=>
  intro i st q h;rw[Xi]at h
  split at h
  ·exact ih h
  ·rename_i hw;cases h;exact hw
theorem Uk {l:List qS} (h:(yQ l).2=0):goM l l 0 []=.inr []:=by
 unfold yQ at h
 split at h
 ·cases h
 ·cases hg:goM l l 0 []with
  |inl q=>rw[hg]at h;exact absurd h (qY9 hg)
  |inr st=>
   rw[hg]at h;dsimp only at h
   split at h
   ·rename_i h0;rw[h0]
   ·cases h
theorem Uu {n:Nat} (hn:6≤n) {l:List qS} {sv:AV} (H:HS g h R) (S:Rd g R 5 l.length sv (l.flatMap q8)) (hl:l.length≤100) :
  t_w n 76 [.agg [sv]] h λv h'=>v=.tup [.int .i64 (yQ l).1,.int .i64 (yQ l).2]∧HS g h' R:=by
 refine t_e1 (S:=S76) rfl omQ λk hk=>?_;unfold S76;try simp only[iZ]
 refine qM H (yG (wE (S.sl H))) λb0 h1 H1=>?_;have hLV:=(S.sl H).lenV;clear H;have hC:yQ l=if l.length=0∨40<l.length then(0,4)else match goM l l 0 []with
  | .inl r=>r
  | .inr st=>if st=[]then Qo l (yn l 0 []) l 0 else(qm st,12):=rfl
 generalize yQ l=C at*;refine qQ (qG ‹_› .here rfl ?_);refine xl ‹_› ?_;by_cases c0:l.length=0
 ·rw[iJ (.inl c0)]at hC;subst hC;refine qz omQ ?_;refine qV ?_;(try dsimp only);refine qf ?_;(try dsimp only);refine qC (qX ?_)
  exact qY ⟨rfl,H1.drop⟩
 by_cases c1:40<l.length
 ·rw[iJ (.inr c1)]at hC;subst hC;refine qZ omQ ?_;refine qV ?_;(try dsimp only);refine qa ?_;(try dsimp only);refine qQ (qG ‹_› .here rfl ?_);refine xl ‹_› ?_;refine xn omQ ?_;refine qF (qX ?_)
  exact qY ⟨rfl,H1.drop⟩
 rw[iQ omQ]at hC;refine qZ omQ ?_;refine qV ?_;(try dsimp only);refine qa ?_;(try dsimp only);refine qQ (qG ‹_› .here rfl ?_);refine xl ‹_› ?_;refine xc omQ ?_;refine qF (qJ (qQ (qG ‹_› .here rfl ?_)));refine xl ‹_› ?_
 generalize hG:goM l l 0 []=G at hC;refine jP (λm s h'=>∃(i:Nat) (st:List Int) (tv:AV),s=(.int .i64 (i:Int),.int .i64 (l.length:Int),sv,tv,.ptr b0 0,())∧i≤l.length∧m=l.length-i∧StOk i st∧st.length≤i∧goM l (l.drop i) i st=G∧HS g h' (StC tv st::qk b0 [sv]::R))
  ?_ (m:=l.length) (by show _<1000000000;omega) ⟨0,[],.nils,rfl,by omega,by omega,StOk.nil,by simp,hG,H1.nils (e:=3) (sz:=1)⟩
 clear H1;rintro m ih s h2 hih ⟨i,st,tv,rfl,hi,rfl,hs,hsl,hgo,H⟩;dsimp only;by_cases hlt:i<l.length
 ·rw[Yz hlt]at hgo;have hrow:=Jt hlt;generalize l[i]=x at*;refine zq omQ ?_;refine qX (zf (S.sl H.drop.drop) hlt omQ hrow ?_);refine qM H rfl λb h4 H4=>?_;refine qc H4 (b:=b) .here rfl (by simp[q8]) rfl λh5 H5=>?_;have H5:HS g h5 (qk b (q8 x)::StC tv st::qk b0 [sv]::R):=H5;clear H H4;refine qE H5 (b:=b0) (off:=0) e_2 rfl omQ rfl ?_;refine qE H5 (b:=b) (off:=0) .here rfl omQ rfl ?_;refine qW (qZD omQ H5 S.more.more.more (Rd.own (e:=3) e_1) (λy hy=>by have:=hs y hy;omega) omQ) ?_;rintro _ h6 ⟨rfl,H6⟩;by_cases hw:zk l st x=0
  ·rw[iJ hw]at hgo;have ho:=zl hw;refine jk hw ?_;unfold q8 at H6;refine qJ (qQ (qG ‹_› .here rfl ?_));refine qW (Kx omQ (H6.sel e_1) (λh=>ho.2.1 (.inl h)) omQ) ?_;intro tv2 h8 H8;have hbl:=K6 st i x.1;refine qU omQ ?_;exact hih (l.length-(i+1)) _ _ omQ ⟨i+1,qt st i x.1,tv2,rfl,by omega,rfl,hs.behind,by omega,hgo,H8.sub (.cons .here (.drop .refl))⟩
  ·rw[iQ hw]at hgo;subst hgo;rw[hC];refine jq hw ?_;refine qX (qx ?_);exact qY ⟨rfl,H6.drop.drop.drop⟩
 ·obtain rfl:i=l.length:=by omega
  rw[List.drop_length]at hgo;have hgo:(Sum.inr st:(Int×Int) ⊕ List Int)=G:=hgo;subst hgo;dsimp only at hC;refine jo omQ (qJ ?_);refine zD (H.sl (e:=3) .here) ?_;by_cases h0:st=[]
  ·subst h0;rw[iJ rfl]at hC;rw[show([]:List Int).length=0 from rfl];refine xc omQ ?_;refine qJ (qV ?_);(try dsimp only)
   refine qE H (b:=b0) (off:=0) e_1 rfl omQ rfl ?_;refine qE H (b:=b0) (off:=0) e_1 rfl omQ rfl ?_;refine qW (Y7 omQ H S.more.more hG hl) ?_;intro av h3 H3;refine qW (qZb (a:=yn l 0 []) omQ H3 S.more.more.more (by rw[G6];exact Rd.own .here) G6 (qzb hG) hl) ?_;rintro _ h4 ⟨rfl,H4⟩;rw[← hC];refine qw rfl ?_;refine qw rfl ?_;refine zb H (b:=b0) e_1 rfl H3 e_2 rfl rfl omQ (HS.lt H e_1) ?_;refine qx ?_;exact qY ⟨rfl,H4.drop.drop.drop⟩
  ·rw[iQ h0]at hC;subst hC;have hl0:st.length≠0:=λh=>h0 (iA h);refine xn omQ ?_;refine qX (qW (Xj omQ (H.sl (e:=3) .here) omQ) ?_);rintro _ h3 ⟨rfl,rfl⟩;refine qx ?_;exact qY ⟨rfl,H.drop.drop⟩
theorem qxa {l:List qS} {st':List Int} (hg:goM l l 0 []=.inr st') {i:Nat} (hi:i<l.length) (ho:0<jO l[i].1∨l[i].1=16):∃p:Nat,(yn l 0 [])[i]? =some (p:Int)∧p<l.length:=by
 obtain⟨s,h1,h2⟩:=qGd (r:=l) (i:=0) (j:=i) (st:=[]) hi;obtain⟨h3,h4⟩:=h2 hg StOk.nil;have hw:=h4 l[i] (iW hi);have hne:=(zl hw).2.1 ho;have hin:=h3.inmost hne;refine⟨(qm s).toNat,?_,by omega⟩;rw[h1]
 congr 1
 omega
end Go.Proofs.YtnalffoigcmnnaaGreatDoor
namespace Go.Proofs.YtnalffoigcmnnaaGreatDoor
open Go Go.Ae
set_option maxRecDepth 100000
variable {g h:AH} {L R:List SP}
theorem Sel.app {A A':List SP} {P:SP} (s:Sel A P A') (R:List SP):Sel (A++R) P (A'++R):=by
 induction s with
 |here=>exact .here
 |there s ih=>exact .there ih
def RlC (p:AV×AV) (x:LvM):SP:=.all [qD 66 2 x.1.length p.1 (x.1.flatMap jU),qD 3 1 x.2.length p.2 (x.2.map (.int .i64))]
theorem RlC.E {p:AV×AV} {x:LvM} (H:HS g h (RlC p x::R)):HS g h (qD 66 2 x.1.length p.1 (x.1.flatMap jU)::qD 3 1 x.2.length p.2 (x.2.map (.int .i64))::R):=H.allE
theorem RlC.I {p:AV×AV} {x:LvM} (H:HS g h (qD 66 2 x.1.length p.1 (x.1.flatMap jU)::qD 3 1 x.2.length p.2 (x.2.map (.int .i64))::R)):HS g h (RlC p x::R):=H.allI
def Vu (ps:List (AV×AV)):List AV:=ps.reverse.flatMap λp=>[p.1,p.2]
end Go.Proofs.YtnalffoigcmnnaaGreatDoor
namespace Go.Proofs.YtnalffoigcmnnaaGreatDoor
open Go Go.Ae
set_option maxRecDepth 100000
variable {g h:AH} {L R:List SP}
def frS (lv:List LvM):Nat:=(lv.map λx=>x.2.length).sum
theorem kV (x:LvM) (r:List LvM):frS (x::r)=x.2.length+frS r:=by simp[frS]
theorem qYE {x y:LvM} {r:List LvM}:frS (kf (x::y::r)).2=frS (x::y::r):=by unfold frS kf;simp;omega
end Go.Proofs.YtnalffoigcmnnaaGreatDoor
