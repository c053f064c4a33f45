/- Lemmas for 'quietus/quietuslaw27.ThreadAlone': What a transaction knows and writes, as plain data: cells, levels, views;Write sets: by the program;Levels of cells and frees: by the program;Views: by the ... No condition. -/
import Derived.Test.YtnalffoigcmnnabGreatDoorThreadAloneAe7
import Derived.Test.YtnalffoigcmnnabGreatDoorThreadAloneT
import Derived.KernelRfl
namespace Go.Proofs.YtnalffoigcmnnabGreatDoor
open Go Go.Ae
abbrev Cl:Type:=Int×Int
def jA (c:Int×Int):List AV:=[.int .i64 c.1,.int .u64 c.2]
def YO (p:Int):List Cl→Option Nat
 |[]=>none
 |c::l=>if c.1=p then some 0 else(YO p l).map (· +1)
def zj (p:Int):List Cl→Option Int
 |[]=>none
 |c::l=>if c.1=p then some c.2 else zj p l
def yp (p v:Int):List Cl→List Cl
 |[]=>[(p,v)]
 |c::l=>if c.1=p then(p,v)::l else c::yp p v l
def yl (l cs:List Cl):List Cl:=cs.foldl (λl c=>yp c.1 c.2 l) l
theorem NQ {p:Int} {l:List Cl}:YO p l=none↔zj p l=none:=by
 induction l with
 |nil=>simp[YO,zj]
 |cons c l ih=>
  unfold YO zj
  split
  ·simp
  ·simp[ih]
theorem Ny {p:Int}:∀{l:List Cl} {i:Nat},YO p l=some i→i<l.length∧(∃x,l[i]? =some (p,x)∧zj p l=some x)∧∀v,yp p v l=l.set i (p,v):=by
 intro l
 induction l with
 |nil=>intro i h;cases h
 |cons c l ih=>
  intro i h;unfold YO at h;unfold zj
  split at h
  ·rename_i hc;cases h;rw[iJ hc];refine⟨by simp,⟨c.2,by rw[← hc];rfl,rfl⟩,λv=>?_⟩;unfold yp;rw[iJ hc];rfl
  ·rename_i hc;rw[iQ hc];cases hi:YO p l with
   |none=>rw[hi]at h;cases h
   |some j=>rw[hi]at h;cases h;obtain⟨h1,⟨x,h2,h2'⟩,h3⟩:=ih hi;refine⟨by simp;omega,⟨x,by simpa using h2,h2'⟩,λv=>?_⟩;unfold yp;rw[iQ hc,h3];rfl
theorem Qi {p v:Int} {l:List Cl} (h:zj p l=none):yp p v l=l++[(p,v)]:=by
 induction l with
 |nil=>rfl
 |cons c l ih=>
  unfold zj at h
  split at h
  ·cases h
  ·rename_i hc;unfold yp;rw[iQ hc,ih h];rfl
theorem qJE {p:Int}:∀{l:List Cl} {i:Nat},i<l.length→(∀j,j<i→∀c,l[j]? =some c→c.1≠p)→(∃x,l[i]? =some (p,x))→YO p l=some i:=by
 intro l
 induction l with
 |nil=>intro i h;simp at h
 |cons c l ih=>
  intro i hi h1 ⟨x,h2⟩;unfold YO;cases i with
  |zero=>simp at h2;rw[iJ (by rw[h2])]
  |succ i=>rw[iQ (h1 0 omQ c rfl),ih (by simpa using hi) (λj hj c' hc'=>h1 (j+1) omQ c' (by simpa using hc')) ⟨x,by simpa using h2⟩];rfl
theorem qWO {p:Int}:∀{l:List Cl},(∀c∈l,c.1≠p)→YO p l=none:=by
 intro l
 induction l with
 |nil=>intro _;rfl
 |cons c l ih=>intro h;unfold YO;rw[iQ (h c (iK ..)),ih λc' hc'=>h c' (iX _ hc')];rfl
theorem GZ {p v:Int} {l:List Cl}:(yp p v l).length=if zj p l=none then l.length+1 else l.length:=by
 induction l with
 |nil=>simp[yp,zj]
 |cons c l ih=>
  unfold yp zj
  split
  ·simp
  ·rw[List.length_cons,ih]
   split<;>simp
theorem UI {p q v:Int} {l:List Cl}:zj q (yp p v l)=if q=p then some v else zj q l:=by
 induction l with
 |nil=>
  simp only[yp,zj];by_cases h:p=q
  ·simp[h]
  ·rw[iQ h,iQ (λh'=>h h'.symm)]
 |cons c l ih=>
  unfold yp
  split
  ·rename_i hc;simp only[zj];by_cases h:p=q
   ·simp[h]
   ·rw[iQ h,iQ (λh'=>h h'.symm),iQ (by rw[hc];exact h)]
  ·rename_i hc;simp only[zj,ih];by_cases h:c.1=q
   ·rw[iJ h,iJ h,iQ (by rintro rfl;exact hc h)]
   ·rw[iQ h,iQ h]
def InC (l:List Cl):Prop:=∀c∈l,1≤c.1∧c.1<256
theorem InC.put {l:List Cl} {p v:Int} (h:InC l) (hp:1≤p∧p<256):InC (yp p v l):=by
 induction l with
 |nil=>intro c hc;simp[yp]at hc;subst hc;exact hp
 |cons a l ih=>
  unfold yp
  split
  ·intro c hc;rcases List.mem_cons.1 hc with rfl |hc
   ·exact hp
   ·exact h c (iX _ hc)
  ·intro c hc;rcases List.mem_cons.1 hc with rfl |hc
   ·exact h _ (iK ..)
   ·exact ih (λc hc=>h c (iX _ hc)) c hc
def UnC (l:List Cl):Prop:=(l.map (·.1)).Nodup
theorem Zz {p:Int} {l:List Cl}:zj p l=none↔p∉l.map (·.1):=by
 induction l with
 |nil=>simp[zj]
 |cons c l ih=>
  unfold zj
  split
  ·rename_i h;simp[h]
  ·rename_i h;rw[ih,List.map_cons,List.mem_cons,not_or];exact⟨λh'=>⟨λh2=>h h2.symm,h'⟩,λh'=>h'.2⟩
theorem qG3 {p v:Int} {l:List Cl}:(yp p v l).map (·.1)=if zj p l=none then l.map (·.1)++[p]else l.map (·.1):=by
 induction l with
 |nil=>simp[yp,zj]
 |cons c l ih=>
  unfold yp zj
  split
  ·rename_i h;simp[h]
  ·rw[List.map_cons,ih]
   split<;>simp
theorem UnC.put {l:List Cl} {p v:Int} (h:UnC l):UnC (yp p v l):=by
 unfold UnC;rw[qG3]
 split
 ·rename_i hp;rw[Zz]at hp;rw[List.nodup_append];exact⟨h,by simp,λa ha b hb=>by rw[List.mem_singleton]at hb;subst hb;rintro rfl;exact hp ha⟩
 ·exact h
theorem qW3 {l:List Cl}:∀{cs:List Cl},UnC cs→(∀c∈cs,zj c.1 l=none)→yl l cs=l++cs:=by
 intro cs
 induction cs generalizing l with
 |nil=>intro _ _;simp[yl]
 |cons c cs ih=>
  intro hu hn;have hu':UnC cs:=(List.nodup_cons.1 hu).2;have hc:c.1∉cs.map (·.1):=(List.nodup_cons.1 hu).1;show yl (yp c.1 c.2 l) cs=_
  rw[ih hu' (λd hd=>by
   rw[UI,iQ (by rintro h;exact hc (by rw[← h];exact List.mem_map_of_mem hd))]
   exact hn d (iX _ hd)),Qi (hn c (iK ..)),List.append_assoc]
  rfl
theorem MO {cs:List Cl} (h:UnC cs):yl [] cs=cs:=by rw[qW3 h (λ_ _=>rfl),List.nil_append]
def Xn (m:Nat) (l:List Cl) (p v:Int):Int×List Cl :=
 if p<1∨256≤p then(2,l)else if zj p l=none∧m≤l.length then(5,l)else(0,yp p v l)
def Xz (m:Nat) (l:List Cl):List Cl→Int×List Cl
 |[]=>(0,l)
 |c::cs=>if(Xn m l c.1 c.2).1=0 then Xz m (Xn m l c.1 c.2).2 cs else Xn m l c.1 c.2
theorem qZ0 {m:Nat} {l:List Cl} {c:Cl} {cs:List Cl}:Xz m l (c::cs)=if(Xn m l c.1 c.2).1=0 then Xz m (Xn m l c.1 c.2).2 cs else Xn m l c.1 c.2:=rfl
theorem Yo {m:Nat}:∀{cs l:List Cl},InC cs→l.length+cs.length≤m→Xz m l cs=(0,yl l cs):=by
 intro cs
 induction cs with
 |nil=>intro l _ _;rfl
 |cons c cs ih=>
  intro l hi hl;have hc:=hi c (iK ..);have hp:Xn m l c.1 c.2=(0,yp c.1 c.2 l):=by unfold Xn;rw[iQ omQ,iQ (by simp at hl;omega)]
  unfold Xz
  rw[hp,iJ rfl,ih (λd hd=>hi d (iX _ hd)) (by
   have:=GZ (p:=c.1) (v:=c.2) (l:=l);simp at hl;show(yp c.1 c.2 l).length+cs.length≤m
   split at this<;>omega)]
  rfl
abbrev LvM:Type:=List Cl×List Int
def Y9 (p:Int):List LvM→Option Int
 |[]=>none
 |x::r=>match zj p x.1 with |some v=>some v |none=>Y9 p r
def yb (lv:List LvM):Nat:=(lv.map λx=>x.1.length).sum
def jJ (lv:List LvM):List Cl:=lv.foldl (λout x=>yl x.1 out) []
def vo (lv:List LvM):List Int:=lv.reverse.flatMap (·.2)
structure OkL (most:Nat) (lv:List LvM):Prop where
  held:yb lv≤most
  le:most≤96
  ins:∀x∈lv,InC x.1
  un:∀x∈lv,UnC x.1
  one:1≤lv.length
  deep:lv.length≤6
def vn (most:Nat) (lv:List LvM) (p v:Int):Int×List LvM :=
 match lv with
 |[]=>(0,[])
 |x::r=>if p<1∨256≤p then(2,lv)else if zj p x.1=none∧most≤yb lv then(5,lv)else(0,(yp p v x.1,x.2)::r)
def vO (most:Nat) (was lv:List LvM):List Cl→Int×List LvM
 |[]=>(0,lv)
 |c::cs=>if(vn most lv c.1 c.2).1=0 then vO most was (vn most lv c.1 c.2).2 cs else((vn most lv c.1 c.2).1,was)
def ko (lv:List LvM):Int×List LvM:=if 6≤lv.length then(9,lv)else(0,([],[])::lv)
def kl (lv:List LvM):Int×List LvM:=if lv.length=1 then(10,lv)else(0,lv.tail)
def Ql (lv:List LvM):Int×List LvM:=match lv with
 |x::y::r=>(0,(yl y.1 x.1,y.2++x.2)::r)
 |_=>(10,lv)
def Jt (lv:List LvM) (b:Int):List LvM:=match lv with
 |x::r=>(x.1,x.2++[b])::r
 |[]=>[]
theorem vr {most:Nat} {was lv:List LvM} {c:Cl} {cs:List Cl}:vO most was lv (c::cs)=if(vn most lv c.1 c.2).1=0 then vO most was (vn most lv c.1 c.2).2 cs else((vn most lv c.1 c.2).1,was):=rfl
theorem xZ {x:LvM} {r:List LvM}:yb (x::r)=x.1.length+yb r:=by simp[yb]
theorem NO {most:Nat} {lv:List LvM} {p v:Int} (O:OkL most lv):OkL most (vn most lv p v).2∧(vn most lv p v).2.length=lv.length:=by
 cases lv with
 |nil=>have:=O.one;simp at this
 |cons x r=>
  unfold vn;dsimp only
  split
  ·exact⟨O,rfl⟩
  ·rename_i hp
   split
   ·exact⟨O,rfl⟩
   ·rename_i h1;have hh:=O.held;rw[xZ]at hh;refine⟨⟨?_,O.le,?_,?_,by simp,O.deep⟩,rfl⟩
    ·show yb ((yp p v x.1,x.2)::r)≤most;rw[xZ,GZ]
     split
     ·rename_i h2;rw[xZ]at h1;have:¬most≤x.1.length+yb r:=λh3=>h1 ⟨h2,h3⟩;omega
     ·exact hh
    ·intro y hy;rcases List.mem_cons.1 hy with rfl |hy
     ·exact(O.ins x (iK ..)).put omQ
     ·exact O.ins y (iX _ hy)
    ·intro y hy;rcases List.mem_cons.1 hy with rfl |hy
     ·exact(O.un x (iK ..)).put
     ·exact O.un y (iX _ hy)
theorem ZI {most:Nat} {was:List LvM} (W:OkL most was):∀{cs:List Cl} {lv:List LvM},OkL most lv→lv.length=was.length→OkL most (vO most was lv cs).2∧(vO most was lv cs).2.length=was.length:=by
 intro cs
 induction cs with
 |nil=>intro lv O hl;exact⟨O,hl⟩
 |cons c cs ih=>
  intro lv O hl;unfold vO
  split
  ·exact ih (NO O).1 ((NO O).2.trans hl)
  ·exact⟨W,rfl⟩
theorem qzE {most:Nat} {lv:List LvM} (O:OkL most lv):OkL most (ko lv).2:=by
 unfold ko
 split
 ·exact O
 ·refine⟨by rw[xZ];have:=O.held;simpa using this,O.le,?_,?_,by simp,by simp;omega⟩
  ·intro y hy;rcases List.mem_cons.1 hy with rfl |hy
   ·intro c hc;cases hc
   ·exact O.ins y hy
  ·intro y hy;rcases List.mem_cons.1 hy with rfl |hy
   ·exact List.nodup_nil
   ·exact O.un y hy
theorem qq9 {most:Nat} {lv:List LvM} (O:OkL most lv):OkL most (kl lv).2:=by
 unfold kl
 split
 ·exact O
 ·rename_i h1;cases lv with
  |nil=>have:=O.one;simp at this
  |cons x r=>
   have hh:=O.held;have h2:=O.deep;rw[xZ]at hh;simp at h1 h2;refine⟨by show yb r≤most;omega,O.le,λy hy=>O.ins y (iX _ hy),λy hy=>O.un y (iX _ hy),?_,by show r.length≤6;omega⟩;show 1≤r.length;cases r with
   |nil=>simp at h1
   |cons _ _=>simp
theorem UW:∀{cs l:List Cl},(yl l cs).length≤l.length+cs.length:=by
 intro cs
 induction cs with
 |nil=>intro l;exact Nat.le_refl _
 |cons c cs ih=>
  intro l;have:=ih (l:=yp c.1 c.2 l);have h2:=GZ (p:=c.1) (v:=c.2) (l:=l);show(yl (yp c.1 c.2 l) cs).length≤_;rw[List.length_cons]
  split at h2<;>omega
theorem InC.puts:∀{cs l:List Cl},InC l→InC cs→InC (yl l cs):=by
 intro cs
 induction cs with
 |nil=>intro l h _;exact h
 |cons c cs ih=>intro l h hc;exact ih (h.put (hc c (iK ..))) λd hd=>hc d (iX _ hd)
theorem UnC.puts:∀{cs l:List Cl},UnC l→UnC (yl l cs):=by
 intro cs
 induction cs with
 |nil=>intro l h;exact h
 |cons c cs ih=>intro l h;exact ih h.put
theorem qj4 {most:Nat} {lv:List LvM} (O:OkL most lv):OkL most (Ql lv).2:=by
 match lv,O with
 |[],O=>exact O
 |[x],O=>exact O
 |x::y::r,O=>
  have hh:=O.held;have h2:=O.deep;rw[xZ,xZ]at hh;have:=UW (cs:=x.1) (l:=y.1);refine⟨by show yb ((yl y.1 x.1,y.2++x.2)::r)≤most;rw[xZ];dsimp only;omega,O.le,?_,?_,by simp[Ql],by simp[Ql]at h2 ⊢;omega⟩
  ·intro z hz;rcases List.mem_cons.1 hz with rfl |hz
   ·exact(O.ins y osQ).puts (O.ins x osQ)
   ·exact O.ins z (by simp[hz])
  ·intro z hz;rcases List.mem_cons.1 hz with rfl |hz
   ·exact(O.un y osQ).puts
   ·exact O.un z (by simp[hz])
theorem qY9 {most:Nat} {lv:List LvM} {b:Int} (O:OkL most lv):OkL most (Jt lv b):=by
 cases lv with
 |nil=>exact O
 |cons x r=>
  refine⟨O.held,O.le,?_,?_,by simp[Jt],O.deep⟩
  ·intro z hz;rcases List.mem_cons.1 hz with rfl |hz
   ·exact O.ins x osQ
   ·exact O.ins z (by simp[hz])
  ·intro z hz;rcases List.mem_cons.1 hz with rfl |hz
   ·exact O.un x osQ
   ·exact O.un z (by simp[hz])
end Go.Proofs.YtnalffoigcmnnabGreatDoor
namespace Go.Proofs.YtnalffoigcmnnabGreatDoor
open Go Go.Ae
set_option maxRecDepth 100000
variable {g h:AH} {L R:List SP}
def WrC (w m:Nat) (l:List Cl):SP:=.ex λv=>.all [qg w [.int .i64 (m:Int),v],qy 181 2 l.length v (l.flatMap jA)]
theorem WrC.E {w m:Nat} {l:List Cl} (H:HS g h (WrC w m l::R)):∃v,HS g h (qg w [.int .i64 (m:Int),v]::qy 181 2 l.length v (l.flatMap jA)::R):=by obtain⟨v,H⟩:=H.exE;exact⟨v,H.allE⟩
theorem WrC.I {w m:Nat} {l:List Cl} {v:AV} (H:HS g h (qg w [.int .i64 (m:Int),v]::qy 181 2 l.length v (l.flatMap jA)::R)):HS g h (WrC w m l::R) :=
 HS.exI v (HS.allI H)
theorem qQi (l:List Cl):qm (l.flatMap jA)=true:=by unfold qm;rw[List.all_eq_true];intro v hv;obtain⟨c,_,hc⟩:=List.mem_flatMap.1 hv;simp[jA]at hc;rcases hc with rfl |rfl<;>rfl
theorem GS {l:List Cl} {i:Nat} {c:Cl} (h:l[i]? =some c):((l.flatMap jA).drop (i*2)).take 2=jA c:=by obtain⟨hi,e⟩:=List.getElem?_eq_some_iff.1 h;rw[QT (sz:=2) jA (λ_=>rfl),List.drop_eq_getElem_cons hi,e,List.flatMap_cons];rfl
theorem qja {l:List Cl} {i:Nat} {p x v:Int} (h:l[i]? =some (p,x)):(l.flatMap jA).set (i*2+1) (.int .u64 v)=(l.set i (p,v)).flatMap jA:=by
 have hi:=(List.getElem?_eq_some_iff.1 h).1;apply List.ext_getElem?;intro j;have hd:j=j/2*2+j%2:=by omega
 have hm:j%2<2:=by omega
 rw[List.getElem?_set,Jc (sz:=2) jA (λ_=>rfl)];have e1:=XQ (sz:=2) jA (λ_=>rfl) l (j/2) (j%2) hm;have e2:=XQ (sz:=2) jA (λ_=>rfl) (l.set i (p,v)) (j/2) (j%2) hm;rw[← hd]at e1 e2;rw[e1,e2,List.getElem?_set];by_cases h1:i*2+1=j
 ·have:j/2=i:=by omega
  have h3:j%2=1:=by omega
  rw[iJ h1,iJ omQ,iJ this.symm,iJ hi,h3];rfl
 ·rw[iQ h1];by_cases h2:i=j/2
  ·have h3:j%2=0:=by omega
   rw[iJ h2,iJ hi,h3,← h2,h];rfl
  ·rw[iQ h2]
def zI (o:Option Nat):Int:=match o with |some i=>(i:Int) |none=>-1
theorem Ow {n:Nat} (hn:1≤n) {m:Nat} (hm:m≤96) (H:HS g h R):t_w n 144 [.int .i64 (m:Int)] h λv h'=>∃w,v=.ptr w 0∧HS g h' (WrC w m []::R):=by
 refine t_e1 (S:=S144) rfl omQ λk hk=>?_;unfold S144;try simp only[iZ]
 refine zX (zC (qH rfl (qO H rfl λw h2 H2=>qj ⟨w,rfl,?_⟩)));rw[show max ((0:Nat):Int) (min (m:Int) ((96:Nat):Int))=(m:Int) by omega]at H2;exact WrC.I ((H2.nils (e:=181) (sz:=2)).sel (P:=qg w [.int .i64 (m:Int),.nils]) e_1 :)
theorem qVU {n:Nat} (hn:2≤n) {p:Int} {v:AV} {c0:Nat} {l:List Cl} (H:HS g h L) (S:Rd g L 2 l.length v (l.flatMap jA)) (s:Sel L (qg c0 [.int .i64 p]) R) (hl:l.length<1000000) :
  t_w n 297 [v,.fn 298 [] [.ptr c0 0]] h λv h'=>v=.int .i64 (zI (YO p l))∧HS g h' L:=by
 refine t_e2 (S:=S297) rfl omQ λk hk=>?_;unfold S297;try simp only[iZ]
 refine xW (S.sl H) ?_
 refine(jN (λm s h'=>∃i:Nat,s=(.int .i64 (i:Int),.int .i64 (l.length:Int),.fn 298 [] [.ptr c0 0],v,())∧i≤l.length∧m=l.length-i∧HS g h' L∧
  (∀j,j<i→∀c,l[j]? =some c→c.1≠p)) ?_ (m:=l.length) (by show _<1000000000;omega) ⟨0,rfl,by omega,by omega,H,λj hj=>by omega⟩)
 rintro m ih s' h' hih ⟨i,rfl,h1,rfl,H,h2⟩;dsimp only;refine zy (λhlt=>qZ ?_) λhge=>qJ (qk (qj ⟨?_,H⟩))
 ·have hi:i<l.length:=by omega
  have hc:l[i]? =some l[i]:=iW hi;refine zU (l:=jA l[i]) (S.sl H) hi omQ (GS hc) ?_;refine qG (Q':=λv h2=>v=.bool (decide (l[i].1=p))∧HS g h2 L) (qgp (g:=(tD2 S298)) rfl omQ λk hk=>?_) ?_
  ·show wp (S298 (callT tab qz k) _ _ _).1 _;unfold S298;try simp only[ iZ]
   refine qO H rfl λb h3 H3=>?_;refine qQ (qK ‹_› .here rfl ?_);refine qK H3 (.there s) rfl (XJ (qj ⟨rfl,H3.drop⟩))
  ·rintro _ h3 ⟨rfl,H3⟩;refine qvN (λhe=>qk (qj ⟨?_,H3⟩)) λhne=>qc omQ ?_
   ·rw[qJE hi h2 ⟨l[i].2,by rw[hc,← he]⟩];rfl
   ·refine hih (l.length-(i+1)) _ _ omQ ⟨i+1,rfl,by omega,rfl,H3,λj hj c hc'=>?_⟩;by_cases h4:j<i
    ·exact h2 j h4 c hc'
    ·obtain rfl:j=i:=by omega
     rw[hc]at hc';cases hc';exact hne
 ·rw[qWO λc hc=>?_]
  ·rfl
  ·obtain⟨j,hj⟩:=List.getElem?_of_mem hc;exact h2 j (by have:=(List.getElem?_eq_some_iff.1 hj).1;omega) c hj
theorem qQf {n:Nat} (hn:3≤n) {w m:Nat} {l:List Cl} {p:Int} (H:HS g h (WrC w m l::R)) (hl:l.length<1000000) :
  t_w n 266 [.ptr w 0,.int .i64 p] h λv h'=>v=.int .i64 (zI (YO p l))∧HS g h' (WrC w m l::R):=by
 refine t_e2 (S:=S266) rfl omQ λk hk=>?_;unfold S266;try simp only[iZ]
 obtain⟨v,H⟩:=WrC.E H;refine XM H ⟨rfl,rfl⟩ λc0 h2 H2=>?_;refine qW (qQ (qK ‹_› e_1 rfl ?_));refine qG (qVU (p:=p) omQ H2 (H2.rd e_2) .here hl) ?_;rintro _ h3 ⟨rfl,H3⟩;exact qj ⟨rfl,WrC.I H3.drop⟩
theorem qKA {n:Nat} (hn:4≤n) {w m:Nat} {l:List Cl} {p:Int} (H:HS g h (WrC w m l::R)) (hl:l.length<1000000) :
  t_w n 200 [.ptr w 0,.int .i64 p] h λv h'=>v=.tup [.int .u64 ((zj p l).getD 0),.bool (zj p l).isSome]∧HS g h' (WrC w m l::R):=by
 refine t_e2 (S:=S200) rfl omQ λk hk=>?_;unfold S200;try simp only[iZ]
 refine qG (qQf omQ H hl) ?_;rintro _ h3 ⟨rfl,H3⟩;cases hi:YO p l with
 |none=>refine zN (by show¬((0:Nat):Int)≤ -1;omega) ?_;refine qJ ?_;exact qj ⟨by rw[NQ.1 hi];rfl,H3⟩
 |some i=>obtain⟨h1,⟨x,h2,h2'⟩,_⟩:=Ny hi;refine zO (by show((0:Nat):Int)≤(i:Int);omega) ?_;obtain⟨v,H4⟩:=WrC.E H3;refine qZ (qW (qQ (qK ‹_› .here rfl ?_)));refine yT (x:=.int .u64 x) (H4.sl e_1) omQ h1 ?_ (qj ⟨by rw[h2'];rfl,H3⟩);rw[XQ (sz:=2) jA (λ_=>rfl) _ _ _ omQ,h2];rfl
theorem qXP {n:Nat} (hn:4≤n) {w m:Nat} {l:List Cl} {p x:Int} (H:HS g h (WrC w m l::R)) (hl:l.length<1000000) :
  t_w n 199 [.ptr w 0,.int .i64 p,.int .u64 x] h λv h'=>v=.int .i64 (Xn m l p x).1∧HS g h' (WrC w m (Xn m l p x).2::R):=by
 refine t_e3 (S:=S199) rfl omQ λk hk=>?_;unfold S199;try simp only[iZ]
 unfold Xn;by_cases hp:p<1∨256≤p
 ·rw[iJ hp]
  repeat' (first |with_reducible refine qZ ?_ |with_reducible refine qJ ?_ |(with_reducible refine qa ?_;try dsimp only) |(with_reducible refine qo ?_;try dsimp only) |(with_reducible refine qS ?_;try dsimp only) |(with_reducible refine qd ?_;try dsimp only) |(with_reducible refine jt ?_;try dsimp only) |with_reducible refine qF ?_ |with_reducible refine qI ?_ |(with_reducible refine qV ?_;try dsimp only) |with_reducible refine qk ?_ |with_reducible refine jX ?_ |with_reducible refine jV ?_ |with_reducible refine qc omQ ?_ |with_reducible refine zQ omQ ?_ |with_reducible refine xd omQ ?_ |with_reducible refine yK omQ ?_ |with_reducible refine zX ?_ |with_reducible refine zC ?_ |with_reducible refine qx omQ ?_ |with_reducible refine qX omQ ?_ |with_reducible refine jj omQ ?_ |with_reducible refine jY omQ ?_ |with_reducible refine jd omQ ?_ |with_reducible refine jH omQ ?_ |with_reducible refine Jk omQ ?_ |with_reducible refine XH omQ ?_ |with_reducible refine yB omQ ?_ |with_reducible refine yV omQ ?_ |with_reducible refine zO omQ ?_ |with_reducible refine zN omQ ?_ |with_reducible refine zy (λhc=>?_) (λhc=>?_) |with_reducible refine wP (λhc=>?_) (λhc=>?_) |with_reducible refine wR (λhc=>?_) (λhc=>?_) |with_reducible refine yY (λhc=>?_) (λhc=>?_) |with_reducible refine vU (λhc=>?_) (λhc=>?_) |with_reducible refine yS (λhc=>?_) (λhc=>?_) |with_reducible refine gT (λhc=>?_) (λhc=>?_))
  all_goals exact qj ⟨rfl,H⟩
 rw[iQ hp];refine jH omQ ?_;refine qV ?_;(try dsimp only);refine qd ?_;(try dsimp only);refine zN omQ ?_;refine qI (qJ ?_)
 refine qG (qQf omQ H hl) ?_;rintro _ h3 ⟨rfl,H3⟩;cases hi:YO p l with
 |none=>
  refine zN (by show¬((0:Nat):Int)≤ -1;omega) ?_;have hg:=NQ.1 hi;obtain⟨v,H4⟩:=WrC.E H3;refine qJ (qW (qQ (qK ‹_› .here rfl ?_)));refine qi ‹_› e_1 ?_;refine qW (qQ (qK ‹_› .here rfl ?_));by_cases hf:m≤l.length
  ·rw[iJ ⟨hg,hf⟩];refine zO omQ ?_;refine qZ ?_;exact qj ⟨rfl,H3⟩
  ·rw[iQ (λh=>hf h.2)];refine zN omQ ?_;refine qJ (qW (qQ (qK ‹_› .here rfl ?_)));refine qH rfl ?_;refine qf (sz:=2) (l:=[.int .i64 p,.int .u64 x]) H4 rfl rfl rfl rfl λv5 h5 H5=>?_;refine jf (H5.sel e_2) (H5.sl .here) omQ omQ rfl λv6 h6 H6=>?_;refine qW (qQ (qw H6 e_2 (H6.one .here) osQ λh7 H7=>qj ⟨rfl,WrC.I (v:=v6) ?_⟩));rw[Qi hg,List.flatMap_append,List.length_append];exact H7.sub (.cons .here (.cons .here (.drop (.refl))))
 |some i=>obtain⟨h1,⟨y,h2,h2'⟩,h5⟩:=Ny hi;refine zO (by show((0:Nat):Int)≤(i:Int);omega) ?_;obtain⟨v,H4⟩:=WrC.E H3;refine qZ (qW (qQ (qK ‹_› .here rfl ?_)));rw[iQ (λh=>by rw[h2']at h;cases h.1)];refine qyF (H4.sel e_1) h1 omQ ⟨rfl,rfl⟩ λh6 H6=>qj ⟨rfl,WrC.I (v:=v) ?_⟩;rw[qja h2]at H6;dsimp only;rw[h5,List.length_set];exact H6.sub (.cons e_1 (.refl))
theorem qQo {n:Nat} (hn:1≤n) {v:AV} {l:List Cl} (H:HS g h L) (s:Sel L (qy 181 2 l.length v (l.flatMap jA)) R) (hl:l.length<1000000) :
  t_w n 100 [v] h λv' h'=>HS g h' (qy 181 2 l.length v' (l.flatMap jA)::L):=by
 refine t_e1 (S:=S100) rfl omQ λk hk=>?_;unfold S100;try simp only[iZ]
 refine JJ H s (λ_ h0=>qZ (qj ?_)) (qJ ?_)
 ·have:=iA h0;subst this;exact H.nils
 ·refine qf (n:=0) (l:=[]) (sz:=2) H rfl rfl rfl rfl λv2 h2 H2=>?_;refine jf H2 (H2.sl (.there s)) omQ omQ (qQi l) λv3 h3 H3=>qj ?_;rw[Nat.zero_add,List.nil_append]at H3;exact H3
theorem Y3 {n:Nat} (hn:2≤n) {w m:Nat} {l:List Cl} (H:HS g h (WrC w m l::R)) (hl:l.length<1000000) :
  t_w n 146 [.ptr w 0] h λv h'=>HS g h' (qy 181 2 l.length v (l.flatMap jA)::WrC w m l::R):=by
 refine t_e1 (S:=S146) rfl omQ λk hk=>?_;unfold S146;try simp only[iZ]
 obtain⟨v,H⟩:=WrC.E H;refine qW (qQ (qK ‹_› .here rfl ?_));refine qG (qQo omQ H e_1 hl) λv3 h3 H3=>qj ?_;have:=WrC.I (v:=v) (w:=w) (m:=m) (l:=l) (H3.sub (L':=_::_::qy 181 2 l.length v3 (l.flatMap jA)::R) (.cons e_1 (.cons e_1 .refl)));exact this.sub (.cons e_1 (.refl))
theorem qv2 {n:Nat} (hn:1≤n) {w m:Nat} {l:List Cl} (H:HS g h (WrC w m l::R)) :
  t_w n 299 [.ptr w 0] h λv h'=>v=.int .i64 (l.length:Int)∧h'=h:=by
 refine t_e1 (S:=S299) rfl omQ λk hk=>?_;unfold S299;try simp only[iZ]
 obtain⟨v,H⟩:=WrC.E H;refine qW (qQ (qK ‹_› .here rfl ?_));refine qi ‹_› e_1 ?_;exact qj ⟨rfl,rfl⟩
def kZ (m:Nat) (l cs:List Cl):Int×List Cl:=if(Xz m l cs).1=0 then Xz m l cs else((Xz m l cs).1,l)
theorem Yi {n:Nat} (hn:5≤n) {w m:Nat} {l cs:List Cl} {c:AV} (H:HS g h (WrC w m l::R)) (S:Rd g R 2 cs.length c (cs.flatMap jA)) (hl:l.length<100000) (hc:cs.length<100000) :
  t_w n 145 [.ptr w 0,c] h λv h'=>v=.int .i64 (kZ m l cs).1∧HS g h' (WrC w m (kZ m l cs).2::R):=by
 refine t_e2 (S:=S145) rfl omQ λk hk=>?_;unfold S145;try simp only[iZ]
 refine qG (Y3 omQ H omQ) λv0 h1 H1=>?_;refine xW (S.sl H1.drop.drop) ?_
 refine jN (λk s h'=>∃(i:Nat) (l':List Cl),s=(.int .i64 (i:Int),.int .i64 (cs.length:Int),c,v0,.ptr w 0,())∧i≤cs.length∧k=cs.length-i∧l'.length≤l.length+i∧
  HS g h' (WrC w m l'::qy 181 2 l.length v0 (l.flatMap jA)::R)∧Xz m l cs=Xz m l' (cs.drop i)) ?_ (m:=cs.length) (by show _<1000000000;omega) ⟨0,l,rfl,by omega,by omega,by omega,H1.sub (.cons e_1 (.refl)),rfl⟩
 rintro k ih s h2 hih ⟨i,l',rfl,h1,rfl,hl',H,hT⟩;dsimp only;refine zy (λhlt=>qZ ?_) λhge=>qJ (qk (qj ?_))
 ·have hi:i<cs.length:=by omega
  have hci:cs[i]? =some cs[i]:=iW hi;refine zU (l:=jA cs[i]) (S.sl H.drop.drop) hi omQ (GS hci) ?_;refine qO H rfl λb h3 H3=>qe H3 .here rfl (by show 0+2≤2;omega) rfl λh4 H4=>?_;have H5:HS g h4 (qg b (jA cs[i])::WrC w m l'::qy 181 2 l.length v0 (l.flatMap jA)::R):=H4;unfold jA at H5;refine qQ (qK ‹_› .here rfl ?_);refine qQ (qK ‹_› .here rfl ?_);refine qG (qXP omQ H5.drop omQ) ?_;rintro _ h6 ⟨rfl,H6⟩;rw[List.drop_eq_getElem_cons hi,qZ0]at hT;refine yS (λhne=>qZ ?_) λhe=>qJ (qc omQ ?_)
  ·have hne:¬(Xn m l' cs[i].1 cs[i].2).1=0:=by simpa using hne
   rw[iQ hne]at hT;obtain⟨v7,H7⟩:=WrC.E H6;refine qW (qQ (qw H7 .here (H7.one e_2) osQ λh8 H8=>qk (qj ?_)));unfold kZ;rw[hT,iQ hne];exact⟨rfl,WrC.I (v:=v0) (H8.sub (.cons .here (.cons e_1 (.drop .refl))))⟩
  ·have he':(Xn m l' cs[i].1 cs[i].2).1=0:=by simpa using he
   rw[iJ he']at hT;refine hih (cs.length-(i+1)) _ _ omQ ⟨i+1,_,rfl,by omega,rfl,?_,H6,hT⟩;have:=GZ (p:=cs[i].1) (v:=cs[i].2) (l:=l');unfold Xn
   repeat' split
   all_goals dsimp only
   all_goals first |omega |(split at this<;>omega)
 ·rw[List.drop_of_length_le omQ]at hT;have hT:Xz m l cs=(0,l'):=hT;unfold kZ;rw[hT,iJ rfl];exact⟨rfl,H.sub (.cons .here (.drop .refl))⟩
end Go.Proofs.YtnalffoigcmnnabGreatDoor
namespace Go.Proofs.YtnalffoigcmnnabGreatDoor
open Go Go.Ae
set_option maxRecDepth 100000
variable {g h:AH} {L R:List SP}
def LvC (a:Nat) (x:LvM):SP:=.ex λw=>.ex λfv=>.all [qg a [.ptr w 0,fv],WrC w 96 x.1,qy 3 1 x.2.length fv (x.2.map (.int .i64))]
theorem LvC.E {a:Nat} {x:LvM} (H:HS g h (LvC a x::R)):∃w fv,HS g h (qg a [.ptr w 0,fv]::WrC w 96 x.1::qy 3 1 x.2.length fv (x.2.map (.int .i64))::R):=by obtain⟨w,H⟩:=H.exE;obtain⟨fv,H⟩:=H.exE;exact⟨w,fv,H.allE⟩
theorem LvC.I {a w:Nat} {fv:AV} {x:LvM} (H:HS g h (qg a [.ptr w 0,fv]::WrC w 96 x.1::qy 3 1 x.2.length fv (x.2.map (.int .i64))::R)):HS g h (LvC a x::R) :=
 HS.exI w (HS.exI fv (HS.allI H))
def x8 (ps:List Nat):List AV:=ps.reverse.map λa=>.ptr a 0
def LgC (q most:Nat) (lv:List LvM):SP:=.ex λv=>.ex λps:List Nat=>.all (.pur (ps.length=lv.length)::qg q [.int .i64 (most:Int),v]::qy 224 1 lv.length v (x8 ps)::List.zipWith LvC ps lv)
theorem LgC.E {q most:Nat} {lv:List LvM} (H:HS g h (LgC q most lv::R)):∃v ps,ps.length=lv.length∧HS g h (qg q [.int .i64 (most:Int),v]::qy 224 1 lv.length v (x8 ps)::(List.zipWith LvC ps lv++R)):=by obtain⟨v,H⟩:=H.exE;obtain⟨ps,H⟩:=H.exE;obtain⟨e,H⟩:=HS.purE (H.allE);exact⟨v,ps,e,H⟩
theorem LgC.I {q most:Nat} {lv:List LvM} {v:AV} {ps:List Nat} (e:ps.length=lv.length) (H:HS g h (qg q [.int .i64 (most:Int),v]::qy 224 1 lv.length v (x8 ps)::(List.zipWith LvC ps lv++R))):HS g h (LgC q most lv::R) :=
 HS.exI v (HS.exI ps (HS.allI (HS.purI e H)))
theorem LgC.E1 {q most:Nat} {x:LvM} {r:List LvM} (H:HS g h (LgC q most (x::r)::R)):∃v a ps,ps.length=r.length∧HS g h (qg q [.int .i64 (most:Int),v]::qy 224 1 (r.length+1) v (x8 (a::ps))::LvC a x::(List.zipWith LvC ps r++R)):=by
 obtain⟨v,ps,e,H⟩:=LgC.E H;cases ps with
 |nil=>simp at e
 |cons a ps=>exact⟨v,a,ps,by simpa using e,H⟩
theorem LgC.I1 {q most:Nat} {x:LvM} {r:List LvM} {v:AV} {a:Nat} {ps:List Nat} (e:ps.length=r.length) (H:HS g h (qg q [.int .i64 (most:Int),v]::qy 224 1 (r.length+1) v (x8 (a::ps))::LvC a x::(List.zipWith LvC ps r++R))):HS g h (LgC q most (x::r)::R) :=
 LgC.I (ps:=a::ps) (by simp[e]) H
theorem qQ9 (a:Nat) (ps:List Nat):(x8 (a::ps))[ps.length]? =some (.ptr a 0):=by unfold x8;rw[List.reverse_cons,List.map_append,List.getElem?_append_right osQ];simp
theorem Gb {ps:List Nat} {i:Nat} (hi:i<ps.length):(x8 ps)[i]? =(ps[ps.length-1-i]?).map λa=>.ptr a 0:=by unfold x8;rw[List.getElem?_map,List.getElem?_reverse hi]
theorem Kt {ps:List Nat}:∀{lv:List LvM} {i a:Nat} {x:LvM},ps[i]? =some a→lv[i]? =some x→∃T,Sel (List.zipWith LvC ps lv++R) (LvC a x) T:=by
 induction ps with
 |nil=>intro lv i a x h;simp at h
 |cons b ps ih=>
  intro lv i a x h1 h2;cases lv with
  |nil=>simp at h2
  |cons y lv=>
   cases i with
   |zero=>simp at h1 h2;subst h1;subst h2;exact⟨_,.here⟩
   |succ i=>obtain⟨T,s⟩:=ih (lv:=lv) (i:=i) (by simpa using h1) (by simpa using h2);exact⟨_,.there s⟩
theorem Yy {n q:Nat} (hn:1≤n) {m v:AV} {a:Nat} {ps:List Nat} {R1 R2:List SP} {e:TypeId} (H:HS g h L) (s1:Sel L (qg q [m,v]) R1) (s2:Sel L (qy e 1 (ps.length+1) v (x8 (a::ps))) R2) (hl:ps.length<1000000) :
  t_w n 201 [.ptr q 0] h λr h'=>r=.ptr a 0∧h'=h:=by
 refine t_e1 (S:=S201) rfl omQ λk hk=>?_;unfold S201;try simp only[iZ]
 refine qW (qQ (qK H s1 rfl (qW (qQ (qK H s1 rfl (qi H s2 (zQ omQ ?_)))))));rw[show((ps.length+1:Nat):Int)-((1:Nat):Int)=((ps.length:Nat):Int) by omega];exact zJ (H.sl s2) (qQ9 a ps) (qj ⟨rfl,rfl⟩)
theorem NA {n:Nat} (hn:2≤n) (H:HS g h R):t_w n 165 [] h λv h'=>∃a,v=.ptr a 0∧HS g h' (LvC a ([],[])::R):=by
 refine t_e0 (S:=S165) rfl omQ λk hk=>?_;unfold S165;try simp only[iZ]
 refine qG (Ow (m:=96) omQ omQ H) ?_;rintro _ h2 ⟨w,rfl,H2⟩;refine qH rfl (qO H2 rfl λa h3 H3=>qj ⟨a,rfl,?_⟩);exact LvC.I (w:=w) (fv:=.nils) ((H3.nils (e:=3) (sz:=1)).sub (.cons e_1 (.cons e_1 (.cons .here (.refl)))))
theorem qxu {n:Nat} (hn:3≤n) {m:Int} (H:HS g h R):t_w n 125 [.int .i64 m] h λv h'=>∃q,v=.ptr q 0∧HS g h' (LgC q (max 0 (min m 96)).toNat [([],[])]::R):=by
 refine t_e1 (S:=S125) rfl omQ λk hk=>?_;unfold S125;try simp only[iZ]
 refine zX (zC (qG (NA omQ H) ?_));rintro _ h2 ⟨a,rfl,H2⟩;refine qf (n:=1) (l:=[.ptr a 0]) (sz:=1) H2 rfl rfl rfl rfl λv h3 H3=>?_;have h1:=H3.one .here;refine qH (l:=[.int .i64 (max ((0:Nat):Int) (min m ((96:Nat):Int))),v]) (by simp only[yF,h1.1];rfl) ?_;refine qO H3 (by show(true&&(v.one&&true))=true;rw[h1.2];rfl) λq h4 H4=>qj ⟨q,rfl,?_⟩;refine LgC.I1 (v:=v) (a:=a) (ps:=[]) rfl ?_;rw[show(((max 0 (min m 96)).toNat:Nat):Int)=max ((0:Nat):Int) (min m ((96:Nat):Int)) by omega];exact H4
theorem qWc {n q most:Nat} (hn:2≤n) {lv:List LvM} {b:Int} (H:HS g h (LgC q most lv::R)) (O:OkL most lv) (hf:∀x∈lv,x.2.length<1000000) :
  t_w n 290 [.ptr q 0,.int .i64 b] h λ_ h'=>HS g h' (LgC q most (Jt lv b)::R):=by
 cases lv with
 |nil=>have:=O.one;simp at this
 |cons x r=>
 refine t_e2 (S:=S290) rfl omQ λk hk=>?_;unfold S290;try simp only[iZ]
 obtain⟨v,a,ps,e,H⟩:=LgC.E1 H;rw[← e]at H;refine qG (Yy omQ H .here e_1 (by have:=O.deep;simp at this;omega)) ?_;rintro _ _ ⟨rfl,rfl⟩;obtain⟨w,fv,H2⟩:=LvC.E (H.sel e_2);refine qW (qQ (qK ‹_› .here rfl ?_));refine qf (n:=1) (l:=[.int .i64 b]) (sz:=1) H2 rfl rfl rfl rfl λv3 h3 H3=>?_;have:=hf x (iK ..);refine jf (H3.sel (P:=qy 3 1 x.2.length fv (x.2.map (.int .i64))) e_3) (H3.sl .here) omQ omQ rfl λv4 h4 H4=>?_;refine qW (qQ (qw H4 e_2 (H4.one .here) osQ λh5 H5=>qj ?_));refine LgC.I1 (v:=v) (a:=a) (ps:=ps) e ?_;rw[← e];have:=LvC.I (a:=a) (w:=w) (fv:=v4) (x:=(x.1,x.2++[b])) (R:=qg q [.int .i64 (most:Int),v]::qy 224 1 (ps.length+1) v (x8 (a::ps))::(List.zipWith LvC ps r++R))
  (by rw[List.map_append,List.length_append];exact H5.sub (.cons .here (.cons e_2 (.cons .here (.cons e_1 (.cons e_1 (.drop (.refl))))))))
 exact this.sub (.cons e_1 (.cons e_1 (.refl)))
theorem qG1 {n q most:Nat} (hn:1≤n) {lv:List LvM} (H:HS g h (LgC q most lv::R)) (O:OkL most lv) (hf:(vo lv).length<1000000) :
  t_w n 95 [.ptr q 0] h λv h'=>HS g h' (qy 3 1 (vo lv).length v ((vo lv).map (.int .i64))::LgC q most lv::R):=by
 refine t_e1 (S:=S95) rfl omQ λk hk=>?_;unfold S95;try simp only[iZ]
 have hd:=O.deep;obtain⟨v,ps,e,H⟩:=LgC.E H;refine qW (qQ (qK ‹_› .here rfl ?_));refine qi ‹_› e_1 ?_
 refine jN (λm s h'=>∃(i:Nat) (acc:AV),s=(.int .i64 (i:Int),.int .i64 (lv.length:Int),v,acc,())∧i≤lv.length∧m=lv.length-i∧
  HS g h' (qy 3 1 ((lv.reverse.take i).flatMap (·.2)).length acc (((lv.reverse.take i).flatMap (·.2)).map (.int .i64))::qg q [.int .i64 (most:Int),v]::qy 224 1 lv.length v (x8 ps)::(List.zipWith LvC ps lv++R)))
  ?_ (m:=lv.length) (by have:=O.deep;show _<1000000000;omega) ⟨0,.nils,rfl,by omega,by omega,H.nils⟩
 rintro m ih s h' hih ⟨i,acc,rfl,h1,rfl,H⟩;dsimp only;refine zy (λhlt=>qZ ?_) λhge=>qJ (qk (qj ?_))
 ·have hi:i<lv.length:=by omega
  have ha:ps[ps.length-1-i]? =some (ps[ps.length-1-i]'omQ):=iW _;have hx:lv[ps.length-1-i]? =some (lv[ps.length-1-i]'omQ):=iW _;generalize ps[ps.length-1-i]'omQ=a at ha;have hx2:lv.reverse[i]? =some (lv[ps.length-1-i]'omQ):=by rw[List.getElem?_reverse hi,← hx,e]
  generalize lv[ps.length-1-i]'omQ=x at hx hx2;refine zJ (H.sl e_2) (by rw[Gb omQ,ha];rfl) ?_;obtain⟨T,s⟩:=Kt (R:=R) ha hx;have H2:=H.sel (.there (.there (.there s)));obtain⟨w,fv,H3⟩:=LvC.E H2;refine qW (qQ (qK ‹_› .here rfl ?_));have hlen:((lv.reverse.take i).flatMap (·.2)).length+x.2.length≤(vo lv).length:=by
   have e1:lv.reverse.flatMap (·.2)=(lv.reverse.take (i+1)).flatMap (·.2)++(lv.reverse.drop (i+1)).flatMap (·.2):=by rw[← List.flatMap_append,List.take_append_drop]
   unfold vo;rw[e1,List.take_add_one,hx2];simp
  refine jf (H3.sel (P:=qy 3 1 ((lv.reverse.take i).flatMap (·.2)).length acc (((lv.reverse.take i).flatMap (·.2)).map (.int .i64))) e_3) (H3.sl e_2) omQ omQ ?_ λv4 h4 H4=>qc omQ ?_
  ·simp[qm,AV.one]
  refine hih (lv.length-(i+1)) _ _ omQ ⟨i+1,v4,rfl,by omega,rfl,?_⟩;rw[List.take_add_one,hx2,Option.toList_some,List.flatMap_append,List.map_append,List.length_append,List.flatMap_cons,List.flatMap_nil,List.append_nil];have H5:=LvC.I (a:=a) (w:=w) (fv:=fv) (x:=x) (H4.sub (.cons e_1 (.cons e_1 (.cons e_1 .refl))));exact HS.unsel (.there (.there (.there s))) (H5.sub (.refl))
 ·obtain rfl:i=lv.length:=by omega
  rw[List.take_of_length_le osQ]at H;exact(LgC.I (v:=v) (ps:=ps) e (HS.back (A:=_::_::List.zipWith LvC ps lv) H)).sub (.cons e_1 (.refl))
theorem rsum (l:List Nat):l.reverse.sum=l.sum:=by
 induction l with
 |nil=>rfl
 |cons a l ih=>rw[List.reverse_cons,List.sum_append,ih,List.sum_cons];simp[Nat.add_comm]
theorem qq4 {n q most:Nat} (hn:2≤n) {lv:List LvM} (H:HS g h (LgC q most lv::R)) (O:OkL most lv) :
  t_w n 267 [.ptr q 0] h λv h'=>v=.int .i64 ((most:Int)-(yb lv:Int))∧h'=h:=by
 refine t_e1 (S:=S267) rfl omQ λk hk=>?_;unfold S267;try simp only[iZ]
 obtain⟨v,ps,e,H⟩:=LgC.E H;have hh:=O.held;have hl:=O.le;have hd:=O.deep;refine qW (qQ (qK ‹_› .here rfl ?_));refine qW (qQ (qK ‹_› .here rfl ?_));refine qi ‹_› e_1 ?_;refine jN (λm s h'=>∃(i:Nat),s=(.int .i64 (i:Int),.int .i64 (lv.length:Int),v,.int .i64 ((most:Int)-(((lv.reverse.take i).map λx=>x.1.length).sum:Nat)),())∧i≤lv.length∧m=lv.length-i∧h'=h)
  ?_ (m:=lv.length) (by show _<1000000000;omega) ⟨0,by simp,by omega,by omega,rfl⟩
 rintro m ih s h' hih ⟨i,rfl,h1,rfl,rfl⟩;dsimp only;have hsum:∀j,((lv.reverse.take j).map λx=>x.1.length).sum+((lv.reverse.drop j).map λx=>x.1.length).sum=yb lv:=by intro j;rw[← List.sum_append,← List.map_append,List.take_append_drop,List.map_reverse,rsum];rfl
 refine zy (λhlt=>qZ ?_) λhge=>qJ (qk (qj ⟨?_,rfl⟩))
 ·have hi:i<lv.length:=by omega
  have ha:ps[ps.length-1-i]? =some (ps[ps.length-1-i]'omQ):=iW _;have hx:lv[ps.length-1-i]? =some (lv[ps.length-1-i]'omQ):=iW _;generalize ps[ps.length-1-i]'omQ=a at ha;have hx2:lv.reverse[i]? =some (lv[ps.length-1-i]'omQ):=by rw[List.getElem?_reverse hi,← hx,e]
  generalize lv[ps.length-1-i]'omQ=x at hx hx2;refine zJ (H.sl e_1) (by rw[Gb omQ,ha];rfl) ?_;obtain⟨T,s⟩:=Kt (R:=R) ha hx;obtain⟨w,fv,H3⟩:=LvC.E (H.sel (.there (.there s)));refine qW (qQ (qK ‹_› .here rfl ?_));refine qG (qv2 omQ (H3.sel e_1)) ?_;rintro _ _ ⟨rfl,rfl⟩;have h2:=hsum i;have h3:=hsum (i+1);have h4:((lv.reverse.take (i+1)).map λx=>x.1.length).sum=((lv.reverse.take i).map λx=>x.1.length).sum+x.1.length:=by rw[List.take_add_one,hx2,Option.toList_some,List.map_append,List.sum_append];simp
  refine zQ omQ (qc omQ (hih (lv.length-(i+1)) _ _ omQ ⟨i+1,?_,by omega,rfl,rfl⟩));rw[h4];refine Prod.ext ?_ (Prod.ext rfl (Prod.ext rfl (Prod.ext ?_ rfl)))
  ·show AV.int _ _=AV.int _ _
   congr 1
  ·show AV.int _ _=AV.int _ _
   congr 1
   omega
 ·have h2:=hsum i;rw[List.drop_of_length_le (by simp;omega)]at h2;rw[show((lv.reverse.take i).map λx=>x.1.length).sum=yb lv by simpa using h2]
theorem qXE {k b0 l:Nat} {v:AV} {ps:List Nat} {Inv:Nat→AH→Prop} {Fin:AH→Prop}
  (hrd:∀i h,Inv i h→h.at b0 0=some v∧Sl (λ_=>True) h 1 ps.length v (x8 ps))
  (hy:∀i a h,ps[i]? =some a→Inv i h→wp (callT tab qz k (.yield l) [.int .i64 ((ps.length-1-i:Nat):Int),.ptr a 0] h) λr h'=>(r=.bool true∧Inv (i+1) h')∨(r=.bool false∧Fin h'))
  (hl:ps.length<1000000) (h0:Inv 0 h):wp (callT tab qz (k+1) (.fn 198 [] [.ptr b0 0]) [.yield l] h) λ_ h'=>Inv ps.length h'∨Fin h':=by
 refine qgp (g:=(tD2 S198)) rfl omQ λk' hk=>?_;obtain rfl:k'=k:=by omega
 show wp (S198 _ _ _ _).1 _;unfold S198
 try simp only[iI,uU,iZ]
 obtain⟨r1,r2⟩:=hrd 0 h h0;refine Qp r1 (xW r2 (zQ omQ ?_));refine jN (λm s h'=>∃i:Nat,s=(.int .i64 ((ps.length:Int)-((1:Nat):Int)-(i:Int)),.ptr b0 0,.yield l,())∧i≤ps.length∧m=ps.length-i∧Inv i h') ?_ (m:=ps.length) (by show _<1000000000;omega) ⟨0,by simp,by omega,by omega,h0⟩;rintro m ih s h' hih ⟨i,rfl,h1,rfl,hI⟩;dsimp only;obtain⟨r1,r2⟩:=hrd i h' hI;refine yY (λhlt=>qZ ?_) λhge=>qJ (qk (qj (.inl ?_)))
 ·have hi:i<ps.length:=by omega
  have ha:ps[i]? =some ps[i]:=iW hi;rw[show(ps.length:Int)-((1:Nat):Int)-(i:Int)=((ps.length-1-i:Nat):Int) by omega];refine Qp r1 (zJ r2 (by rw[Gb omQ,show ps.length-1-(ps.length-1-i)=i by omega,ha];rfl) ?_);refine qG (hy i _ h' ha hI) ?_;rintro _ h2 (⟨rfl,hI2⟩ |⟨rfl,hF⟩)
  ·refine jX (qJ (zQ omQ (hih (ps.length-(i+1)) _ _ omQ ⟨i+1,?_,by omega,rfl,hI2⟩)));refine Prod.ext ?_ rfl;show AV.int _ _=AV.int _ _
   congr 1
   omega
  ·exact jV (qZ (qk (qj (.inr hF))))
 ·obtain rfl:i=ps.length:=by omega
  exact hI
theorem qKN {p:Int}:∀{lv:List LvM},(∀(j:Nat) x,lv[j]? =some x→zj p x.1=none)→Y9 p lv=none:=by
 intro lv
 induction lv with
 |nil=>intro _;rfl
 |cons x r ih=>intro h;unfold Y9;rw[h 0 x rfl];exact ih λj y hy=>h (j+1) y (by simpa using hy)
theorem qGm {p v:Int}:∀{lv:List LvM} {i:Nat} {x:LvM},(∀j,j<i→∀x,lv[j]? =some x→zj p x.1=none)→lv[i]? =some x→zj p x.1=some v→Y9 p lv=some v:=by
 intro lv
 induction lv with
 |nil=>intro i x _ h;simp at h
 |cons y r ih=>
  intro i x h1 h2 h3;unfold Y9;cases i with
  |zero=>simp at h2;subst h2;rw[h3]
  |succ i=>rw[h1 0 omQ y rfl];exact ih (i:=i) (x:=x) (λj hj z hz=>h1 (j+1) omQ z (by simpa using hz)) (by simpa using h2) h3
theorem OkL.len {most:Nat} {lv:List LvM} (O:OkL most lv) {x:LvM} (hx:x∈lv):x.1.length≤96:=by
 have h1:=O.held;have h2:=O.le;have:x.1.length≤yb lv:=by
  clear h1 O
  induction lv with
  |nil=>cases hx
  |cons y r ih=>
   rw[xZ];rcases List.mem_cons.1 hx with rfl |hx
   ·omega
   ·have:=ih hx;omega
 omega
theorem Kk {n:Nat} (hn:1≤n) {v:AV} (h1:One v) (H:HS g h L):t_w n 143 [v] h λr h'=>∃b,r=.fn 198 [] [.ptr b 0]∧HS g h' (qg b [v]::L):=by
 refine t_e1 (S:=S143) rfl omQ λk hk=>?_;unfold S143;try simp only[iZ]
 exact XM H h1 λb h2 H2=>qj ⟨b,rfl,H2⟩
theorem qk1 {n q most:Nat} (hn:8≤n) {lv:List LvM} {p:Int} (H:HS g h (LgC q most lv::R)) (O:OkL most lv) :
  t_w n 148 [.ptr q 0,.int .i64 p] h λv h'=>v=.tup [.int .u64 ((Y9 p lv).getD 0),.bool (Y9 p lv).isSome]∧HS g h' (LgC q most lv::R):=by
 (refine qB (g:=W148) rfl omQ λk hk=>?_;show wp (S148 (callT tab qz k) _ _ _) _;unfold S148;try simp only[iI,uU,iZ])
 obtain⟨v,ps,e,H⟩:=LgC.E H;have hd:=O.deep;refine XM H ⟨rfl,rfl⟩ λb1 h1 H=>XM H ⟨rfl,rfl⟩ λb2 h2 H=>XM H ⟨rfl,rfl⟩ λb3 h3 H=>?_;refine qW (qQ (qK ‹_› e_3 rfl ?_));refine qG (Kk omQ (H.one e_4) H) ?_;rintro _ h4 ⟨b4,rfl,H⟩;have H5:=(H.newBlk .dfd).newBlk (.loop .ready none 148 [1,0,1,0] [5,4,3] [.ptr b3 0,.ptr b2 0,.ptr b1 0] h4.nx);generalize(h4.new .dfd).nx=l at H5 ⊢;generalize h4.nx=d at H5 ⊢;obtain⟨k2,rfl⟩:∃k2,k=k2+1:=⟨k-1,by omega⟩
 refine Zs (qXE (b0:=b4) (v:=v) (ps:=ps)
  (Inv:=λi h'=>HS g h' (kg l (.loop .ready none 148 [1,0,1,0] [5,4,3] [.ptr b3 0,.ptr b2 0,.ptr b1 0] d)::kg d .dfd::qg b4 [v]::qg b3 [.bool false]::qg b2 [.int .u64 ((0:Nat):Int)]::qg b1 [.int .i64 p]::
   qg q [.int .i64 (most:Int),v]::qy 224 1 lv.length v (x8 ps)::(List.zipWith LvC ps lv++R))∧∀j,j<i→∀x,lv[j]? =some x→zj p x.1=none)
  (Fin:=λh'=>∃x,Y9 p lv=some x∧HS g h' (kg l (.loop .done (some .ret) 148 [1,0,1,0] [5,4,3] [.ptr b3 0,.ptr b2 0,.ptr b1 0] d)::kg d .dfd::qg b4 [v]::qg b3 [.bool true]::qg b2 [.int .u64 x]::qg b1 [.int .i64 p]::
   qg q [.int .i64 (most:Int),v]::qy 224 1 lv.length v (x8 ps)::(List.zipWith LvC ps lv++R)))
  ?_ ?_ omQ ⟨H5,λj hj=>by omega⟩) ?_
 ·rintro i h' ⟨H,_⟩;obtain⟨et,A⟩:=H.obj (b:=b4) e_2;exact⟨A.at 0,e▸H.sl e_7⟩
 ·rintro i a h' ha ⟨H,hno⟩;have hi:=(List.getElem?_eq_some_iff.1 ha).1;have hx:lv[i]? =some (lv[i]'omQ):=iW _;have hm:lv[i]'omQ∈lv:=List.getElem_mem _;generalize lv[i]'omQ=x at hx hm;have hxl:=O.len hm;refine Zm (H.blk .here) (w:=V1) rfl omQ λk3 hk3=>?_;show wp (B1 _ _ _ _ _ (.int .i64 ((ps.length-1-i:Nat):Int)) _ _) _;unfold B1
  try simp only[iI,uU,iZ]
  refine ZM H .here λh6 H=>?_;obtain⟨T,s⟩:=Kt (R:=R) ha hx;obtain⟨w,fv,H7⟩:=LvC.E (H.sel (.there (.there (.there (.there (.there (.there (.there (.there s)))))))));refine qW (qQ (qK ‹_› .here rfl ?_));refine qK ‹_› e_8 rfl ?_;refine qG (qKA omQ (H7.sel e_1) omQ) ?_;rintro _ h8 ⟨rfl,H8⟩;refine qA rfl ?_;refine qA rfl ?_;cases hg:zj p x.1 with
  |none=>
   refine qJ (qXu H8 e_3 λh9 H9=>.inl ⟨rfl,?_,λj hj y hy=>?_⟩)
   ·have H10:=LvC.I (a:=a) (w:=w) (fv:=fv) (x:=x) (H9.sub (.cons e_2 (.cons e_1 (.cons e_1 .refl))));exact HS.unsel (.there (.there (.there (.there (.there (.there (.there (.there s)))))))) (H10.sub (.refl))
   ·by_cases hj':j<i
    ·exact hno j hj' y hy
    ·obtain rfl:j=i:=by omega
     rw[hx]at hy;cases hy;exact hg
  |some z=>refine qZ (qw H8 (b:=b2) e_7 ⟨rfl,rfl⟩ osQ λh9 H9=>qw H9 (b:=b3) e_7 ⟨rfl,rfl⟩ osQ λh10 H10=>qvs H10 e_5 λh11 H11=>.inr ⟨rfl,z,qGm hno hx hg,?_⟩);have H12:=LvC.I (a:=a) (w:=w) (fv:=fv) (x:=x) (H11.sub (.cons e_4 (.cons e_3 (.cons e_3 .refl))));exact HS.unsel (.there (.there (.there (.there (.there (.there (.there (.there s)))))))) (H12.sub (.cons .here (.cons .here (.cons e_2 (.cons e_2 (.cons .here (.cons .here (.refl))))))))
 ·rintro _ h6 (⟨H,hno⟩ |⟨x,hx,H⟩)
  ·have hg:Y9 p lv=none:=qKN λj x hj=>hno j (by have:=(List.getElem?_eq_some_iff.1 hj).1;omega) x hj;refine Nn H .here (λh=>by cases h) λh7 H=>ZF (qw H (b:=b2) e_4 ⟨rfl,rfl⟩ osQ λh8 H=>qw H (b:=b3) e_4 ⟨rfl,rfl⟩ osQ λh9 H=>Gf H e_3 λh10 H=>?_);refine qK ‹_› e_2 rfl ?_;refine qK ‹_› e_1 rfl ?_;refine qj ⟨by rw[hg];rfl,?_⟩;exact LgC.I (v:=v) (ps:=ps) e (H.sub (.cons e_6 (.cons e_6 (.drop (.drop (.drop (.drop (.drop (.drop (.refl))))))))))
  ·refine Nn H .here (λh=>by cases h) λh7 H=>qj5 (qw0 rfl (Gf H e_1 λh8 H=>?_));refine qK ‹_› e_4 rfl ?_;refine qK ‹_› e_3 rfl ?_;refine qj ⟨by rw[hx];rfl,?_⟩;exact LgC.I (v:=v) (ps:=ps) e (H.sub (.cons e_6 (.cons e_6 (.drop (.drop (.drop (.drop (.drop (.drop (.refl))))))))))
theorem qwh {x:LvM} {r:List LvM} {most:Nat} {p v:Int} (O:OkL most (x::r)) (hp:¬(p<1∨256≤p)) (hf:¬(zj p x.1=none∧most≤yb (x::r))):Xn 96 x.1 p v=(0,yp p v x.1):=by have h1:=O.held;have h2:=O.le;rw[xZ]at h1 hf;unfold Xn;rw[iQ hp,iQ (λh=>hf ⟨h.1,by omega⟩)]
theorem qXH {n q most:Nat} (hn:5≤n) {lv:List LvM} {p v:Int} (H:HS g h (LgC q most lv::R)) (O:OkL most lv) :
  t_w n 202 [.ptr q 0,.int .i64 p,.int .u64 v] h λr h'=>r=.int .i64 (vn most lv p v).1∧HS g h' (LgC q most (vn most lv p v).2::R):=by
 cases lv with
 |nil=>have:=O.one;simp at this
 |cons x r=>
 have hxl:=O.len (x:=x) (iK ..);refine t_e3 (S:=S202) rfl omQ λk hk=>?_;unfold S202;try simp only[iZ]
 unfold vn;by_cases hp:p<1∨256≤p
 ·simp only[iJ hp]
  repeat' (first |with_reducible refine qZ ?_ |with_reducible refine qJ ?_ |(with_reducible refine qa ?_;try dsimp only) |(with_reducible refine qo ?_;try dsimp only) |(with_reducible refine qS ?_;try dsimp only) |(with_reducible refine qd ?_;try dsimp only) |(with_reducible refine jt ?_;try dsimp only) |with_reducible refine qF ?_ |with_reducible refine qI ?_ |(with_reducible refine qV ?_;try dsimp only) |with_reducible refine qk ?_ |with_reducible refine jX ?_ |with_reducible refine jV ?_ |with_reducible refine qc omQ ?_ |with_reducible refine zQ omQ ?_ |with_reducible refine xd omQ ?_ |with_reducible refine yK omQ ?_ |with_reducible refine zX ?_ |with_reducible refine zC ?_ |with_reducible refine qx omQ ?_ |with_reducible refine qX omQ ?_ |with_reducible refine jj omQ ?_ |with_reducible refine jY omQ ?_ |with_reducible refine jd omQ ?_ |with_reducible refine jH omQ ?_ |with_reducible refine Jk omQ ?_ |with_reducible refine XH omQ ?_ |with_reducible refine yB omQ ?_ |with_reducible refine yV omQ ?_ |with_reducible refine zO omQ ?_ |with_reducible refine zN omQ ?_ |with_reducible refine zy (λhc=>?_) (λhc=>?_) |with_reducible refine wP (λhc=>?_) (λhc=>?_) |with_reducible refine wR (λhc=>?_) (λhc=>?_) |with_reducible refine yY (λhc=>?_) (λhc=>?_) |with_reducible refine vU (λhc=>?_) (λhc=>?_) |with_reducible refine yS (λhc=>?_) (λhc=>?_) |with_reducible refine gT (λhc=>?_) (λhc=>?_))
  all_goals exact qj ⟨rfl,H⟩
 simp only[iQ hp];refine jH omQ ?_;refine qV ?_;(try dsimp only);refine qd ?_;(try dsimp only);refine zN omQ ?_;refine qI (qJ ?_)
 have hH:=H;obtain⟨sv,a,ps,e,H⟩:=LgC.E1 H;rw[← e]at H;refine qG (Yy omQ H .here e_1 (by have:=O.deep;simp at this;omega)) ?_;rintro _ _ ⟨rfl,rfl⟩;obtain⟨w,fv,H2⟩:=LvC.E (H.sel e_2);refine qW (qQ (qK ‹_› .here rfl ?_));refine qG (qKA omQ (H2.sel e_1) omQ) ?_;rintro _ h3 ⟨rfl,H3⟩;refine qA rfl ?_;refine qA rfl ?_;have H4:HS g h3 (LgC q most (x::r)::R):=by have H4:=LvC.I (a:=a) (w:=w) (fv:=fv) (x:=x) (H3.sub (.cons e_1 (.cons .here .refl)));refine LgC.I1 (v:=sv) (a:=a) (ps:=ps) e ?_;rw[← e];exact H4.sub (.cons e_1 (.cons e_1 (.refl)))
 have fin:¬(zj p x.1=none∧most≤yb (x::r))→∀h5,HS g h5 (WrC w 96 x.1::qg a [.ptr w 0,fv]::qy 3 1 x.2.length fv (x.2.map (.int .i64))::qg q [.int .i64 (most:Int),sv]::qy 224 1 (ps.length+1) sv (x8 (a::ps))::(List.zipWith LvC ps r++R))→
   t_w k 199 [.ptr w 0,.int .i64 p,.int .u64 v] h5 λr' h'=>r'=.int .i64 0∧HS g h' (LgC q most ((yp p v x.1,x.2)::r)::R):=by
  intro hf h5 H5;refine(qXP omQ H5 omQ).mono ?_;rintro _ h6 ⟨rfl,H6⟩;rw[qwh O hp hf]at H6 ⊢;refine⟨rfl,LgC.I1 (v:=sv) (a:=a) (ps:=ps) e ?_⟩;rw[← e];have H7:=LvC.I (a:=a) (w:=w) (fv:=fv) (x:=(yp p v x.1,x.2)) (H6.sub (.cons e_1 (.cons .here .refl)));exact H7.sub (.cons e_1 (.cons e_1 (.refl)))
 cases hg:zj p x.1 with
 |some z=>
  simp only[Option.isSome_some];refine jX (qV ?_);(try dsimp only);refine qS ?_;(try dsimp only);refine qI (qJ ?_)
  rw[iQ (λh=>by cases h.1)];refine qG (fin (λh=>by rw[hg]at h;cases h.1) h3 (H3.sub (.refl))) ?_;rintro _ h6 ⟨rfl,H6⟩;exact qj ⟨rfl,H6⟩
 |none=>
  simp only[Option.isSome_none];refine jV (qV ?_);(try dsimp only);refine qa ?_;(try dsimp only)
  refine qG (qq4 omQ H4 O) ?_;rintro _ _ ⟨rfl,rfl⟩;have hh:=O.held;refine vU (λh0=>?_) λh0=>?_
  ·refine qF (qZ ?_);rw[iJ ⟨by trivial,by omega⟩];exact qj ⟨rfl,H4⟩
  ·refine qF (qJ ?_);rw[iQ (λh=>h0 omQ)];refine qG (fin (λh=>h0 omQ) _ (H3.sub (.refl))) ?_;rintro _ h6 ⟨rfl,H6⟩;exact qj ⟨rfl,H6⟩
theorem G3 {most:Nat} {x:LvM} {r:List LvM} {p v:Int}:∃c,(vn most (x::r) p v).2=(c,x.2)::r:=by
 unfold vn;dsimp only
 split
 ·exact⟨x.1,rfl⟩
 ·split
  ·exact⟨x.1,rfl⟩
  ·exact⟨_,rfl⟩
theorem qqU {n q most:Nat} (hn:7≤n) {lv:List LvM} {cs:List Cl} {c:AV} (H:HS g h (LgC q most lv::R)) (O:OkL most lv) (S:Rd g R 2 cs.length c (cs.flatMap jA)) (hc:cs.length<100000) :
  t_w n 149 [.ptr q 0,c] h λr h'=>r=.int .i64 (vO most lv lv cs).1∧HS g h' (LgC q most (vO most lv lv cs).2::R):=by
 cases lv with
 |nil=>have:=O.one;simp at this
 |cons x r=>
 have hxl:=O.len (x:=x) (iK ..);have hxi:=O.ins x (iK ..);have hxu:=O.un x (iK ..);refine t_e2 (S:=S149) rfl omQ λk hk=>?_;unfold S149;try simp only[iZ]
 refine qG (Ow (m:=96) omQ omQ H) ?_;rintro _ h1 ⟨w0,rfl,H1⟩;obtain⟨sv,a,ps,e,H2⟩:=LgC.E1 (H1.sel e_1);rw[← e]at H2;refine qG (Yy omQ H2 .here e_1 (by have:=O.deep;simp at this;omega)) ?_;rintro _ _ ⟨rfl,rfl⟩;obtain⟨w,fv,H3⟩:=LvC.E (H2.sel e_2);refine qW (qQ (qK ‹_› .here rfl ?_));refine qG (Y3 omQ (H3.sel (P:=WrC w 96 x.1) e_1) omQ) λva h4 H4=>?_;refine qG (Yi (cs:=x.1) (l:=[]) (m:=96) (w:=w0) omQ (H4.sel (.there (.there (.there (.there (.there (.there (Sel.skip _ .here))))))))  (.own .here) osQ omQ) ?_;rintro _ h5 ⟨_,H5⟩;have ht:kZ 96 [] x.1=(0,x.1):=by unfold kZ;rw[Yo hxi (by simpa using hxl),MO hxu,iJ rfl]
 rw[ht]at H5;have H6:HS g h5 (LgC q most (x::r)::WrC w0 96 x.1::R):=by have H7:=LvC.I (a:=a) (w:=w) (fv:=fv) (x:=x) (H5.sub (.cons e_3 (.cons e_2 (.cons e_2 .refl))));refine LgC.I1 (v:=sv) (a:=a) (ps:=ps) e ?_;rw[← e];have H8:HS g h5 (WrC w0 96 x.1::(qg q [.int .i64 (most:Int),sv]::qy 224 1 (ps.length+1) sv (x8 (a::ps))::LvC a x::List.zipWith LvC ps r)++R):=H7.sub (.cons e_1 (.cons e_2 (.cons e_2 (.cons .here (.drop .refl)))));exact HS.back H8
 clear H1 H2 H3 H4 H5;refine xW (S.sl H6.drop.drop) ?_
 refine jN (λk s h'=>∃(i:Nat) (c':List Cl),s=(.int .i64 (i:Int),.int .i64 (cs.length:Int),c,.ptr w0 0,.ptr q 0,())∧i≤cs.length∧k=cs.length-i∧OkL most ((c',x.2)::r)∧
  HS g h' (LgC q most ((c',x.2)::r)::WrC w0 96 x.1::R)∧vO most (x::r) (x::r) cs=vO most (x::r) ((c',x.2)::r) (cs.drop i)) ?_ (m:=cs.length) (by show _<1000000000;omega) ⟨0,x.1,rfl,by omega,by omega,O,H6,rfl⟩
 rintro k2 ih s h2 hih ⟨i,c',rfl,h1,rfl,O',H,hT⟩;dsimp only;refine zy (λhlt=>qZ ?_) λhge=>qJ (qk (qj ?_))
 ·have hi:i<cs.length:=by omega
  have hci:cs[i]? =some cs[i]:=iW hi;refine zU (l:=jA cs[i]) (S.sl H.drop.drop) hi omQ (GS hci) ?_;refine qO H rfl λb h3 H3=>qe H3 .here rfl (by show 0+2≤2;omega) rfl λh4 H4=>?_;have H5:HS g h4 (qg b (jA cs[i])::LgC q most ((c',x.2)::r)::WrC w0 96 x.1::R):=H4;unfold jA at H5;refine qQ (qK ‹_› .here rfl ?_);refine qQ (qK ‹_› .here rfl ?_);refine qG (qXH omQ H5.drop O') ?_;rintro _ h6 ⟨rfl,H6⟩;rw[List.drop_eq_getElem_cons hi,vr]at hT;have O2:=(NO (p:=cs[i].1) (v:=cs[i].2) O').1;obtain⟨c2,hc2⟩:=G3 (most:=most) (x:=(c',x.2)) (r:=r) (p:=cs[i].1) (v:=cs[i].2);refine yS (λhne=>qZ ?_) λhe=>qJ (qc omQ ?_)
  ·have hne:¬(vn most ((c',x.2)::r) cs[i].1 cs[i].2).1=0:=by simpa using hne
   rw[iQ hne]at hT;rw[hc2]at H6;obtain⟨sv,a,ps,e,H7⟩:=LgC.E1 H6;rw[← e]at H7;refine qG (Yy omQ H7 .here e_1 (by have:=O.deep;simp at this;omega)) ?_;rintro _ _ ⟨rfl,rfl⟩;obtain⟨w,fv,H8⟩:=LvC.E (H7.sel e_2);refine qW (qQ (qw H8 .here ⟨rfl,rfl⟩ osQ λh9 H9=>qk (qj ?_)));rw[hT];refine⟨rfl,LgC.I1 (v:=sv) (a:=a) (ps:=ps) e ?_⟩;rw[← e];obtain⟨T,sT,uT⟩:∃T,Sel (List.zipWith LvC ps r++WrC w0 96 x.1::R) (WrC w0 96 x.1) T∧T=List.zipWith LvC ps r++R:=⟨_,Sel.skip _ .here,rfl⟩;subst uT;have H10:=LvC.I (a:=a) (w:=w0) (fv:=fv) (x:=x) (H9.sub (.cons .here (.cons (.there (.there (.there (.there sT)))) (.cons e_1 (.drop .refl)))));exact H10.sub (.cons e_1 (.cons e_1 (.refl)))
  ·have he':(vn most ((c',x.2)::r) cs[i].1 cs[i].2).1=0:=by simpa using he
   rw[iJ he',hc2]at hT;rw[hc2]at H6 O2;exact hih (cs.length-(i+1)) _ _ omQ ⟨i+1,c2,rfl,by omega,rfl,O2,H6,hT⟩
 ·rw[List.drop_of_length_le omQ]at hT;have hT:vO most (x::r) (x::r) cs=(0,(c',x.2)::r):=hT;rw[hT];exact⟨rfl,H.sub (.cons .here (.drop .refl))⟩
theorem Ur (a:Nat) (ps:List Nat):x8 (a::ps)=x8 ps++[.ptr a 0]:=by unfold x8;rw[List.reverse_cons,List.map_append];rfl
theorem Mk (ps:List Nat):(x8 ps).length=ps.length:=by simp[x8]
theorem qqr {n q most:Nat} (hn:3≤n) {lv:List LvM} (H:HS g h (LgC q most lv::R)) (O:OkL most lv) :
  t_w n 291 [.ptr q 0] h λv h'=>v=.int .i64 (ko lv).1∧HS g h' (LgC q most (ko lv).2::R):=by
 refine t_e1 (S:=S291) rfl omQ λk hk=>?_;unfold S291;try simp only[iZ]
 have hH:=H;obtain⟨v,ps,e,H⟩:=LgC.E H;unfold ko;by_cases h6:6≤lv.length
 ·rw[iJ h6];refine qW (qQ (qK ‹_› .here rfl ?_));refine qi ‹_› e_1 ?_;refine zO omQ ?_;refine qZ ?_;exact qj ⟨rfl,hH⟩
 ·rw[iQ h6];refine qW (qQ (qK ‹_› .here rfl ?_));refine qi ‹_› e_1 ?_;refine zN omQ ?_;refine qJ (qV ?_);(try dsimp only);refine qW (qQ (qK ‹_› .here rfl ?_))
  refine qG (NA omQ H) ?_;rintro _ h2 ⟨a,rfl,H2⟩;refine qf (n:=1) (l:=[.ptr a 0]) (sz:=1) H2 rfl rfl rfl rfl λv3 h3 H3=>?_;refine jf (H3.sel e_3) (H3.sl .here) omQ omQ rfl λv4 h4 H4=>?_;refine qW (qQ (qw H4 (b:=q) e_3 (H4.one .here) osQ λh5 H5=>?_));refine qb ‹_› .here rfl ‹_› e_1 rfl (HS.lt ‹_› .here) ?_;refine qj ⟨rfl,LgC.I1 (v:=v4) (a:=a) (ps:=ps) e ?_⟩;rw[Ur];exact H5.sub (.cons .here (.cons .here (.cons e_1 (.drop (.refl)))))
theorem qQh {n q:Nat} (hn:1≤n) {m v:AV} {a:Nat} {ps:List Nat} (h1:1≤ps.length) (hl:ps.length<1000) (H:HS g h (qg q [m,v]::qy 224 1 (ps.length+1) v (x8 (a::ps))::R)) :
  t_w n 259 [.ptr q 0] h λr h'=>r=.int .i64 0∧∃v',HS g h' (qg q [m,v']::qy 224 1 ps.length v' (x8 ps)::R):=by
 refine t_e1 (S:=S259) rfl omQ λk hk=>?_;unfold S259;try simp only[iZ]
 refine qW (qQ (qK ‹_› .here rfl ?_));refine qi ‹_› e_1 ?_;refine qX omQ ?_;refine qJ (qW (qQ (qK ‹_› .here rfl ?_)));refine qW (qQ (qK ‹_› .here rfl ?_));refine qi ‹_› e_1 ?_;refine zQ omQ ?_;rw[show((ps.length+1:Nat):Int)-((1:Nat):Int)=((ps.length:Nat):Int) by omega];refine XC (H.sel e_1) omQ omQ λv' H2=>?_;refine qW (qQ (qw H2 (b:=q) e_1 (H2.one .here) osQ λh3 H3=>qj ⟨rfl,v',?_⟩));rw[Ur,Nat.mul_one,← Mk ps,List.take_left,Mk]at H3;exact H3.sub (.cons .here (.refl))
theorem Zv {n q most:Nat} (hn:1≤n) {lv:List LvM} (H:HS g h (LgC q most lv::R)) (O:OkL most lv) :
  t_w n 259 [.ptr q 0] h λv h'=>v=.int .i64 (kl lv).1∧HS g h' (LgC q most (kl lv).2::R):=by
 unfold kl;by_cases h1:lv.length=1
 ·rw[iJ h1];refine t_e1 (S:=S259) rfl omQ λk hk=>?_;unfold S259;try simp only[iZ]
  have hH:=H;obtain⟨v,ps,e,H⟩:=LgC.E H;refine qW (qQ (qK ‹_› .here rfl ?_));refine qi ‹_› e_1 ?_;refine qx omQ ?_;refine qZ ?_;exact qj ⟨rfl,hH⟩
 ·rw[iQ h1];cases lv with
  |nil=>have:=O.one;simp at this
  |cons x r=>
  have hd:=O.deep;simp at h1 hd;have h1':1≤r.length:=by cases r with |nil=>simp at h1 |cons _ _=>simp
  obtain⟨v,a,ps,e,H⟩:=LgC.E1 H;rw[← e]at H;refine(qQh hn omQ omQ H).mono ?_;rintro _ h2 ⟨rfl,v',H2⟩;refine⟨rfl,LgC.I (v:=v') (ps:=ps) e ?_⟩;show HS g h2 (_::qy 224 1 r.length v' _::(List.zipWith LvC ps r++R));rw[← e];exact H2.sub (.cons .here (.cons .here (.drop .refl)))
theorem qjf {n q most:Nat} (hn:6≤n) {lv:List LvM} (H:HS g h (LgC q most lv::R)) (O:OkL most lv) (hf:∀x∈lv,x.2.length<1000000) :
  t_w n 257 [.ptr q 0] h λv h'=>v=.int .i64 (Ql lv).1∧HS g h' (LgC q most (Ql lv).2::R):=by
 rcases lv with _ |⟨x,_ |⟨y,r⟩⟩
 ·have:=O.one;simp at this
 ·
  refine t_e1 (S:=S257) rfl omQ λk hk=>?_;unfold S257;try simp only[iZ]
  obtain⟨v,a,ps,e,H2⟩:=LgC.E1 H;rw[← e]at H2;refine qG (Yy omQ H2 .here e_1 (by simp at e;simp[e])) ?_;rintro _ _ ⟨rfl,rfl⟩;refine qG (Zv omQ H O) ?_;rintro _ h3 ⟨rfl,H3⟩;rw[show kl [x]=(10,[x])from rfl]at H3 ⊢;refine jj omQ ?_;refine qZ ?_;exact qj ⟨rfl,H3⟩
 ·
  have hx:=hf x osQ;have hy:=hf y osQ;have hxi:=O.ins x osQ;have hd:=O.deep;have hh:=O.held;have hle:=O.le;rw[xZ,xZ]at hh;simp at hd;refine t_e1 (S:=S257) rfl omQ λk hk=>?_;unfold S257;try simp only[iZ]
  obtain⟨v,a,ps,e,H2⟩:=LgC.E1 H;rw[← e]at H2;refine qG (Yy omQ H2 .here e_1 (by simp at e;omega)) ?_;rintro _ _ ⟨rfl,rfl⟩;simp at e;refine qG (qQh omQ omQ omQ H2) ?_;rintro _ h3 ⟨rfl,v',H3⟩;cases ps with
  |nil=>simp at e
  |cons b ps=>
  simp at e;refine jY omQ ?_;refine qJ (qG (Yy omQ H3 .here e_1 omQ) ?_);rintro _ _ ⟨rfl,rfl⟩;have H4:HS g _ (LvC b y::LvC a x::qg q [.int .i64 (most:Int),v']::qy 224 1 (ps.length+1) v' (x8 (b::ps))::(List.zipWith LvC ps r++R)):=H3.sub (.cons e_3 (.cons e_2 (.cons .here (.cons .here .refl))));obtain⟨w1,f1,H4⟩:=LvC.E H4;obtain⟨w2,f2,H5⟩:=LvC.E (H4.sel e_3);refine qW (qQ (qK ‹_› e_3 rfl ?_));refine qW (qQ (qK ‹_› .here rfl ?_));refine jf (H5.sel e_5) (H5.sl e_2) omQ omQ ?_ λv6 h6 H6=>?_
  ·simp[qm,AV.one]
  refine qW (qQ (qw H6 (b:=b) e_4 (H6.one .here) osQ λh7 H7=>?_));simp only[List.set_cons_zero,List.set_cons_succ]at H7;refine qV ?_;(try dsimp only);refine qW (qQ (qK ‹_› .here rfl ?_));refine qW (qQ (qK ‹_› e_2 rfl ?_))
  refine qG (Y3 omQ (H7.sel (P:=WrC w2 96 x.1) e_3) omQ) λv8 h8 H8=>?_;refine qG (Yi (cs:=x.1) (l:=y.1) (m:=96) (w:=w1) omQ (H8.sel (P:=WrC w1 96 y.1) e_6) (.own .here) omQ omQ) ?_;rintro _ h9 ⟨rfl,H9⟩;have ht:kZ 96 y.1 x.1=(0,yl y.1 x.1):=by unfold kZ;rw[Yo hxi omQ,iJ rfl]
  rw[ht]at H9 ⊢;refine qb ‹_› .here rfl ‹_› e_2 rfl (HS.lt ‹_› .here) ?_;refine qj ⟨rfl,LgC.I1 (v:=v') (a:=b) (ps:=ps) omQ ?_⟩;show HS g h9 (_::qy 224 1 (r.length+1) v' _::_);rw[← e];have H10:=LvC.I (a:=b) (w:=w1) (fv:=v6) (x:=(yl y.1 x.1,y.2++x.2)) (R:=qg q [.int .i64 (most:Int),v']::qy 224 1 (ps.length+1) v' (x8 (b::ps))::(List.zipWith LvC ps r++R))
   (by rw[List.map_append,List.length_append];exact H9.sub (.cons e_3 (.cons .here (.cons e_2 (.cons e_4 (.cons e_4 (.drop (.drop (.drop (.drop (.refl)))))))))))
  exact H10.sub (.cons e_1 (.cons e_1 (.refl)))
theorem JY:∀(lv:List LvM) (out:List Cl),(lv.foldl (λout x=>yl x.1 out) out).length≤out.length+yb lv:=by
 intro lv
 induction lv with
 |nil=>intro out;simp
 |cons x r ih=>intro out;have h1:=ih (yl x.1 out);have h2:=UW (cs:=out) (l:=x.1);rw[List.foldl_cons,xZ];omega
theorem Vs:∀(lv:List LvM) (out:List Cl),InC out→(∀x∈lv,InC x.1)→InC (lv.foldl (λout x=>yl x.1 out) out):=by
 intro lv
 induction lv with
 |nil=>intro out h _;exact h
 |cons x r ih=>intro out h hx;exact ih _ ((hx x (iK ..)).puts h) λy hy=>hx y (iX _ hy)
theorem qV5 (l1 l2:List LvM):yb (l1++l2)=yb l1+yb l2:=by simp[yb]
theorem qK2 {n q most:Nat} (hn:9≤n) {lv:List LvM} (H:HS g h (LgC q most lv::R)) (O:OkL most lv) :
  t_w n 94 [.ptr q 0] h λv h'=>HS g h' (qy 181 2 (jJ lv).length v ((jJ lv).flatMap jA)::LgC q most lv::R):=by
 (refine qB (g:=W94) rfl omQ λk hk=>?_;show wp (S94 (callT tab qz k) _ _) _;unfold S94;try simp only[iI,uU,iZ])
 obtain⟨v,ps,e,H⟩:=LgC.E H;have hd:=O.deep;have hle:=O.le;have hhe:=O.held;refine XM (H.nils (e:=181) (sz:=2)) ⟨rfl,rfl⟩ λb1 h1 H=>?_;refine qW (qQ (qK ‹_› e_2 rfl ?_));refine qG (Kk omQ (H.one e_3) H) ?_;rintro _ h4 ⟨b4,rfl,H⟩;have H5:=(H.newBlk .dfd).newBlk (.loop .ready none 94 [1,1,0,1,0] [3] [.ptr b1 0] h4.nx);generalize(h4.new .dfd).nx=l at H5 ⊢;generalize h4.nx=d at H5 ⊢;obtain⟨k2,rfl⟩:∃k2,k=k2+1:=⟨k-1,by omega⟩
 refine Zs (qXE (b0:=b4) (v:=v) (ps:=ps)
  (Inv:=λi h'=>∃ov,HS g h' (kg l (.loop .ready none 94 [1,1,0,1,0] [3] [.ptr b1 0] d)::kg d .dfd::qg b4 [v]::qg b1 [ov]::qy 181 2 (jJ (lv.take i)).length ov ((jJ (lv.take i)).flatMap jA)::
   qg q [.int .i64 (most:Int),v]::qy 224 1 lv.length v (x8 ps)::(List.zipWith LvC ps lv++R)))
  (Fin:=λ_=>False) ?_ ?_ omQ ⟨.nils,H5⟩) ?_
 ·rintro i h' ⟨ov,H⟩;obtain⟨et,A⟩:=H.obj (b:=b4) e_2;exact⟨A.at 0,e▸H.sl e_6⟩
 ·rintro i a h' ha ⟨ov,H⟩;have hi:=(List.getElem?_eq_some_iff.1 ha).1;have hx:lv[i]? =some (lv[i]'omQ):=iW _;have hm:lv[i]'omQ∈lv:=List.getElem_mem _;generalize lv[i]'omQ=x at hx hm;have hxl:=O.len hm;have hxi:=O.ins x hm;have hxu:=O.un x hm;have hml:(jJ (lv.take i)).length+x.1.length≤96:=by
   have h1:=JY (lv.take i) [];have h2:yb lv=yb (lv.take i)+(x.1.length+yb (lv.drop (i+1))):=by
    rw[← xZ,← qV5]
    congr 1
    have h3:lv.drop i=x::lv.drop (i+1):=by
     have hi':i<lv.length:=by omega
     rw[List.drop_eq_getElem_cons hi'];rw[iW hi']at hx;rw[Option.some.inj hx]
    rw[← h3,List.take_append_drop]
   unfold jJ;simp at h1;omega
  have hmi:InC (jJ (lv.take i)):=Vs _ _ (λc hc=>by cases hc) λy hy=>O.ins y (List.mem_of_mem_take hy);have hms:jJ (lv.take (i+1))=yl x.1 (jJ (lv.take i)):=by unfold jJ;rw[List.take_add_one,hx,Option.toList_some,List.foldl_append];rfl
  refine Zm (H.blk .here) (w:=V0) rfl omQ λk3 hk3=>?_;show wp (B0 _ _ _ (.int .i64 ((ps.length-1-i:Nat):Int)) _ _) _;unfold B0
  try simp only[iI,uU,iZ]
  refine ZM H .here λh6 H=>?_;refine qG (Ow (m:=96) omQ omQ H) ?_;rintro _ h7 ⟨w0,rfl,H⟩;obtain⟨T,s⟩:=Kt (R:=R) ha hx;obtain⟨w,fv,H7⟩:=LvC.E (H.sel (.there (.there (.there (.there (.there (.there (.there (.there s)))))))));refine qW (qQ (qK ‹_› .here rfl ?_));refine qG (Y3 omQ (H7.sel (P:=WrC w 96 x.1) e_1) omQ) λva h8 H8=>?_;refine qG (Yi (cs:=x.1) (l:=[]) (m:=96) (w:=w0) omQ (H8.sel (P:=WrC w0 96 []) e_4) (.own .here) osQ omQ) ?_;rintro _ h9 ⟨_,H9⟩;have ht:kZ 96 [] x.1=(0,x.1):=by unfold kZ;rw[Yo hxi (by simpa using hxl),MO hxu,iJ rfl]
  rw[ht]at H9;dsimp only at H9;refine qK ‹_› e_8 rfl ?_;have ht2:kZ 96 x.1 (jJ (lv.take i))=(0,yl x.1 (jJ (lv.take i))):=by unfold kZ;rw[Yo hmi omQ,iJ rfl]
  have S2:Rd g _ 2 (jJ (lv.take i)).length ov ((jJ (lv.take i)).flatMap jA):=H9.drop.rd (L:=qy 181 2 x.1.length va (x.1.flatMap jA)::WrC w 96 x.1::qg a [.ptr w 0,fv]::qy 3 1 x.2.length fv (x.2.map (.int .i64))::
   kg l (.loop .busy none 94 [1,1,0,1,0] [3] [.ptr b1 0] d)::kg d .dfd::qg b4 [v]::qg b1 [ov]::qy 181 2 (jJ (lv.take i)).length ov ((jJ (lv.take i)).flatMap jA)::
   qg q [.int .i64 (most:Int),v]::qy 224 1 lv.length v (x8 ps)::T) e_8
  refine qG (Yi omQ H9 S2 omQ omQ) ?_;rintro _ h10 ⟨_,H10⟩;rw[ht2]at H10;dsimp only at H10;have hpl:=UW (cs:=jJ (lv.take i)) (l:=x.1);refine qG (Y3 omQ H10 omQ) λvb h11 H11=>?_;refine qw H11 (b:=b1) e_9 (H11.one .here) osQ λh12 H12=>qXu H12 e_7 λh13 H13=>.inl ⟨rfl,vb,?_⟩;rw[hms]
  have H14:=LvC.I (a:=a) (w:=w) (fv:=fv) (x:=x) (R:=kg l (.loop .ready none 94 [1,1,0,1,0] [3] [.ptr b1 0] d)::kg d .dfd::qg b4 [v]::qg b1 [vb]::
   qy 181 2 (yl x.1 (jJ (lv.take i))).length vb ((yl x.1 (jJ (lv.take i))).flatMap jA)::qg q [.int .i64 (most:Int),v]::qy 224 1 lv.length v (x8 ps)::T) (H13.sub (.cons e_6 (.cons e_5 (.cons e_5 (.cons .here (.cons e_4 (.cons e_4 (.cons .here (.cons .here (.cons e_3 (.cons e_3 (.drop (.drop (.drop (.refl)))))))))))))))
  exact HS.unsel (.there (.there (.there (.there (.there (.there (.there s))))))) H14
 ·rintro _ h6 (⟨ov,H⟩ |hF)
  ·rw[List.take_of_length_le omQ]at H;refine Nn H .here (λh=>by cases h) λh7 H=>ZF ?_;refine qK ‹_› e_3 rfl ?_;refine Gf H e_1 λh10 H=>qj ?_
   exact(LgC.I (v:=v) (ps:=ps) e (HS.back (A:=_::_::List.zipWith LvC ps lv) (H.sub (L':=qy 181 2 (jJ lv).length ov ((jJ lv).flatMap jA)::qg q [.int .i64 (most:Int),v]::
    qy 224 1 lv.length v (x8 ps)::(List.zipWith LvC ps lv++R)) (.cons e_4 (.cons e_4 (.cons e_4 (.drop (.drop (.drop (.drop (.refl))))))))))).sub (.cons e_1 (.refl))
  ·exact hF.elim
end Go.Proofs.YtnalffoigcmnnabGreatDoor
namespace Go.Proofs.YtnalffoigcmnnabGreatDoor
open Go Go.Ae
set_option maxRecDepth 100000
variable {g h:AH} {L R:List SP}
structure VM where
  sz:Nat
  K:List Cl
  most:Nat
  lv:List LvM
  need:Int
structure OkV (M:VM):Prop where
  lo:32≤M.sz
  hi:M.sz≤256
  lvs:OkL M.most M.lv
  ins:∀c∈M.K,1≤c.1∧c.1<M.sz
  un:UnC M.K
  fr:∀x∈M.lv,x.2.length<100000
def z6 (M:VM) (p x:Int):Int×VM :=
 if 1≤p∧p<M.sz then match zj p M.K with
  |some y=>(if y=x then 0 else 14,M)
  |none=>(0,{ M with K:=M.K++[(p,x)] })
 else(2,M)
def qh (M:VM) (p:Int):(Int×Int)×VM :=
 if 1≤p∧p<M.sz then match Y9 p M.lv with
  |some x=>((x,0),M)
  |none=>match zj p M.K with
   |some x=>((x,0),M)
   |none=>((0,11),{ M with need:=p })
 else((0,2),M)
def zz (M:VM) (cs:List Cl):Int×VM :=
 if∀c∈cs,1≤c.1∧c.1<M.sz then((vO M.most M.lv M.lv cs).1,{ M with lv:=(vO M.most M.lv M.lv cs).2 })else(2,M)
def freeV (M:VM) (b:Int):VM:={ M with lv:=Jt M.lv b }
def y8 (M:VM):Int×VM:=((ko M.lv).1,{ M with lv:=(ko M.lv).2 })
def xO (M:VM):Int×VM:=((kl M.lv).1,{ M with lv:=(kl M.lv).2 })
def vA (M:VM):Int×VM:=((Ql M.lv).1,{ M with lv:=(Ql M.lv).2 })
theorem Yr:∀(n:Nat) (l:List Int),l.Nodup→(∀x∈l,0≤x∧x<n)→l.length≤n:=by
 intro n
 induction n with
 |zero=>
  intro l _ h;cases l with
  |nil=>exact Nat.le_refl _
  |cons x l=>have:=h x (iK ..);omega
 |succ n ih=>
  intro l hd h;by_cases hx:(n:Int)∈l
  ·have:=ih (l.erase n) (hd.erase _) (λx hx'=>by
    have h1:=h x (List.mem_of_mem_erase hx');have h2:x≠n:=by rintro rfl;exact(List.Nodup.not_mem_erase hd) hx'
    omega)
   rw[List.length_erase_of_mem hx]at this;omega
  ·have:=ih l hd (λx hx'=>by
    have h1:=h x hx';have h2:x≠n:=by rintro rfl;exact hx hx'
    omega)
   omega
theorem OkV.klen {M:VM} (O:OkV M):M.K.length≤256:=by
 have hu:(M.K.map (·.1)).Nodup:=O.un
 have:=Yr M.sz _ hu (λx hx=>by
  obtain⟨c,hc,rfl⟩:=List.mem_map.1 hx;have:=O.ins c hc
  omega)
 rw[List.length_map]at this;have:=O.hi;omega
def QF (f:Int×Bool):List AV:=[.int .u64 f.1,.bool f.2]
def gj (K:List Cl) (i:Nat):Int×Bool:=match zj (i:Int) K with |some x=>(x,true) |none=>(0,false)
def yU (sz:Nat) (K:List Cl):List (Int×Bool):=(List.range sz).map (gj K)
theorem JB (sz:Nat) (K:List Cl):(yU sz K).length=sz:=by simp[yU]
theorem kr {sz:Nat} {K:List Cl} {i:Nat} (hi:i<sz):(yU sz K)[i]? =some (gj K i):=by simp[yU,List.getElem?_range hi]
theorem gF {α:Type} {sz:Nat} {enc:α→List AV} (he:∀a,(enc a).length=sz) {l:List α} {i:Nat} {a:α} (h:l[i]? =some a):((l.flatMap enc).drop (i*sz)).take sz=enc a:=by obtain⟨hi,e⟩:=List.getElem?_eq_some_iff.1 h;rw[QT (sz:=sz) enc he,List.drop_eq_getElem_cons hi,e,List.flatMap_cons,← he a,List.take_left]
theorem NR {α:Type} {sz:Nat} {enc:α→List AV} (he:∀a,(enc a).length=sz) {l:List α} {i:Nat} {a:α} (hi:i<l.length):we (l.flatMap enc) (i*sz) (enc a)=(l.set i a).flatMap enc:=by
 have h1:(l.flatMap enc).take (i*sz)=(l.take i).flatMap enc:=by
  have e1:l.flatMap enc=(l.take i).flatMap enc++(l.drop i).flatMap enc:=by rw[← List.flatMap_append,List.take_append_drop]
  have e2:((l.take i).flatMap enc).length=i*sz:=by rw[Jc (sz:=sz) enc he,List.length_take,Nat.min_eq_left omQ]
  rw[e1,← e2,List.take_left]
 have h2:(l.flatMap enc).drop (i*sz+sz)=(l.drop (i+1)).flatMap enc:=by rw[show i*sz+sz=(i+1)*sz by rw[Nat.add_mul,Nat.one_mul],QT (sz:=sz) enc he]
 unfold we;rw[he,h1,h2,List.set_eq_take_append_cons_drop,iJ hi,List.flatMap_append,List.flatMap_cons,List.append_assoc]
theorem qVr {α:Type} {enc:α→List AV} {a:α}:∀n,vz (enc a) n=(List.replicate n a).flatMap enc:=by
 intro n
 induction n with
 |zero=>rfl
 |succ n ih=>rw[vz,ih,List.replicate_succ,List.flatMap_cons]
theorem qZd (sz:Nat):yU sz []=List.replicate sz (0,false):=by unfold yU;rw[show gj []=λ_=>((0,false):Int×Bool)from rfl,List.map_const',List.length_range]
theorem qZ2 {sz:Nat} {K:List Cl} {i:Nat} {x:Int} (hi:i<sz) (hn:zj (i:Int) K=none):yU sz (K++[((i:Int),x)])=(yU sz K).set i (x,true):=by
 have e:∀j:Nat,zj (j:Int) (K++[((i:Int),x)])=if j=i then some x else zj (j:Int) K:=by
  intro j;rw[← Qi hn,UI];by_cases h:j=i
  ·rw[iJ h,iJ (by rw[h])]
  ·rw[iQ h,iQ omQ]
 apply List.ext_getElem?;intro j;rw[List.getElem?_set,JB];by_cases hj:j<sz
 ·rw[kr hj];by_cases h:i=j
  ·subst h;rw[iJ rfl,iJ hi];unfold gj;rw[e,iJ rfl]
  ·rw[iQ h,kr hj];unfold gj;rw[e,iQ omQ]
 ·rw[List.getElem?_eq_none (by rw[JB];omega),iQ omQ,List.getElem?_eq_none (by rw[JB];omega)]
def ViewC (v:Nat) (M:VM):SP:=.ex λfv=>.ex λov=>.ex λq=>.ex λe=>.all [qg v [fv,ov,.ptr q 0,.int .i64 M.need],qy e 2 M.sz fv ((yU M.sz M.K).flatMap QF),
 qy 3 1 M.K.length ov (M.K.map λc=>.int .i64 c.1),LgC q M.most M.lv]
theorem ViewC.E {v:Nat} {M:VM} (H:HS g h (ViewC v M::R)):∃fv ov q e,HS g h (qg v [fv,ov,.ptr q 0,.int .i64 M.need]::qy e 2 M.sz fv ((yU M.sz M.K).flatMap QF)::
  qy 3 1 M.K.length ov (M.K.map λc=>.int .i64 c.1)::LgC q M.most M.lv::R):=by
 obtain⟨fv,H⟩:=H.exE;obtain⟨ov,H⟩:=H.exE;obtain⟨q,H⟩:=H.exE;obtain⟨e,H⟩:=H.exE;exact⟨fv,ov,q,e,H.allE⟩
theorem ViewC.I {v:Nat} {M:VM} {fv ov:AV} {q:Nat} {e:TypeId} (H:HS g h (qg v [fv,ov,.ptr q 0,.int .i64 M.need]::qy e 2 M.sz fv ((yU M.sz M.K).flatMap QF)::
  qy 3 1 M.K.length ov (M.K.map λc=>.int .i64 c.1)::LgC q M.most M.lv::R)):HS g h (ViewC v M::R) :=
 HS.exI fv (HS.exI ov (HS.exI q (HS.exI e (HS.allI H))))
def szZ (n:Int):Nat:=(max 32 (min n 256)).toNat
theorem NK (n:Int):32≤szZ n∧szZ n≤256:=by unfold szZ;omega
def QR (words most:Int):VM:=⟨szZ words,[],(max 0 (min most 96)).toNat,[([],[])],0⟩
theorem qKC {m:Nat} (hm:m≤96):OkL m [([],[])]:=⟨by simp[yb],hm,by intro x hx;simp at hx;subst hx;intro c hc;simp at hc,by intro x hx;simp at hx;subst hx;exact List.nodup_nil,by simp,by simp⟩
theorem qxe (words most:Int):OkV (QR words most) :=
 ⟨(NK _).1,(NK _).2,qKC (by show(max 0 (min most 96)).toNat≤96;omega),by intro c hc;simp[QR]at hc,List.nodup_nil,by intro x hx;simp[QR]at hx;subst hx;simp⟩
theorem qX8 {n:Nat} (hn:4≤n) {w m:Int} (H:HS g h R):t_w n 83 [.int .i64 w,.int .i64 m] h λr h'=>∃v,r=.ptr v 0∧HS g h' (ViewC v (QR w m)::R):=by
 refine t_e2 (S:=S83) rfl omQ λk hk=>?_;unfold S83;try simp only[iZ]
 refine zX (zC ?_);have hb:=NK w;rw[show max ((32:Nat):Int) (min w ((256:Nat):Int))=((szZ w:Nat):Int) by unfold szZ;omega];refine Y0 (sz:=2) H rfl (Nat.le_refl _) omQ λfv h2 H2=>?_;refine qG (qxu omQ H2) ?_;rintro _ h3 ⟨q,rfl,H3⟩;have h1:=H3.one e_1;refine qH (l:=[fv,.nils,.ptr q 0,.int .i64 0]) (by unfold yF;rw[h1.1];rfl) ?_;refine qO H3 (by show(fv.one&&(true&&(true&&(true&&true))))=true;rw[h1.2];rfl) λv h4 H4=>qj ⟨v,rfl,?_⟩;rw[List.take_of_length_le (by rw[wu];exact Nat.le_refl _),show vz [AV.int .u64 ((0:Nat):Int),AV.bool false] (szZ w)=(yU (szZ w) []).flatMap QF by rw[qZd,← qVr];rfl]at H4;exact ViewC.I (M:=QR w m) ((H4.nils (e:=3) (sz:=1)).sub (.cons e_1 (.cons e_2 (.cons .here (.cons .here (.refl))))))
theorem Gz {n:Nat} (hn:1≤n) {v:Nat} {M:VM} (H:HS g h (ViewC v M::R)):t_w n 84 [.ptr v 0] h λr h'=>r=.int .i64 (M.sz:Int)∧h'=h:=by
 refine t_e1 (S:=S84) rfl omQ λk hk=>?_;unfold S84;try simp only[iZ]
 obtain⟨fv,ov,q,e,H⟩:=ViewC.E H;refine qW (qQ (qK ‹_› .here rfl ?_));refine qi ‹_› e_1 ?_;exact qj ⟨rfl,rfl⟩
theorem ON {n:Nat} (hn:1≤n) {v:Nat} {M:VM} {p:Int} (H:HS g h (ViewC v M::R)):t_w n 126 [.ptr v 0,.int .i64 p] h λr h'=>r=.bool (decide (1≤p∧p<M.sz))∧h'=h:=by
 refine t_e2 (S:=S126) rfl omQ λk hk=>?_;unfold S126;try simp only[iZ]
 obtain⟨fv,ov,q,e,H⟩:=ViewC.E H;by_cases h1:1≤p
 ·refine zO omQ ?_;refine qV ?_;(try dsimp only);refine qa ?_;(try dsimp only);refine qW (qQ (qK ‹_› .here rfl ?_));refine qi ‹_› e_1 ?_
  refine YQ (qF (qj ⟨?_,rfl⟩))
  congr 1
  exact decide_eq_decide.2 ⟨λh2=>⟨h1,h2⟩,λh2=>h2.2⟩
 ·refine zN omQ ?_;refine qV ?_;(try dsimp only);refine qS ?_;(try dsimp only);refine qI ?_
  exact qj ⟨by rw[iV (λh2=>h1 h2.1)],rfl⟩
theorem VT {M:VM} {p x:Int} (O:OkV M):OkV (z6 M p x).2:=by
 unfold z6
 split
 ·rename_i hp
  split
  ·exact O
  ·rename_i hn;refine⟨O.lo,O.hi,O.lvs,?_,?_,O.fr⟩
   ·intro c hc;rcases List.mem_append.1 hc with hc |hc
    ·exact O.ins c hc
    ·rw[List.mem_singleton]at hc;subst hc;exact hp
   ·have:=O.un.put (p:=p) (v:=x);rw[Qi hn]at this;exact this
 ·exact O
theorem Z3 {n:Nat} (hn:2≤n) {v:Nat} {M:VM} {p x:Int} (H:HS g h (ViewC v M::R)) (O:OkV M) :
  t_w n 85 [.ptr v 0,.int .i64 p,.int .u64 x] h λr h'=>r=.int .i64 (z6 M p x).1∧HS g h' (ViewC v (z6 M p x).2::R):=by
 refine t_e3 (S:=S85) rfl omQ λk hk=>?_;unfold S85;try simp only[iZ]
 refine qG (ON omQ H) ?_;rintro _ _ ⟨rfl,rfl⟩;have hO:=O.hi;unfold z6;by_cases hp:1≤p∧p<M.sz
 ·rw[iJ hp];rw[iG hp];obtain⟨i,rfl⟩:∃i:Nat,p=(i:Int):=⟨p.toNat,by omega⟩;have hi:i<M.sz:=by omega
  have hH:=H;obtain⟨fv,ov,q,e,H⟩:=ViewC.E H;refine jX (qJ (qW (qQ (qK ‹_› .here rfl ?_))));refine zU (l:=QF (gj M.K i)) (H.sl e_1) hi omQ (gF (enc:=QF) (sz:=2) (λ_=>rfl) (kr hi)) ?_;refine qO H rfl λb h3 H3=>qe H3 .here rfl (by show 0+2≤2;omega) rfl λh4 H4=>?_
  have H5:HS g h4 (qg b (QF (gj M.K i))::qg v [fv,ov,.ptr q 0,.int .i64 M.need]::qy e 2 M.sz fv ((yU M.sz M.K).flatMap QF)::
   qy 3 1 M.K.length ov (M.K.map λc=>.int .i64 c.1)::LgC q M.most M.lv::R):=H4
  unfold QF at H5;cases hg:zj (i:Int) M.K with
  |some y=>
   rw[show gj M.K i=(y,true) by unfold gj;rw[hg]]at H5;refine qQ (qK ‹_› .here rfl ?_);refine qZ (qQ (qK ‹_› .here rfl ?_));have H6:=ViewC.I (H5.drop);by_cases hy:y=x
   ·refine jY omQ ?_;refine qJ (qj ⟨by dsimp only;rw[iJ hy];rfl,H6⟩)
   ·refine jj omQ ?_;refine qZ (qj ⟨by dsimp only;rw[iQ hy];rfl,H6⟩)
  |none=>
   rw[show gj M.K i=(0,false) by unfold gj;rw[hg]]at H5;have hkl:=O.klen;refine qQ (qK ‹_› .here rfl ?_);refine qJ (qW (qQ (qK ‹_› e_1 rfl ?_)));refine qH rfl ?_;refine qJ9 (l:=[.int .u64 x,.bool true]) (H5.drop.sel (P:=qy e 2 M.sz fv ((yU M.sz M.K).flatMap QF)) e_1) hi rfl rfl λh6 H6=>?_
   rw[show we ((yU M.sz M.K).flatMap QF) (i*2) [AV.int .u64 x,AV.bool true]=(yU M.sz (M.K++[((i:Int),x)])).flatMap QF by
    rw[qZ2 hi hg,← NR (enc:=QF) (sz:=2) (λ_=>rfl) (by rw[JB];exact hi)];rfl]at H6
   refine qW (qQ (qK ‹_› e_1 rfl ?_));refine qf (n:=1) (l:=[.int .i64 (i:Int)]) (sz:=1) H6 rfl rfl rfl rfl λv7 h7 H7=>?_;refine jf (H7.sel (P:=qy 3 1 M.K.length ov (M.K.map λc=>.int .i64 c.1)) e_3) (H7.sl .here) omQ omQ rfl λv8 h8 H8=>?_;refine qW (qQ (qw H8 e_3 (H8.one .here) osQ λh9 H9=>qj ⟨rfl,ViewC.I (M:={ M with K:=M.K++[((i:Int),x)] }) (fv:=fv) (ov:=v8) (q:=q) (e:=e) ?_⟩));rw[List.map_append,List.length_append];exact H9.sub (.cons .here (.cons e_2 (.cons .here (.cons e_1 (.drop (.refl))))))
 ·rw[iQ hp,iV hp];refine jV (qZ ?_);exact qj ⟨rfl,H⟩
theorem xm {M:VM} {p:Int} (O:OkV M):OkV (qh M p).2:=by
 unfold qh
 repeat' split
 all_goals exact⟨O.lo,O.hi,O.lvs,O.ins,O.un,O.fr⟩
theorem Qs {n:Nat} (hn:9≤n) {v:Nat} {M:VM} {p:Int} (H:HS g h (ViewC v M::R)) (O:OkV M) :
  t_w n 97 [.ptr v 0,.int .i64 p] h λr h'=>r=.tup [.int .u64 (qh M p).1.1,.int .i64 (qh M p).1.2]∧HS g h' (ViewC v (qh M p).2::R):=by
 refine t_e2 (S:=S97) rfl omQ λk hk=>?_;unfold S97;try simp only[iZ]
 refine qG (ON omQ H) ?_;rintro _ _ ⟨rfl,rfl⟩;have hO:=O.hi;unfold qh;by_cases hp:1≤p∧p<M.sz
 ·rw[iJ hp];rw[iG hp];obtain⟨i,rfl⟩:∃i:Nat,p=(i:Int):=⟨p.toNat,by omega⟩;have hi:i<M.sz:=by omega
  obtain⟨fv,ov,q,e,H⟩:=ViewC.E H;refine jX (qJ (qW (qQ (qK ‹_› .here rfl ?_))));refine qG (qk1 omQ (H.sel (P:=LgC q M.most M.lv) e_3) O.lvs) ?_;rintro _ h2 ⟨rfl,H2⟩;refine qA rfl ?_;refine qA rfl ?_;cases hl:Y9 (i:Int) M.lv with
  |some y=>simp only[Option.isSome_some,Option.getD_some];refine qZ ?_;exact qj ⟨rfl,ViewC.I (H2.sub (.cons e_1 (.cons e_1 (.cons e_1 (.refl)))))⟩
  |none=>
   simp only[Option.isSome_none];refine qJ (qW (qQ (qK ‹_› e_1 rfl ?_)));refine zU (l:=QF (gj M.K i)) (H2.sl e_2) hi omQ (gF (enc:=QF) (sz:=2) (λ_=>rfl) (kr hi)) ?_;refine qO H2 rfl λb h3 H3=>qe H3 .here rfl (by show 0+2≤2;omega) rfl λh4 H4=>?_
   have H5:HS g h4 (qg b (QF (gj M.K i))::LgC q M.most M.lv::qg v [fv,ov,.ptr q 0,.int .i64 M.need]::qy e 2 M.sz fv ((yU M.sz M.K).flatMap QF)::
    qy 3 1 M.K.length ov (M.K.map λc=>.int .i64 c.1)::R):=H4
   unfold QF at H5;cases hg:zj (i:Int) M.K with
   |some y=>rw[show gj M.K i=(y,true) by unfold gj;rw[hg]]at H5;refine qQ (qK ‹_› .here rfl ?_);refine qZ (qQ (qK ‹_› .here rfl ?_));exact qj ⟨rfl,ViewC.I (H5.drop.sub (.cons e_1 (.cons e_1 (.cons e_1 (.refl)))))⟩
   |none=>rw[show gj M.K i=(0,false) by unfold gj;rw[hg]]at H5;refine qQ (qK ‹_› .here rfl ?_);refine qJ (qW (qQ ?_));refine qw H5 (b:=v) e_2 ⟨rfl,rfl⟩ osQ λh9 H9=>qj ⟨rfl,ViewC.I (M:={ M with need:=(i:Int) }) (fv:=fv) (ov:=ov) (q:=q) (e:=e) (H9.sub (.cons .here (.cons e_2 (.cons e_2 (.cons e_1 (.drop (.refl)))))))⟩
 ·rw[iQ hp,iV hp];refine jV (qZ ?_);exact qj ⟨rfl,H⟩
theorem qkU {most:Nat} {lv:List LvM} {p v:Int} {n:Nat} (h:∀x∈lv,x.2.length<n):∀x∈(vn most lv p v).2,x.2.length<n:=by
 cases lv with
 |nil=>exact h
 |cons y r=>
  obtain⟨c,hc⟩:=G3 (most:=most) (x:=y) (r:=r) (p:=p) (v:=v);rw[hc];intro x hx;rcases List.mem_cons.1 hx with rfl |hx
  ·exact h y (iK ..)
  ·exact h x (iX _ hx)
theorem qYT {most:Nat} {was:List LvM} {n:Nat} (hw:∀x∈was,x.2.length<n):∀{cs:List Cl} {lv:List LvM},(∀x∈lv,x.2.length<n)→∀x∈(vO most was lv cs).2,x.2.length<n:=by
 intro cs
 induction cs with
 |nil=>intro lv h;exact h
 |cons c cs ih=>
  intro lv h;rw[vr]
  split
  ·exact ih (qkU h)
  ·exact hw
theorem ZX {M:VM} {cs:List Cl} (O:OkV M):OkV (zz M cs).2:=by
 unfold zz
 split
 ·exact⟨O.lo,O.hi,(ZI O.lvs O.lvs rfl).1,O.ins,O.un,qYT O.fr O.fr⟩
 ·exact O
theorem Gy {n:Nat} (hn:8≤n) {v:Nat} {M:VM} {cs:List Cl} {c:AV} (H:HS g h (ViewC v M::R)) (O:OkV M) (S:Rd g R 2 cs.length c (cs.flatMap jA)) (hc:cs.length<100000) :
  t_w n 99 [.ptr v 0,c] h λr h'=>r=.int .i64 (zz M cs).1∧HS g h' (ViewC v (zz M cs).2::R):=by
 refine t_e2 (S:=S99) rfl omQ λk hk=>?_;unfold S99;try simp only[iZ]
 refine xW (S.sl H.drop) ?_;refine jN (λk s h'=>∃i:Nat,s=(.int .i64 (i:Int),.int .i64 (cs.length:Int),c,c,.ptr v 0,())∧i≤cs.length∧k=cs.length-i∧HS g h' (ViewC v M::R)∧∀j,j<i→∀d,cs[j]? =some d→1≤d.1∧d.1<M.sz)
  ?_ (m:=cs.length) (by show _<1000000000;omega) ⟨0,rfl,by omega,by omega,H,λj hj=>by omega⟩
 rintro k2 ih s h2 hih ⟨i,rfl,h1,rfl,H,hno⟩;dsimp only;refine zy (λhlt=>qZ ?_) λhge=>qJ ?_
 ·have hi:i<cs.length:=by omega
  have hci:cs[i]? =some cs[i]:=iW hi;refine zU (l:=jA cs[i]) (S.sl H.drop) hi omQ (GS hci) ?_;refine qO H rfl λb h3 H3=>qe H3 .here rfl (by show 0+2≤2;omega) rfl λh4 H4=>?_;have H5:HS g h4 (qg b (jA cs[i])::ViewC v M::R):=H4;unfold jA at H5;refine qQ (qK ‹_› .here rfl ?_);refine qG (ON omQ H5.drop) ?_;rintro _ _ ⟨rfl,rfl⟩;by_cases hin:1≤cs[i].1∧cs[i].1<M.sz
  ·rw[iG hin];refine jX (qJ (qc omQ ?_));refine hih (cs.length-(i+1)) _ _ omQ ⟨i+1,rfl,by omega,rfl,H5.drop,λj hj d hd=>?_⟩;by_cases hj':j<i
   ·exact hno j hj' d hd
   ·obtain rfl:j=i:=by omega
    rw[hci]at hd;cases hd;exact hin
  ·rw[iV hin];refine jV (qZ (qk ?_));unfold zz;rw[iQ (λh=>hin (h _ (List.getElem_mem hi)))];exact qj ⟨rfl,H5.drop⟩
 ·have hall:∀d∈cs,1≤d.1∧d.1<M.sz:=by
   intro d hd;obtain⟨j,hj⟩:=List.getElem?_of_mem hd;exact hno j (by have:=(List.getElem?_eq_some_iff.1 hj).1;omega) d hj
  obtain⟨fv,ov,q,e,H⟩:=ViewC.E H;refine qW (qQ (qK ‹_› .here rfl ?_));refine qG (qqU omQ (H.sel (P:=LgC q M.most M.lv) e_3) O.lvs (S.more.more.more) hc) ?_;rintro _ h4 ⟨rfl,H4⟩;unfold zz;rw[iJ hall];exact qk (qj ⟨rfl,ViewC.I (M:={ M with lv:=(vO M.most M.lv M.lv cs).2 }) (fv:=fv) (ov:=ov) (q:=q) (e:=e) (H4.sub (.cons e_1 (.cons e_1 (.cons e_1 (.refl)))))⟩)
theorem qqH {n:Nat} (hn:4≤n) {v:Nat} {M:VM} (H:HS g h (ViewC v M::R)) (O:OkV M) :
  t_w n 255 [.ptr v 0] h λr h'=>r=.int .i64 (y8 M).1∧HS g h' (ViewC v (y8 M).2::R):=by
 refine t_e1 (S:=S255) rfl omQ λk hk=>?_;unfold S255;try simp only[iZ]
 obtain⟨fv,ov,q,e,H⟩:=ViewC.E H;refine qW (qQ (qK ‹_› .here rfl ?_));refine qG (qqr omQ (H.sel (P:=LgC q M.most M.lv) e_3) O.lvs) ?_;rintro _ h2 ⟨rfl,H2⟩;exact qj ⟨rfl,ViewC.I (M:=(y8 M).2) (fv:=fv) (ov:=ov) (q:=q) (e:=e) (H2.sub (.cons e_1 (.cons e_1 (.cons e_1 (.cons .here (.refl))))))⟩
theorem OU {n:Nat} (hn:2≤n) {v:Nat} {M:VM} (H:HS g h (ViewC v M::R)) (O:OkV M) :
  t_w n 193 [.ptr v 0] h λr h'=>r=.int .i64 (xO M).1∧HS g h' (ViewC v (xO M).2::R):=by
 refine t_e1 (S:=S193) rfl omQ λk hk=>?_;unfold S193;try simp only[iZ]
 obtain⟨fv,ov,q,e,H⟩:=ViewC.E H;refine qW (qQ (qK ‹_› .here rfl ?_));refine qG (Zv omQ (H.sel (P:=LgC q M.most M.lv) e_3) O.lvs) ?_;rintro _ h2 ⟨rfl,H2⟩;exact qj ⟨rfl,ViewC.I (M:=(xO M).2) (fv:=fv) (ov:=ov) (q:=q) (e:=e) (H2.sub (.cons e_1 (.cons e_1 (.cons e_1 (.cons .here (.refl))))))⟩
theorem qQe {n:Nat} (hn:7≤n) {v:Nat} {M:VM} (H:HS g h (ViewC v M::R)) (O:OkV M) :
  t_w n 191 [.ptr v 0] h λr h'=>r=.int .i64 (vA M).1∧HS g h' (ViewC v (vA M).2::R):=by
 refine t_e1 (S:=S191) rfl omQ λk hk=>?_;unfold S191;try simp only[iZ]
 obtain⟨fv,ov,q,e,H⟩:=ViewC.E H;refine qW (qQ (qK ‹_› .here rfl ?_));refine qG (qjf omQ (H.sel (P:=LgC q M.most M.lv) e_3) O.lvs λx hx=>Nat.lt_trans (O.fr x hx) omQ) ?_;rintro _ h2 ⟨rfl,H2⟩;exact qj ⟨rfl,ViewC.I (M:=(vA M).2) (fv:=fv) (ov:=ov) (q:=q) (e:=e) (H2.sub (.cons e_1 (.cons e_1 (.cons e_1 (.cons .here (.refl))))))⟩
theorem qY4 {n:Nat} (hn:3≤n) {v:Nat} {M:VM} {b:Int} (H:HS g h (ViewC v M::R)) (O:OkV M) :
  t_w n 254 [.ptr v 0,.int .i64 b] h λ_ h'=>HS g h' (ViewC v (freeV M b)::R):=by
 refine t_e2 (S:=S254) rfl omQ λk hk=>?_;unfold S254;try simp only[iZ]
 obtain⟨fv,ov,q,e,H⟩:=ViewC.E H;refine qW (qQ (qK ‹_› .here rfl ?_));refine qG (qWc omQ (H.sel (P:=LgC q M.most M.lv) e_3) O.lvs λx hx=>Nat.lt_trans (O.fr x hx) omQ) ?_;intro _ h2 H2;exact qj (ViewC.I (M:=freeV M b) (fv:=fv) (ov:=ov) (q:=q) (e:=e) (H2.sub (.cons e_1 (.cons e_1 (.cons e_1 (.cons .here (.refl)))))))
theorem VI {n:Nat} (hn:1≤n) {v:Nat} {M:VM} (H:HS g h (ViewC v M::R)) :
  t_w n 115 [.ptr v 0] h λr h'=>r=.int .i64 M.need∧h'=h:=by
 refine t_e1 (S:=S115) rfl omQ λk hk=>?_;unfold S115;try simp only[iZ]
 obtain⟨fv,ov,q,e,H⟩:=ViewC.E H;refine qW (qQ (qK ‹_› .here rfl ?_));exact qj ⟨rfl,rfl⟩
theorem Qh {n:Nat} (hn:10≤n) {v:Nat} {M:VM} (H:HS g h (ViewC v M::R)) (O:OkV M) :
  t_w n 50 [.ptr v 0] h λr h'=>HS g h' (qy 181 2 (jJ M.lv).length r ((jJ M.lv).flatMap jA)::ViewC v M::R):=by
 refine t_e1 (S:=S50) rfl omQ λk hk=>?_;unfold S50;try simp only[iZ]
 obtain⟨fv,ov,q,e,H⟩:=ViewC.E H;refine qW (qQ (qK ‹_› .here rfl ?_));refine qG (qK2 omQ (H.sel (P:=LgC q M.most M.lv) e_3) O.lvs) ?_;intro r h2 H2;refine qj ?_;have H3:=ViewC.I (v:=v) (M:=M) (fv:=fv) (ov:=ov) (q:=q) (e:=e) (R:=qy 181 2 (jJ M.lv).length r ((jJ M.lv).flatMap jA)::R) (H2.sub (.cons e_2 (.cons e_2 (.cons e_2 (.cons e_1 (.refl))))));exact H3.sub (.cons e_1 (.refl))
theorem qG2 {n:Nat}:∀{l:List LvM},(∀x∈l,x.2.length<n)→(l.flatMap (·.2)).length≤l.length*n:=by
 intro l h
 induction l with
 |nil=>simp
 |cons x r ih=>have h1:=h x (iK ..);have h2:=ih λy hy=>h y (iX _ hy);rw[List.flatMap_cons,List.length_append,List.length_cons,Nat.add_mul,Nat.one_mul];omega
theorem qJr {n:Nat} {lv:List LvM} (h:∀x∈lv,x.2.length<n):(vo lv).length≤lv.length*n:=by have:=qG2 (l:=lv.reverse) (n:=n) λx hx=>h x (List.mem_reverse.1 hx);rw[List.length_reverse]at this;exact this
theorem Mj {n:Nat} (hn:2≤n) {v:Nat} {M:VM} (H:HS g h (ViewC v M::R)) (O:OkV M) :
  t_w n 51 [.ptr v 0] h λr h'=>HS g h' (qy 3 1 (vo M.lv).length r ((vo M.lv).map (.int .i64))::ViewC v M::R):=by
 refine t_e1 (S:=S51) rfl omQ λk hk=>?_;unfold S51;try simp only[iZ]
 obtain⟨fv,ov,q,e,H⟩:=ViewC.E H;refine qW (qQ (qK ‹_› .here rfl ?_));have hfl:=qJr O.fr;have hd:=O.lvs.deep;refine qG (qG1 omQ (H.sel (P:=LgC q M.most M.lv) e_3) O.lvs omQ) ?_;intro r h2 H2;refine qj ?_;have H3:=ViewC.I (v:=v) (M:=M) (fv:=fv) (ov:=ov) (q:=q) (e:=e) (R:=qy 3 1 (vo M.lv).length r ((vo M.lv).map (.int .i64))::R) (H2.sub (.cons e_2 (.cons e_2 (.cons e_2 (.cons e_1 (.refl))))));exact H3.sub (.cons e_1 (.refl))
def xN (zs:List Int) (i:Nat):Int:=zs[i]?.getD 0
def kW (zs:List Int):List Cl:=(List.range (szZ zs.length-1)).map λi=>(((i+1:Nat):Int),xN zs (i+1))
def jM (zs:List Int) (most:Int):VM:=⟨szZ zs.length,kW zs,(max 0 (min most 96)).toNat,[([],[])],0⟩
theorem qJ2 (zs:List Int):(kW zs).length=szZ zs.length-1:=by simp[kW]
theorem Ni (zs:List Int) {i:Nat} (hi:i+1<szZ zs.length):(kW zs)[i]? =some (((i+1:Nat):Int),xN zs (i+1)):=by unfold kW;rw[List.getElem?_map,List.getElem?_range omQ];rfl
theorem qZ6 (zs:List Int) {i:Nat} {p:Int} (hp:(i:Int)<p):zj p ((kW zs).take i)=none:=by rw[Zz];intro hm;obtain⟨c,hc,he⟩:=List.mem_map.1 hm;obtain⟨j,hj⟩:=List.getElem?_of_mem hc;have hjl:=(List.getElem?_eq_some_iff.1 hj).1;simp[qJ2]at hjl;rw[List.getElem?_take_of_lt omQ,Ni zs omQ]at hj;cases hj;dsimp only at he;omega
def KR (zs:List Int) (most:Int) (i:Nat):VM:={ jM zs most with K:=(kW zs).take i }
theorem qXF (zs:List Int) (most:Int) (i:Nat):OkV (KR zs most i):=by
 have hb:=NK (zs.length:Int);refine⟨hb.1,hb.2,qKC (by show(max 0 (min most 96)).toNat≤96;omega),?_,?_,by intro x hx;simp[KR,jM]at hx;subst hx;simp⟩
 ·intro c hc;obtain⟨j,hj⟩:=List.getElem?_of_mem (List.mem_of_mem_take hc);have hjl:=(List.getElem?_eq_some_iff.1 hj).1;rw[qJ2]at hjl;rw[Ni zs omQ]at hj;cases hj;show 1≤((j+1:Nat):Int)∧((j+1:Nat):Int)<((szZ zs.length:Nat):Int);omega
 ·show((((kW zs).take i).map (·.1))).Nodup;refine List.Nodup.sublist ((List.take_sublist i _).map _) ?_;unfold kW;rw[List.map_map];refine List.Pairwise.map _ ?_ (List.nodup_range (n:=szZ zs.length-1));intro a b hab;simp;omega
theorem M5 (zs:List Int) (most:Int):OkV (jM zs most):=by have:=qXF zs most (kW zs).length;unfold KR at this;rw[List.take_length]at this;exact this
theorem MH {n:Nat} (hn:5≤n) {zs:List Int} {a0:AV} {m:Int} (H:HS g h R) (S:Rd g R 1 zs.length a0 (zs.map (.int .u64))) :
  t_w n 44 [a0,.int .i64 m] h λr h'=>∃v,r=.ptr v 0∧HS g h' (ViewC v (jM zs m)::R):=by
 refine t_e2 (S:=S44) rfl omQ λk hk=>?_;unfold S44;try simp only[iZ]
 have hb:=NK (zs.length:Int);refine xW (S.sl H) ?_;refine qG (qX8 omQ H) ?_;rintro _ h1 ⟨v,rfl,H1⟩;refine jN (λk s h'=>∃i:Nat,s=(.int .i64 ((i+1:Nat):Int),.ptr v 0,a0,())∧i+1≤szZ zs.length∧k=szZ zs.length-(i+1)∧HS g h' (ViewC v (KR zs m i)::R)) ?_ (m:=szZ zs.length-1) (by show _<1000000000;omega) ⟨0,rfl,by omega,by omega,H1⟩;rintro k2 ih s h' hih ⟨i,rfl,h1,rfl,H⟩;dsimp only;refine qG (Gz omQ H) ?_;rintro _ _ ⟨rfl,rfl⟩;show wp (jR .lss _ (.int .i64 ((szZ zs.length:Nat):Int)) _) _;refine zy (λhlt=>qZ ?_) λhge=>qJ (qk (qj ⟨v,rfl,?_⟩))
 ·have hi:i+1<szZ zs.length:=by omega
  refine jT [] (λs g'=>s=(.int .u64 (xN zs (i+1)),.int .i64 ((i+1:Nat):Int),.ptr v 0,a0,())∧HS g g' (ViewC v (KR zs m i)::R)) ?_ ?_
  ·intro j hj;refine xW (S.sl H.drop) ?_;refine zy (λhl=>qZ ?_) λhl=>qJ ?_
   ·refine zJ (S.sl H.drop) (x:=.int .u64 (xN zs (i+1))) ?_ (hj _ _ ⟨rfl,H⟩);unfold xN;rw[List.getElem?_map,iW omQ];rfl
   ·refine hj _ _ ⟨?_,H⟩;unfold xN;rw[List.getElem?_eq_none omQ];rfl
  ·rintro s g' ⟨rfl,H2⟩;dsimp only;refine qG (Z3 omQ H2 (qXF zs m i)) ?_;rintro _ h4 ⟨_,H4⟩;have hk:(z6 (KR zs m i) ((i+1:Nat):Int) (xN zs (i+1))).2=KR zs m (i+1):=by
    unfold z6;rw[iJ (show 1≤((i+1:Nat):Int)∧((i+1:Nat):Int)<((KR zs m i).sz:Int)from⟨by omega,show((i+1:Nat):Int)<((szZ zs.length:Nat):Int) by omega⟩)]
    show(match zj ((i+1:Nat):Int) ((kW zs).take i)with
     |some y=>(if y=xN zs (i+1)then(0:Int)else 14,KR zs m i)
     |none=>(0,{ KR zs m i with K:=(kW zs).take i++[(((i+1:Nat):Int),xN zs (i+1))] })).2=_
    rw[qZ6 zs omQ];dsimp only;unfold KR;rw[List.take_add_one,Ni zs hi];rfl
   rw[hk]at H4;refine qc omQ (hih (szZ zs.length-(i+1+1)) _ _ omQ ⟨i+1,rfl,by omega,rfl,H4⟩)
 ·have hi:i=(kW zs).length:=by rw[qJ2];omega
  subst hi;unfold KR at H;rw[List.take_length]at H;exact H
end Go.Proofs.YtnalffoigcmnnabGreatDoor
namespace Go.Proofs.YtnalffoigcmnnabGreatDoor
open Go Go.Ae
abbrev qR:Type:=Int×Int×Int×Int×Int
def jK (x:qR):List AV:=[.int .i64 x.1,.int .i64 x.2.1,.int .i64 x.2.2.1,.int .i64 x.2.2.2.1,.int .u64 x.2.2.2.2]
theorem KA (l:List qR):qm (l.flatMap jK)=true:=by unfold qm;rw[List.all_eq_true];intro v hv;obtain⟨c,_,hc⟩:=List.mem_flatMap.1 hv;simp[jK]at hc;rcases hc with rfl |rfl |rfl |rfl |rfl<;>rfl
def jF (op:Int):(Int×Int)×(Int×Int)×(Int×Int) :=
 if op=1∨op=11∨op=21 then((0,7),(0,0),(0,0))
 else if op=2∨op=10 then((0,7),(0,7),(0,0))
 else if op=3∨op=4∨op=5∨op=6∨op=7 then((0,7),(0,7),(0,7))
 else if op=8∨op=9 then((0,7),(0,7),(0,15))
 else if op=12 then((0,0),(0,0),(0,40))
 else if op=13 then((0,7),(0,0),(0,40))
 else if op=23 then((1,12),(0,7),(0,6))
 else((0,0),(0,0),(0,0))
def vP (f:Int×Int) (n:Int):Bool:=decide (f.1≤n∧n≤f.2)
def vR (x:qR):Bool:=decide (1≤x.1∧x.1≤23)&&vP (jF x.1).1 x.2.1&&vP (jF x.1).2.1 x.2.2.1&&vP (jF x.1).2.2 x.2.2.2.1&&decide (x.2.2.2.2=0∨x.1=1)
def z7 (op:Int):Bool:=decide (op=14∨op=17)
def jr (op:Int):Int:=if op=15 then 14 else if op=18 then 17 else if op=19 then 18 else 0
def qt (st:List Int):Int:=st.getLast?.getD (-1)
def qP (l:List qR) (i:Int):qR:=(l[i.toNat]?).getD (0,0,0,0,0)
def opM (l:List qR) (st:List Int):Int:=if st=[]then 0 else(qP l (qt st)).1
def zc (l:List qR) (st:List Int) (x:qR):Int :=
 if vR x=false then 8
 else if 0<jr x.1∧opM l st≠jr x.1 then 12
 else if x.1=16∧opM l st≠14 then 12
 else if z7 x.1=true∧5≤st.length then 9
 else 0
def jZ (st:List Int) (i op:Int):List Int :=
 if z7 op=true∨op=18 then(if 0<jr op then st.dropLast else st)++[i]else(if 0<jr op then st.dropLast else st)
def goM (l:List qR):List qR→Nat→List Int→(Int×Int) ⊕ List Int
 |[],_,st=>.inr st
 |x::r,i,st=>if zc l st x=0 then goM l r (i+1) (jZ st i x.1)else .inl (i,zc l st x)
def vC:List qR→Nat→List Int→List Int
 |[],_,_=>[]
 |x::r,i,st=>qt st::vC r (i+1) (jZ st i x.1)
def qM (a:List Int) (i:Int):Int:=(a[i.toNat]?).getD 0
def Jo (l:List qR) (a:List Int) (i:Nat) (x:qR):Prop :=
 (x.1=12∨x.1=13)∧((l.length:Int)<x.2.2.2.1∨(x.2.2.2.1=l.length∧qM a i≠ -1)∨(x.2.2.2.1<l.length∧qM a x.2.2.2.1≠qM a i))
instance {l:List qR} {a:List Int} {i:Nat} {x:qR}:Decidable (Jo l a i x):=by unfold Jo;infer_instance
def Js (l:List qR) (a:List Int):List qR→Nat→Int×Int
 |[],_=>(0,0)
 |x::r,i=>if Jo l a i x then((i:Int),2)else Js l a r (i+1)
def xB (l:List qR):Int×Int :=
 if l.length=0∨40<l.length then(0,4)
 else match goM l l 0 []with
  | .inl r=>r
  | .inr st=>if st=[]then Js l (vC l 0 []) l 0 else(qt st,12)
def StOk (i:Nat) (st:List Int):Prop:=∀y∈st,0≤y∧y<(i:Int)
theorem StOk.nil {i:Nat}:StOk i []:=λ_ h=>by cases h
theorem StOk.dropLast {i:Nat} {st:List Int} (h:StOk i st):StOk i st.dropLast:=λy hy=>h y ((List.dropLast_sublist st).subset hy)
theorem StOk.behind {i:Nat} {st:List Int} {op:Int} (h:StOk i st):StOk (i+1) (jZ st i op):=by
 have h1:∀s,StOk i s→StOk (i+1) s:=λs hs y hy=>by have:=hs y hy;omega
 have h2:∀s,StOk i s→StOk (i+1) (s++[(i:Int)]):=by
  intro s hs y hy;rcases List.mem_append.1 hy with hy |hy
  ·exact h1 s hs y hy
  ·rw[List.mem_singleton]at hy;omega
 unfold jZ
 repeat' split
 ·exact h2 _ h.dropLast
 ·exact h2 _ h
 ·exact h1 _ h.dropLast
 ·exact h1 _ h
theorem StOk.inmost {i:Nat} {st:List Int} (h:StOk i st) (hn:st≠[]):0≤qt st∧qt st<(i:Int):=by refine h _ ?_;unfold qt;rw[List.getLast?_eq_some_getLast hn];exact List.getLast_mem hn
theorem Ug (st:List Int) (i op:Int):(jZ st i op).length≤st.length+1:=by
 unfold jZ
 repeat' split
 all_goals simp
 all_goals omega
theorem Yv:qt []= -1:=rfl
theorem xv {l:List qR} {st:List Int} {x:qR} (h:zc l st x=0):vR x=true∧(0<jr x.1∨x.1=16→st≠[])∧(z7 x.1=true→st.length<5):=by
 unfold zc at h
 split at h
 ·cases h
 ·rename_i h1
  split at h
  ·cases h
  ·rename_i h2
   split at h
   ·cases h
   ·rename_i h3
    split at h
    ·cases h
    ·rename_i h4
     refine⟨by simpa using h1,?_,λhb=>by
      by_cases h5:5≤st.length
      ·exact absurd ⟨hb,h5⟩ h4
      ·omega⟩
     rintro ho rfl;have h0:opM l []=0:=rfl;rw[h0]at h2 h3;rcases ho with ho |ho
     ·exact h2 ⟨ho,by omega⟩
     ·exact h3 ⟨ho,by omega⟩
theorem Yl {l r:List qR} {x:qR} {i:Nat} {st:List Int}:goM l (x::r) i st=if zc l st x=0 then goM l r (i+1) (jZ st i x.1)else .inl (i,zc l st x):=rfl
theorem UK:∀{r:List qR} {i:Nat} {st:List Int},(vC r i st).length=r.length:=by
 intro r
 induction r with
 |nil=>intro i st;rfl
 |cons x r ih=>intro i st;show(vC r (i+1) _).length+1=_;rw[ih];rfl
theorem qYu:∀{r:List qR} {i j:Nat} {st:List Int},j<r.length→∃s,(vC r i st)[j]? =some (qt s)∧(∀{l:List qR} {st':List Int},goM l r i st=.inr st'→StOk i st→StOk (i+j) s∧∀x,r[j]? =some x→zc l s x=0):=by
 intro r
 induction r with
 |nil=>intro i j st h;simp at h
 |cons x r ih=>
  intro i j st h;cases j with
  |zero=>
   refine⟨st,rfl,λ{l st'} hg hs=>⟨hs,?_⟩⟩;intro y hy;simp at hy;subst hy;rw[Yl]at hg
   split at hg
   ·assumption
   ·cases hg
  |succ j=>
   obtain⟨s,h1,h2⟩:=ih (i:=i+1) (j:=j) (st:=jZ st i x.1) (by simp at h;omega);refine⟨s,h1,λ{l st'} hg hs=>?_⟩;rw[Yl]at hg
   split at hg
   ·have:=h2 hg hs.behind;rw[show i+1+j=i+(j+1) by omega]at this;exact this
   ·cases hg
end Go.Proofs.YtnalffoigcmnnabGreatDoor
namespace Go.Proofs.YtnalffoigcmnnabGreatDoor
open Go Go.Ae
set_option maxRecDepth 100000
variable {g h:AH} {L R:List SP}
theorem kj {D:Nat→Prop} {sz n:Nat} {v:AV} {xs:List AV} (S:Sl D h sz n v xs):One v:=by cases S<;>exact⟨rfl,rfl⟩
theorem yh {v:AV} (o:One v):qm [v]=true:=by simp[qm,o.2]
theorem zn {g' ha:AH} {b off n nx:Nat} {xs ys l:List AV} {L2 R2:List SP} {K0:Go.Ae.R} {Q:AV→AH→Prop} (H:HS g h L) (s:Sel L (qg b xs) R) (hx:(xs.drop off).take n=l) (H2:HS g' ha L2) (s2:Sel L2 (qg b ys) R2) (hx2:(ys.drop off).take n=l) (hl:l.length=n) (h0:0<n) (hlt:b<nx)
  (w:wp K0 Q):wp (JX (.ptr b off) (some n) (.agg l) h ha nx K0) Q:=by
 obtain⟨e,A⟩:=H.obj s;obtain⟨e2,A2⟩:=H2.obj s2;exact qxT hl h0 (λi hi=>by rw[A.at,← hx,List.getElem?_take_of_lt hi,List.getElem?_drop]) (λi hi=>by rw[A2.at,← hx2,List.getElem?_take_of_lt hi,List.getElem?_drop]) hlt w
theorem qQF {u x:Bool} {r:AV} {K:AV→Go.Ae.R} {Q:AV→AH→Prop} (hr:u=true→r=.bool x) (w:wp (K (.bool (u&&x))) Q):wp (yc (.bool u) r (.bool false) K) Q:=by
 cases u
 ·exact w
 ·rw[hr rfl];exact w
end Go.Proofs.YtnalffoigcmnnabGreatDoor
namespace Go.Proofs.YtnalffoigcmnnabGreatDoor
open Go Go.Ae
set_option maxRecDepth 100000
variable {g h:AH} {L R:List SP}
theorem qgT {s:List UInt8} {K:AV→Go.Ae.R} {Q:AV→AH→Prop} {t:Bool} (ht:ZD .neq s []=some (.bool t)) (w:wp (K (.bool t)) Q):wp (N9 .neq (.str s) (.str []) K) Q:=by show wp (ob (ZD .neq s []) K) Q;rw[ht];exact w
theorem Gk {n:Nat} (hn:1≤n) {x:Int}:t_w n 132 [.int .i64 x] h λv h'=>v=.int .i64 (jr x)∧h'=h:=by
 refine t_e1 (S:=S132) rfl omQ λk hk=>?_;unfold S132;try simp only[iZ]
 repeat' (first |with_reducible refine qZ ?_ |with_reducible refine qJ ?_ |(with_reducible refine qa ?_;try dsimp only) |(with_reducible refine qo ?_;try dsimp only) |(with_reducible refine qS ?_;try dsimp only) |(with_reducible refine qd ?_;try dsimp only) |(with_reducible refine jt ?_;try dsimp only) |with_reducible refine qF ?_ |with_reducible refine qI ?_ |(with_reducible refine qV ?_;try dsimp only) |with_reducible refine qk ?_ |with_reducible refine jX ?_ |with_reducible refine jV ?_ |with_reducible refine qc omQ ?_ |with_reducible refine zQ omQ ?_ |with_reducible refine xd omQ ?_ |with_reducible refine yK omQ ?_ |with_reducible refine zX ?_ |with_reducible refine zC ?_ |with_reducible refine zy (λhc=>?_) (λhc=>?_) |with_reducible refine wP (λhc=>?_) (λhc=>?_) |with_reducible refine wR (λhc=>?_) (λhc=>?_) |with_reducible refine yY (λhc=>?_) (λhc=>?_) |with_reducible refine vU (λhc=>?_) (λhc=>?_) |with_reducible refine yS (λhc=>?_) (λhc=>?_) |with_reducible refine gT (λhc=>?_) (λhc=>?_))
 all_goals refine qj ⟨?_,rfl⟩
 all_goals unfold jr
 all_goals congr 1
 all_goals (repeat' split)
 all_goals omega
theorem Uv {n:Nat} (hn:1≤n) {x:Int}:t_w n 168 [.int .i64 x] h λv h'=>v=.bool (z7 x)∧h'=h:=by
 refine t_e1 (S:=S168) rfl omQ λk hk=>?_;unfold S168;try simp only[iZ]
 unfold z7;by_cases h1:x=14
 ·refine qx omQ ?_;refine qV ?_;(try dsimp only);refine qo ?_;(try dsimp only);refine qF ?_
  exact qj ⟨by rw[iG (.inl h1)],rfl⟩
 ·refine qX omQ ?_;refine qV ?_;(try dsimp only);refine qd ?_;(try dsimp only)
  refine XJ (qI ?_);exact qj ⟨by congr 1;exact decide_eq_decide.2 ⟨.inr,λh=>h.resolve_left h1⟩,rfl⟩
theorem qzd {n:Nat} (hn:1≤n) {x:Int}:t_w n 169 [.int .i64 x] h λv h'=>v=.bool (decide (x=12∨x=13))∧h'=h:=by
 refine t_e1 (S:=S169) rfl omQ λk hk=>?_;unfold S169;try simp only[iZ]
 by_cases h1:x=12
 ·refine qx omQ ?_;refine qV ?_;(try dsimp only);refine qo ?_;(try dsimp only);refine qF ?_
  exact qj ⟨by rw[iG (.inl h1)],rfl⟩
 ·refine qX omQ ?_;refine qV ?_;(try dsimp only);refine qd ?_;(try dsimp only)
  refine XJ (qI ?_);exact qj ⟨by congr 1;exact decide_eq_decide.2 ⟨.inr,λh=>h.resolve_left h1⟩,rfl⟩
theorem Yk {D:Nat→Prop} {n:Nat} (hn:1≤n) {st:List Int} {v:AV} (S:Sl D h 1 st.length v (st.map (.int .i64))) (hl:st.length<1000) :
  t_w n 129 [v] h λr h'=>r=.int .i64 (qt st)∧h'=h:=by
 refine t_e1 (S:=S129) rfl omQ λk hk=>?_;unfold S129;try simp only[iZ]
 refine xW S ?_;by_cases h0:st.length=0
 ·obtain rfl:=iA h0;refine qx omQ ?_;refine qZ ?_;exact qj ⟨rfl,rfl⟩
 ·refine qX omQ ?_;refine qJ (xW S ?_);refine zQ omQ ?_;rw[show(st.length:Int)-((1:Nat):Int)=((st.length-1:Nat):Int) by omega];have hne:st≠[]:=by rintro rfl;exact h0 rfl
  refine zJ S (x:=.int .i64 (qt st)) ?_ (qj ⟨rfl,rfl⟩);unfold qt;rw[List.getElem?_map,← List.getLast?_eq_getElem?,List.getLast?_eq_some_getLast hne];rfl
theorem Uy {n:Nat} (hn:1≤n) {f:Int×Int} {x:Int} (H:HS g h R):t_w n 215 [.agg [.int .i64 f.1,.int .i64 f.2],.int .i64 x] h λv h'=>v=.bool (vP f x)∧HS g h' R:=by
 refine t_e2 (S:=S215) rfl omQ λk hk=>?_;unfold S215;try simp only[iZ]
 refine qO H rfl λb h1 H1=>?_;unfold vP;by_cases c1:f.1≤x
 ·refine qQ (qK ‹_› .here rfl ?_);refine zO omQ ?_;refine qV ?_;(try dsimp only);refine qa ?_;(try dsimp only);refine qQ (qK ‹_› .here rfl ?_)
  refine NF (qF ?_);exact qj ⟨by congr 1;exact decide_eq_decide.2 ⟨λh=>⟨c1,h⟩,λh=>h.2⟩,H1.drop⟩
 ·refine qQ (qK ‹_› .here rfl ?_);refine zN omQ ?_;refine qV ?_;(try dsimp only);refine qS ?_;(try dsimp only);refine qI ?_
  exact qj ⟨by rw[iV (λh=>c1 h.1)],H1.drop⟩
def vB (f:Int×Int):List AV:=[.int .i64 f.1,.int .i64 f.2]
theorem qJA {n:Nat} (hn:1≤n) {x:Int} (H:HS g h R):t_w n 213 [.int .i64 x] h λv h'=>v=.tup [.agg (vB (jF x).1),.agg (vB (jF x).2.1),.agg (vB (jF x).2.2)]∧HS g h' R:=by
 refine t_e1 (S:=S213) rfl omQ λk hk=>?_;unfold S213;try simp only[iZ]
 refine qO H rfl λb0 h1 H1=>?_;refine qO H1 rfl λb2 h2 H2=>?_;refine qO H2 rfl λb4 h3 H3=>?_;refine qH (l:=[.int .i64 ((0:Nat):Int),.int .i64 ((7:Nat):Int)]) rfl ?_;refine qO H3 rfl λb7 h4 H4=>?_;refine qe H4 (b:=b7) .here rfl osQ rfl λh5 H5=>?_;have H5:HS g h5 (qg b7 (vB (0,7))::qg b4 (vB (0,0))::qg b2 (vB (0,0))::qg b0 (vB (0,0))::R):=H5;clear H H1 H2 H3 H4;refine jT [] (λs h'=>s=(.ptr b4 0,.ptr b2 0,.ptr b0 0,())∧HS g h' (qg b0 (vB (jF x).1)::qg b2 (vB (jF x).2.1)::qg b4 (vB (jF x).2.2)::R)) ?_ ?_
 ·intro j hj;by_cases ha:x=1∨x=11∨x=21
  ·have e:jF x=((0,7),(0,0),(0,0)):=by unfold jF;rw[iJ ha]
   rw[e]at hj;rcases ha with rfl |rfl |rfl
   all_goals (first |with_reducible (refine qV ?_;(try dsimp only);refine qX omQ ?_;refine qJ ?_;refine qX omQ ?_;refine qJ ?_;refine qx omQ ?_;refine qZ ?_) |with_reducible (refine qV ?_;(try dsimp only);refine qX omQ ?_;refine qJ ?_;refine qx omQ ?_;refine qZ ?_;refine qZ ?_) |with_reducible (refine qV ?_;(try dsimp only);refine qx omQ ?_;refine qZ ?_;refine qZ ?_))
   all_goals refine qD H5 (b:=b7) (off:=0) .here rfl omQ rfl ?_
   all_goals refine qe H5 (b:=b0) e_3 rfl (by simp[vB]) rfl λh6 H6=>?_
   all_goals exact hj _ _ ⟨rfl,H6.sub (.cons .here (.cons e_2 (.cons e_1 (.drop .refl))))⟩
  by_cases hb:x=2∨x=10
  ·have e:jF x=((0,7),(0,7),(0,0)):=by unfold jF;rw[iQ ha,iJ hb]
   rw[e]at hj;rcases hb with rfl |rfl
   all_goals (first |with_reducible (refine qV ?_;(try dsimp only);refine qX omQ ?_;refine qJ ?_;refine qX omQ ?_;refine qJ ?_;refine qX omQ ?_;refine qJ ?_;refine qV ?_;(try dsimp only);refine qX omQ ?_;refine qJ ?_;refine qx omQ ?_;refine qZ ?_;refine qV ?_;(try dsimp only)) |with_reducible (refine qV ?_;(try dsimp only);refine qX omQ ?_;refine qJ ?_;refine qX omQ ?_;refine qJ ?_;refine qX omQ ?_;refine qJ ?_;refine qV ?_;(try dsimp only);refine qx omQ ?_;refine qZ ?_;refine qZ ?_;refine qV ?_;(try dsimp only)))
   all_goals refine qD H5 (b:=b7) (off:=0) .here rfl omQ rfl ?_
   all_goals refine qD H5 (b:=b7) (off:=0) .here rfl omQ rfl ?_
   all_goals refine qe H5 (b:=b0) e_3 rfl (by simp[vB]) rfl λh6 H6=>?_
   all_goals refine qe H6 (b:=b2) e_3 rfl (by simp[vB]) rfl λh7 H7=>?_
   all_goals refine zn H5 (b:=b7) .here rfl H6 e_1 rfl rfl omQ (HS.lt H5 .here) ?_
   all_goals exact hj _ _ ⟨rfl,H7.sub (.cons e_1 (.cons .here (.cons e_1 (.drop .refl))))⟩
  by_cases hc:x=3∨x=4∨x=5∨x=6∨x=7
  ·have e:jF x=((0,7),(0,7),(0,7)):=by unfold jF;rw[iQ ha,iQ hb,iJ hc]
   rw[e]at hj;rcases hc with rfl |rfl |rfl |rfl |rfl
   all_goals (first |with_reducible (refine qV ?_;(try dsimp only);refine qX omQ ?_;refine qJ ?_;refine qX omQ ?_;refine qJ ?_;refine qX omQ ?_;refine qJ ?_;refine qV ?_;(try dsimp only);refine qX omQ ?_;refine qJ ?_;refine qX omQ ?_;refine qJ ?_;refine qV ?_;(try dsimp only);refine qX omQ ?_;refine qJ ?_;refine qX omQ ?_;refine qJ ?_;refine qX omQ ?_;refine qJ ?_;refine qX omQ ?_;refine qJ ?_;refine qx omQ ?_;refine qZ ?_;refine qV ?_;(try dsimp only)) |with_reducible (refine qV ?_;(try dsimp only);refine qX omQ ?_;refine qJ ?_;refine qX omQ ?_;refine qJ ?_;refine qX omQ ?_;refine qJ ?_;refine qV ?_;(try dsimp only);refine qX omQ ?_;refine qJ ?_;refine qX omQ ?_;refine qJ ?_;refine qV ?_;(try dsimp only);refine qX omQ ?_;refine qJ ?_;refine qX omQ ?_;refine qJ ?_;refine qX omQ ?_;refine qJ ?_;refine qx omQ ?_;refine qZ ?_;refine qZ ?_;refine qV ?_;(try dsimp only)) |with_reducible (refine qV ?_;(try dsimp only);refine qX omQ ?_;refine qJ ?_;refine qX omQ ?_;refine qJ ?_;refine qX omQ ?_;refine qJ ?_;refine qV ?_;(try dsimp only);refine qX omQ ?_;refine qJ ?_;refine qX omQ ?_;refine qJ ?_;refine qV ?_;(try dsimp only);refine qX omQ ?_;refine qJ ?_;refine qX omQ ?_;refine qJ ?_;refine qx omQ ?_;refine qZ ?_;refine qZ ?_;refine qV ?_;(try dsimp only)) |with_reducible (refine qV ?_;(try dsimp only);refine qX omQ ?_;refine qJ ?_;refine qX omQ ?_;refine qJ ?_;refine qX omQ ?_;refine qJ ?_;refine qV ?_;(try dsimp only);refine qX omQ ?_;refine qJ ?_;refine qX omQ ?_;refine qJ ?_;refine qV ?_;(try dsimp only);refine qX omQ ?_;refine qJ ?_;refine qx omQ ?_;refine qZ ?_;refine qZ ?_;refine qV ?_;(try dsimp only)) |with_reducible (refine qV ?_;(try dsimp only);refine qX omQ ?_;refine qJ ?_;refine qX omQ ?_;refine qJ ?_;refine qX omQ ?_;refine qJ ?_;refine qV ?_;(try dsimp only);refine qX omQ ?_;refine qJ ?_;refine qX omQ ?_;refine qJ ?_;refine qV ?_;(try dsimp only);refine qx omQ ?_;refine qZ ?_;refine qZ ?_;refine qV ?_;(try dsimp only)))
   all_goals refine qD H5 (b:=b7) (off:=0) .here rfl omQ rfl ?_
   all_goals refine qD H5 (b:=b7) (off:=0) .here rfl omQ rfl ?_
   all_goals refine qD H5 (b:=b7) (off:=0) .here rfl omQ rfl ?_
   all_goals refine qe H5 (b:=b0) e_3 rfl (by simp[vB]) rfl λh6 H6=>?_
   all_goals refine qe H6 (b:=b2) e_3 rfl (by simp[vB]) rfl λh7 H7=>?_
   all_goals refine qe H7 (b:=b4) e_3 rfl (by simp[vB]) rfl λh8 H8=>?_
   all_goals refine zn H6 (b:=b7) e_1 rfl H7 e_2 rfl rfl omQ (HS.lt H5 .here) ?_
   all_goals refine zn H5 (b:=b7) .here rfl H6 e_1 rfl rfl omQ (HS.lt H5 .here) ?_
   all_goals refine zn H5 (b:=b7) .here rfl H6 e_1 rfl rfl omQ (HS.lt H5 .here) ?_
   all_goals exact hj _ _ ⟨rfl,H8.sub (.cons e_2 (.cons e_1 (.cons .here (.drop .refl))))⟩
  by_cases hd:x=8∨x=9
  ·have e:jF x=((0,7),(0,7),(0,15)):=by unfold jF;rw[iQ ha,iQ hb,iQ hc,iJ hd]
   rw[e]at hj;rcases hd with rfl |rfl
   all_goals (first |with_reducible (refine qV ?_;(try dsimp only);refine qX omQ ?_;refine qJ ?_;refine qX omQ ?_;refine qJ ?_;refine qX omQ ?_;refine qJ ?_;refine qV ?_;(try dsimp only);refine qX omQ ?_;refine qJ ?_;refine qX omQ ?_;refine qJ ?_;refine qV ?_;(try dsimp only);refine qX omQ ?_;refine qJ ?_;refine qX omQ ?_;refine qJ ?_;refine qX omQ ?_;refine qJ ?_;refine qX omQ ?_;refine qJ ?_;refine qX omQ ?_;refine qJ ?_;refine qV ?_;(try dsimp only);refine qX omQ ?_;refine qJ ?_;refine qx omQ ?_;refine qZ ?_;refine qV ?_;(try dsimp only)) |with_reducible (refine qV ?_;(try dsimp only);refine qX omQ ?_;refine qJ ?_;refine qX omQ ?_;refine qJ ?_;refine qX omQ ?_;refine qJ ?_;refine qV ?_;(try dsimp only);refine qX omQ ?_;refine qJ ?_;refine qX omQ ?_;refine qJ ?_;refine qV ?_;(try dsimp only);refine qX omQ ?_;refine qJ ?_;refine qX omQ ?_;refine qJ ?_;refine qX omQ ?_;refine qJ ?_;refine qX omQ ?_;refine qJ ?_;refine qX omQ ?_;refine qJ ?_;refine qV ?_;(try dsimp only);refine qx omQ ?_;refine qZ ?_;refine qZ ?_;refine qV ?_;(try dsimp only)))
   all_goals refine qD H5 (b:=b7) (off:=0) .here rfl omQ rfl ?_
   all_goals refine qD H5 (b:=b7) (off:=0) .here rfl omQ rfl ?_
   all_goals refine qH (l:=vB (0,15)) rfl ?_
   all_goals refine qe H5 (b:=b0) e_3 rfl (by simp[vB]) rfl λh6 H6=>?_
   all_goals refine qe H6 (b:=b2) e_3 rfl (by simp[vB]) rfl λh7 H7=>?_
   all_goals refine qe H7 (b:=b4) e_3 rfl (by simp[vB]) rfl λh8 H8=>?_
   all_goals refine zn H5 (b:=b7) .here rfl H6 e_1 rfl rfl omQ (HS.lt H5 .here) ?_
   all_goals exact hj _ _ ⟨rfl,H8.sub (.cons e_2 (.cons e_1 (.cons .here (.drop .refl))))⟩
  by_cases he:x=12
  ·have e:jF x=((0,0),(0,0),(0,40)):=by unfold jF;rw[iQ ha,iQ hb,iQ hc,iQ hd,iJ he]
   rw[e]at hj;subst he;refine qV ?_;(try dsimp only);refine qX omQ ?_;refine qJ (qX omQ ?_);refine qJ (qX omQ ?_);refine qJ (qV ?_);(try dsimp only);refine qX omQ ?_;refine qJ (qX omQ ?_);refine qJ (qV ?_);(try dsimp only);refine qX omQ ?_;refine qJ (qX omQ ?_);refine qJ (qX omQ ?_);refine qJ (qX omQ ?_);refine qJ (qX omQ ?_);refine qJ (qV ?_);(try dsimp only);refine qX omQ ?_;refine qJ (qX omQ ?_);refine qJ (qx omQ ?_);refine qZ (qH rfl ?_)
   refine qe H5 (b:=b4) e_1 rfl (by simp[vB]) rfl λh6 H6=>?_;exact hj _ _ ⟨rfl,H6.sub (.cons e_3 (.cons e_2 (.cons .here (.drop .refl))))⟩
  by_cases hf:x=13
  ·have e:jF x=((0,7),(0,0),(0,40)):=by unfold jF;rw[iQ ha,iQ hb,iQ hc,iQ hd,iQ he,iJ hf]
   rw[e]at hj;subst hf;refine qV ?_;(try dsimp only);refine qX omQ ?_;refine qJ (qX omQ ?_);refine qJ (qX omQ ?_);refine qJ (qV ?_);(try dsimp only);refine qX omQ ?_;refine qJ (qX omQ ?_);refine qJ (qV ?_);(try dsimp only);refine qX omQ ?_;refine qJ (qX omQ ?_);refine qJ (qX omQ ?_);refine qJ (qX omQ ?_);refine qJ (qX omQ ?_);refine qJ (qV ?_);(try dsimp only);refine qX omQ ?_;refine qJ (qX omQ ?_);refine qJ (qX omQ ?_);refine qJ (qx omQ ?_);refine qZ ?_
   refine qD H5 (b:=b7) (off:=0) .here rfl omQ rfl ?_;refine qH (l:=vB (0,40)) rfl ?_;refine qe H5 (b:=b0) e_3 rfl (by simp[vB]) rfl λh6 H6=>?_;refine qe H6 (b:=b4) e_2 rfl (by simp[vB]) rfl λh7 H7=>?_;exact hj _ _ ⟨rfl,H7.sub (.cons e_1 (.cons e_2 (.cons .here (.drop .refl))))⟩
  by_cases hg:x=23
  ·have e:jF x=((1,12),(0,7),(0,6)):=by unfold jF;rw[iQ ha,iQ hb,iQ hc,iQ hd,iQ he,iQ hf,iJ hg]
   rw[e]at hj;subst hg;refine qV ?_;(try dsimp only);refine qX omQ ?_;refine qJ (qX omQ ?_);refine qJ (qX omQ ?_);refine qJ (qV ?_);(try dsimp only);refine qX omQ ?_;refine qJ (qX omQ ?_);refine qJ (qV ?_);(try dsimp only);refine qX omQ ?_;refine qJ (qX omQ ?_);refine qJ (qX omQ ?_);refine qJ (qX omQ ?_);refine qJ (qX omQ ?_);refine qJ (qV ?_);(try dsimp only);refine qX omQ ?_;refine qJ (qX omQ ?_);refine qJ (qX omQ ?_);refine qJ (qX omQ ?_);refine qJ (qx omQ ?_);refine qZ (qH rfl ?_);refine qH rfl ?_;refine qH rfl ?_
   refine qe H5 (b:=b0) e_3 rfl (by simp[vB]) rfl λh6 H6=>?_;refine qe H6 (b:=b2) e_3 rfl (by simp[vB]) rfl λh7 H7=>?_;refine qe H7 (b:=b4) e_3 rfl (by simp[vB]) rfl λh8 H8=>?_;exact hj _ _ ⟨rfl,H8.sub (.cons e_2 (.cons e_1 (.cons .here (.drop .refl))))⟩
  ·have e:jF x=((0,0),(0,0),(0,0)):=by unfold jF;rw[iQ ha,iQ hb,iQ hc,iQ hd,iQ he,iQ hf,iQ hg]
   rw[e]at hj ⊢;refine qV ?_;(try dsimp only);refine qX omQ ?_;refine qJ (qX omQ ?_);refine qJ (qX omQ ?_);refine qJ (qV ?_);(try dsimp only);refine qX omQ ?_;refine qJ (qX omQ ?_);refine qJ (qV ?_);(try dsimp only);refine qX omQ ?_;refine qJ (qX omQ ?_);refine qJ (qX omQ ?_);refine qJ (qX omQ ?_);refine qJ (qX omQ ?_);refine qJ (qV ?_);(try dsimp only);refine qX omQ ?_;refine qJ (qX omQ ?_);refine qJ (qX omQ ?_);refine qJ (qX omQ ?_);refine qJ (qX omQ ?_);refine qJ ?_
   exact hj _ _ ⟨rfl,H5.sub (.cons e_3 (.cons e_2 (.cons e_1 (.drop .refl))))⟩
 ·rintro s h6 ⟨rfl,H6⟩;dsimp only;generalize jF x=F at*;refine qV (qD H6 (b:=b0) (off:=0) .here rfl omQ rfl ?_);refine qD H6 (b:=b2) (off:=0) e_1 rfl omQ rfl ?_;refine qD H6 (b:=b4) (off:=0) e_2 rfl omQ rfl ?_;refine qe H6 (b:=b0) .here rfl (by simp[vB]) rfl λh7 H7=>?_;refine qe H7 (b:=b2) e_1 rfl (by simp[vB]) rfl λh8 H8=>?_;refine qe H8 (b:=b4) e_2 rfl (by simp[vB]) rfl λh9 H9=>?_;refine zn H7 (b:=b4) e_2 rfl H8 e_2 rfl rfl omQ (HS.lt H6 e_2) ?_;refine zn H6 (b:=b4) e_2 rfl H7 e_2 rfl rfl omQ (HS.lt H6 e_2) ?_;refine zn H6 (b:=b2) e_1 rfl H7 e_1 rfl rfl omQ (HS.lt H6 e_1) ?_;refine qk (qD H9 (b:=b0) (off:=0) e_2 rfl omQ rfl ?_);refine qD H9 (b:=b2) (off:=0) e_1 rfl omQ rfl ?_;refine qD H9 (b:=b4) (off:=0) .here rfl omQ rfl ?_;exact qj ⟨rfl,H9.drop.drop.drop⟩
def nameL:List (List UInt8):=[[],[115,101,116],[109,111,118,101],[97,100,100],[115,117,98],[109,117,108],[108,101,115,115],[101,113,117,97,108],[108,111,97,100],[115,116,111,114,101],[97,108,108,111,99],[102,114,101,101],[106,117,109,112],[122,101,114,111],[111,112,101,110],[99,108,111,115,101],[117,110,100,111],[101,105,116,104,101,114],[111,114],[100,111,110,101],[114,101,116,114,121],[101,109,105,116],[102,97,105,108],[99,97,108,108]]
theorem qxn {p:Nat} (hp:p<24):∃s,nameL[p]? =some s∧ZD .neq s []=some (.bool (decide (1≤(p:Int)∧(p:Int)≤23))):=by
 match p,hp with
 | 0,_=>exact⟨_,rfl,rfl⟩
 | 1,_=>exact⟨_,rfl,rfl⟩
 | 2,_=>exact⟨_,rfl,rfl⟩
 | 3,_=>exact⟨_,rfl,rfl⟩
 | 4,_=>exact⟨_,rfl,rfl⟩
 | 5,_=>exact⟨_,rfl,rfl⟩
 | 6,_=>exact⟨_,rfl,rfl⟩
 | 7,_=>exact⟨_,rfl,rfl⟩
 | 8,_=>exact⟨_,rfl,rfl⟩
 | 9,_=>exact⟨_,rfl,rfl⟩
 | 10,_=>exact⟨_,rfl,rfl⟩
 | 11,_=>exact⟨_,rfl,rfl⟩
 | 12,_=>exact⟨_,rfl,rfl⟩
 | 13,_=>exact⟨_,rfl,rfl⟩
 | 14,_=>exact⟨_,rfl,rfl⟩
 | 15,_=>exact⟨_,rfl,rfl⟩
 | 16,_=>exact⟨_,rfl,rfl⟩
 | 17,_=>exact⟨_,rfl,rfl⟩
 | 18,_=>exact⟨_,rfl,rfl⟩
 | 19,_=>exact⟨_,rfl,rfl⟩
 | 20,_=>exact⟨_,rfl,rfl⟩
 | 21,_=>exact⟨_,rfl,rfl⟩
 | 22,_=>exact⟨_,rfl,rfl⟩
 | 23,_=>exact⟨_,rfl,rfl⟩
 |k+24,h=>exact absurd h omQ
theorem qqE {n:Nat} (hn:2≤n) {x:Int} (H:HS g h R):t_w n 214 [.int .i64 x] h λv h'=>∃s,v=.str s∧ZD .neq s []=some (.bool (decide (1≤x∧x≤23)))∧HS g h' R:=by
 refine t_e1 (S:=S214) rfl omQ λk hk=>?_;unfold S214;try simp only[iZ]
 refine qG (Q':=λv h'=>∃e,HS g h' (qy e 1 24 v (nameL.map .str)::R)) ?_ ?_
 ·(refine qB (g:=W272) rfl omQ λk hk=>?_;show wp (S272 (callT tab qz k) _) _;unfold S272;try simp only[iI,uU,iZ])
  exact qf (n:=24) (l:=nameL.map .str) (sz:=1) H rfl rfl rfl rfl λv h1 H1=>qj ⟨_,H1⟩
 rintro v h1 ⟨e,H1⟩;refine qG (Q':=λw h'=>∃s,w=.str s∧ZD .neq s []=some (.bool (decide (1≤x∧x≤23)))∧h'=h1) ?_ ?_
 ·refine t_e2 (S:=S271) rfl omQ λk hk=>?_;unfold S271;try simp only[iZ]
  by_cases c0:x<0
  ·refine jd omQ ?_;refine qV ?_;(try dsimp only);refine qo ?_;(try dsimp only);refine qF (qZ ?_)
   exact qj ⟨[],rfl,by rw[iV omQ];rfl,rfl⟩
  ·refine jH omQ ?_;refine qV ?_;(try dsimp only);refine qd ?_;(try dsimp only);refine qi ‹_› .here ?_
   by_cases c1:x<24
   ·obtain⟨p,rfl⟩:∃p:Nat,x=(p:Int):=⟨x.toNat,by omega⟩;obtain⟨s,hs,ht⟩:=qxn (show p<24 by omega);refine zN omQ ?_;refine qI (qJ (zJ (H1.sl .here) (x:=.str s) (by rw[List.getElem?_map,hs];rfl) (qj ⟨s,rfl,ht,rfl⟩)))
   ·refine zO omQ ?_;refine qI (qZ ?_);exact qj ⟨[],rfl,by rw[iV omQ];rfl,rfl⟩
 ·rintro _ h2 ⟨s,rfl,ht,rfl⟩;exact qj ⟨s,rfl,ht,H1.drop⟩
theorem qz0 {n:Nat} (hn:3≤n) {x:qR} (H:HS g h R):t_w n 166 [.agg (jK x)] h λv h'=>v=.bool (vR x)∧HS g h' R:=by
 refine t_e1 (S:=S166) rfl omQ λk hk=>?_;unfold S166;try simp only[iZ]
 obtain⟨op,a,b,c,q⟩:=x;refine qO H rfl λb0 h1 H1=>?_;have H1:HS g h1 (qg b0 [.int .i64 op,.int .i64 a,.int .i64 b,.int .i64 c,.int .u64 q]::R):=H1;refine qQ (qK ‹_› .here rfl ?_);refine qG (qJA omQ H1) ?_;rintro _ h2 ⟨rfl,H2⟩;have hM:vR (op,a,b,c,q)=(decide (1≤op∧op≤23)&&vP (jF op).1 a&&vP (jF op).2.1 b&&vP (jF op).2.2 c&&decide (q=0∨op=1)):=rfl;rw[hM];generalize jF op=F at*;obtain⟨f1,f2,f3⟩:=F;dsimp only;refine qA rfl ?_;refine qA rfl ?_;refine qA rfl ?_;refine qO H2 rfl λb1 h3 H3=>?_;refine qO H3 rfl λb2 h4 H4=>?_;refine qO H4 rfl λb3 h5 H5=>?_;refine qe H5 (b:=b1) e_2 rfl osQ rfl λh6 H6=>?_;refine qe H6 (b:=b2) e_2 rfl osQ rfl λh7 H7=>?_;refine qe H7 (b:=b3) e_2 rfl osQ rfl λh8 H8=>?_;have H8:HS g h8 (qg b3 (vB f3)::qg b2 (vB f2)::qg b1 (vB f1)::qg b0 [.int .i64 op,.int .i64 a,.int .i64 b,.int .i64 c,.int .u64 q]::R):=H8;clear H H1 H2 H3 H4 H5 H6 H7;refine qQ (qK ‹_› e_3 rfl ?_);refine qG (qqE omQ H8) ?_;rintro _ h9 ⟨s,rfl,ht,H⟩;refine qgT ht ?_;clear H8;by_cases c1:1≤op∧op≤23
 rotate_left
 ·rw[iV c1];refine qV ?_;(try dsimp only);refine qS ?_;(try dsimp only);refine qI (qV ?_);(try dsimp only);refine qS ?_;(try dsimp only);refine qI (qV ?_);(try dsimp only);refine qS ?_;(try dsimp only);refine qI (qV ?_);(try dsimp only);refine qS ?_;(try dsimp only);refine qV ?_;(try dsimp only);refine jt ?_;(try dsimp only);refine qV ?_;(try dsimp only);refine qS ?_;(try dsimp only);refine qI ?_
  exact qj ⟨rfl,H.drop.drop.drop.drop⟩
 rw[iG c1];refine qV ?_;(try dsimp only);refine qa ?_;(try dsimp only)
 refine qD H (b:=b1) (off:=0) e_2 rfl omQ rfl ?_;refine qQ (qK ‹_› e_3 rfl ?_);refine qG (Uy omQ H) ?_;rintro _ h10 ⟨rfl,H10⟩;cases hf1:vP f1 a
 ·refine qF (qV ?_);(try dsimp only);refine qS ?_;(try dsimp only);refine qI (qV ?_);(try dsimp only);refine qS ?_;(try dsimp only);refine qI (qV ?_);(try dsimp only);refine qS ?_;(try dsimp only);refine qV ?_;(try dsimp only);refine jt ?_;(try dsimp only);refine qV ?_;(try dsimp only);refine qS ?_;(try dsimp only);refine qI ?_
  exact qj ⟨rfl,H10.drop.drop.drop.drop⟩
 refine qF (qV ?_);(try dsimp only);refine qa ?_;(try dsimp only)
 refine qD H10 (b:=b2) (off:=0) e_1 rfl omQ rfl ?_;refine qQ (qK ‹_› e_3 rfl ?_);refine qG (Uy omQ H10) ?_;rintro _ h11 ⟨rfl,H11⟩;cases hf2:vP f2 b
 ·refine qF (qV ?_);(try dsimp only);refine qS ?_;(try dsimp only);refine qI (qV ?_);(try dsimp only);refine qS ?_;(try dsimp only);refine qV ?_;(try dsimp only);refine jt ?_;(try dsimp only);refine qV ?_;(try dsimp only);refine qS ?_;(try dsimp only);refine qI ?_
  exact qj ⟨rfl,H11.drop.drop.drop.drop⟩
 refine qF (qV ?_);(try dsimp only);refine qa ?_;(try dsimp only)
 refine qD H11 (b:=b3) (off:=0) .here rfl omQ rfl ?_;refine qQ (qK ‹_› e_3 rfl ?_);refine qG (Uy omQ H11) ?_;rintro _ h12 ⟨rfl,H12⟩;cases hf3:vP f3 c
 ·refine qF (qV ?_);(try dsimp only);refine qS ?_;(try dsimp only);refine qV ?_;(try dsimp only);refine jt ?_;(try dsimp only);refine qV ?_;(try dsimp only);refine qS ?_;(try dsimp only);refine qI ?_
  exact qj ⟨rfl,H12.drop.drop.drop.drop⟩
 by_cases c2:q=0
 ·refine qF (qV ?_);(try dsimp only);refine qa ?_;(try dsimp only);refine qQ (qK ‹_› e_3 rfl ?_);refine qx omQ ?_;refine qV ?_;(try dsimp only);refine qo ?_;(try dsimp only);refine qV ?_;(try dsimp only);refine qa ?_;(try dsimp only);refine qF (qF ?_)
  exact qj ⟨by rw[iG (.inl c2)];rfl,H12.drop.drop.drop.drop⟩
 by_cases c3:op=1
 ·refine qF (qV ?_);(try dsimp only);refine qa ?_;(try dsimp only);refine qQ (qK ‹_› e_3 rfl ?_);refine qX omQ ?_;refine qV ?_;(try dsimp only);refine qd ?_;(try dsimp only);refine qQ (qK ‹_› e_3 rfl ?_);refine qx omQ ?_;refine qV ?_;(try dsimp only);refine qa ?_;(try dsimp only);refine qI (qF ?_)
  exact qj ⟨by rw[iG (.inr c3)];rfl,H12.drop.drop.drop.drop⟩
 ·refine qF (qV ?_);(try dsimp only);refine qa ?_;(try dsimp only);refine qQ (qK ‹_› e_3 rfl ?_);refine qX omQ ?_;refine qV ?_;(try dsimp only);refine qd ?_;(try dsimp only);refine qQ (qK ‹_› e_3 rfl ?_);refine qX omQ ?_;refine qV ?_;(try dsimp only);refine qa ?_;(try dsimp only);refine qI (qF ?_)
  exact qj ⟨by rw[iV (λh=>h.elim c2 c3)];rfl,H12.drop.drop.drop.drop⟩
end Go.Proofs.YtnalffoigcmnnabGreatDoor
namespace Go.Proofs.YtnalffoigcmnnabGreatDoor
open Go Go.Ae
set_option maxRecDepth 100000
variable {g h:AH} {L R:List SP}
theorem qkb {l:List qR} {i:Nat} (hi:i<l.length):qP l (i:Int)=l[i]:=by unfold qP;rw[show((i:Int)).toNat=i by omega,iW hi];rfl
theorem qje {n:Nat} (hn:2≤n) {l:List qR} {st:List Int} {sv tv:AV} (H:HS g h R) (S:Rd g R 5 l.length sv (l.flatMap jK)) (T:Rd g R 1 st.length tv (st.map (.int .i64))) (hs:StOk l.length st) (hl:st.length<1000) :
  t_w n 167 [tv,.agg [sv]] h λv h'=>v=.int .i64 (opM l st)∧HS g h' R:=by
 refine t_e2 (S:=S167) rfl omQ λk hk=>?_;unfold S167;try simp only[iZ]
 refine qO H (yh (kj (S.sl H))) λb h1 H1=>?_;refine xW (T.sl H1.drop) ?_;unfold opM;by_cases h0:st=[]
 ·subst h0;rw[iJ rfl]
  skip
  exact qj ⟨rfl,H1.drop⟩
 ·have hl0:st.length≠0:=λh=>h0 (iA h);rw[iQ h0];refine qX omQ ?_;refine qJ (qV ?_);(try dsimp only);refine qQ (qK ‹_› .here rfl ?_)
  refine qG (Yk omQ (T.sl H1.drop) hl) ?_;rintro _ h1 ⟨rfl,rfl⟩;have hi:=hs.inmost h0;generalize qt st=p at*;obtain⟨p,rfl⟩:∃q:Nat,p=(q:Int):=⟨p.toNat,by omega⟩;have hp:p<l.length:=by omega
  refine yT (x:=.int .i64 l[p].1) (S.sl H1.drop) omQ hp (by rw[XQ (sz:=5) jK (λ_=>rfl) _ _ _ omQ,iW hp];rfl) ?_;refine qb ‹_› .here rfl ‹_› .here rfl (HS.lt ‹_› .here) ?_;exact qj ⟨by rw[qkb hp],H1.drop⟩
theorem qKo {n:Nat} (hn:4≤n) {l:List qR} {st:List Int} {sv tv:AV} {x:qR} (H:HS g h R) (S:Rd g R 5 l.length sv (l.flatMap jK)) (T:Rd g R 1 st.length tv (st.map (.int .i64))) (hs:StOk l.length st) (hl:st.length<1000) :
  t_w n 127 [.agg [sv],tv,.agg (jK x)] h λv h'=>v=.int .i64 (zc l st x)∧HS g h' R:=by
 refine t_e3 (S:=S127) rfl omQ λk hk=>?_;unfold S127;try simp only[iZ]
 refine qO H (yh (kj (S.sl H))) λb0 h1 H1=>?_;refine qO H1 rfl λb2 h2 H2=>?_;refine qD H2 (b:=b2) (off:=0) .here rfl omQ rfl ?_;refine qG (qz0 omQ H2) ?_;rintro _ h3 ⟨rfl,H3⟩;clear H H1 H2;obtain⟨op,a,b,c,q⟩:=x;have hW:zc l st (op,a,b,c,q)=if vR (op,a,b,c,q)=false then 8 else if 0<jr op∧opM l st≠jr op then 12 else if op=16∧opM l st≠14 then 12 else if z7 op=true∧5≤st.length then 9 else 0:=rfl
 rw[hW];have H3:HS g h3 (qg b2 [.int .i64 op,.int .i64 a,.int .i64 b,.int .i64 c,.int .u64 q]::qg b0 [sv]::R):=H3;cases vR (op,a,b,c,q)
 ·refine jV (qZ ?_);exact qj ⟨rfl,H3.drop.drop⟩
 rw[iQ osQ]
 (first |with_reducible refine qZ ?_ |with_reducible refine qJ ?_ |(with_reducible refine qa ?_;try dsimp only) |(with_reducible refine qo ?_;try dsimp only) |(with_reducible refine qS ?_;try dsimp only) |(with_reducible refine qd ?_;try dsimp only) |(with_reducible refine jt ?_;try dsimp only) |with_reducible refine qF ?_ |with_reducible refine qI ?_ |(with_reducible refine qV ?_;try dsimp only) |with_reducible refine qk ?_ |with_reducible refine jX ?_ |with_reducible refine jV ?_ |with_reducible refine qc omQ ?_ |with_reducible refine zQ omQ ?_ |with_reducible refine xd omQ ?_ |with_reducible refine yK omQ ?_ |with_reducible refine zX ?_ |with_reducible refine zC ?_)
 (first |with_reducible refine qZ ?_ |with_reducible refine qJ ?_ |(with_reducible refine qa ?_;try dsimp only) |(with_reducible refine qo ?_;try dsimp only) |(with_reducible refine qS ?_;try dsimp only) |(with_reducible refine qd ?_;try dsimp only) |(with_reducible refine jt ?_;try dsimp only) |with_reducible refine qF ?_ |with_reducible refine qI ?_ |(with_reducible refine qV ?_;try dsimp only) |with_reducible refine qk ?_ |with_reducible refine jX ?_ |with_reducible refine jV ?_ |with_reducible refine qc omQ ?_ |with_reducible refine zQ omQ ?_ |with_reducible refine xd omQ ?_ |with_reducible refine yK omQ ?_ |with_reducible refine zX ?_ |with_reducible refine zC ?_)
 refine OE (λs h'=>s=(.bool (decide (0<jr op∧opM l st≠jr op)),.ptr b2 0,.ptr b0 0,tv,())∧HS g h' (qg b2 [.int .i64 op,.int .i64 a,.int .i64 b,.int .i64 c,.int .u64 q]::qg b0 [sv]::R)) ?_ ?_
 ·intro j hj;refine qQ (qK ‹_› .here rfl ?_);refine qG (Gk omQ) ?_;rintro _ h3 ⟨rfl,rfl⟩;by_cases h1:0<jr op
  ·refine yB omQ ?_;refine qa ?_;(try dsimp only)
   refine qD H3 (b:=b0) (off:=0) e_1 rfl omQ rfl ?_;refine qG (qje omQ H3 S.more.more T.more.more hs hl) ?_;rintro _ h4 ⟨rfl,H4⟩;refine qQ (qK ‹_› .here rfl ?_);refine qG (Gk omQ) ?_;rintro _ h4 ⟨rfl,rfl⟩;refine Vg (qF (qb ‹_› .here rfl ‹_› .here rfl (HS.lt ‹_› .here) ?_));refine hj _ _ ⟨?_,H4⟩
   congr 2
   exact decide_eq_decide.2 ⟨λh=>⟨h1,h⟩,λh=>h.2⟩
  ·refine yV omQ ?_;refine qS ?_;(try dsimp only);refine qI ?_
   refine hj _ _ ⟨?_,H3⟩;rw[iV (λh=>h1 h.1)]
 clear H3;rintro s h4 ⟨rfl,H⟩;dsimp only;by_cases hA:0<jr op∧opM l st≠jr op
 ·rw[iG hA,iJ hA];refine qZ ?_;exact qj ⟨rfl,H.drop.drop⟩
 rw[iV hA,iQ hA];refine qJ (qQ (qK ‹_› .here rfl ?_));refine XJ (OE (λs h'=>∃(r:AV) (u x:Bool),s=(r,.bool u,.ptr b2 0,tv,())∧(u=true→r=.bool x)∧((u&&x)=decide (op=16∧opM l st≠14))∧HS g h' (qg b2 [.int .i64 op,.int .i64 a,.int .i64 b,.int .i64 c,.int .u64 q]::qg b0 [sv]::R)) ?_ ?_)
 ·intro j hj;by_cases h1:op=16
  ·rw[iG (show op=((16:Nat):Int)from h1)];refine qa ?_;(try dsimp only)
   refine qD H (b:=b0) (off:=0) e_1 rfl omQ rfl ?_;refine qG (qje omQ H S.more.more T.more.more hs hl) ?_;rintro _ h4 ⟨rfl,H4⟩;refine Vg (hj _ _ ⟨_,true,decide (¬opM l st=14),rfl,λ_=>rfl,?_,H4⟩);rw[Bool.true_and];exact decide_eq_decide.2 ⟨λh=>⟨h1,h⟩,λh=>h.2⟩
  ·rw[iV (show¬op=((16:Nat):Int)from h1)];refine qS ?_;(try dsimp only)
   refine hj _ _ ⟨_,false,false,rfl,(λh=>by cases h),?_,H⟩;rw[iV (λh=>h1 h.1)];rfl
 clear H;rintro s h4 ⟨r,u,y,rfl,hr,hu,H⟩;dsimp only;refine qQF hr ?_;rw[hu];by_cases hB:op=16∧opM l st≠14
 ·rw[iG hB,iJ hB];refine qZ ?_;exact qj ⟨rfl,H.drop.drop⟩
 rw[iV hB,iQ hB];refine qJ (qQ (qK ‹_› .here rfl ?_));refine qG (Uv omQ) ?_;rintro _ h4 ⟨rfl,rfl⟩;cases hb:z7 op
 ·rw[iQ osQ];refine qV ?_;(try dsimp only);refine qS ?_;(try dsimp only);refine qI (qJ ?_)
  exact qj ⟨rfl,H.drop.drop⟩
 ·refine qV ?_;(try dsimp only);refine qa ?_;(try dsimp only)
  refine xW (T.sl H.drop.drop) ?_;by_cases h5:5≤st.length
  ·rw[iJ ⟨rfl,h5⟩];refine zO omQ ?_;refine qF (qZ ?_);exact qj ⟨rfl,H.drop.drop⟩
  ·rw[iQ (λh=>h5 h.2)];refine zN omQ ?_;refine qF (qJ ?_);exact qj ⟨rfl,H.drop.drop⟩
def StC (v:AV) (st:List Int):SP:=qy 3 1 st.length v (st.map (.int .i64))
theorem U9 {n:Nat} (hn:2≤n) {st:List Int} {tv:AV} {i op:Int} (H:HS g h (StC tv st::R)) (hs:0<jr op→st≠[]) (hl:st.length<1000) :
  t_w n 128 [tv,.int .i64 i,.int .i64 op] h λv h'=>HS g h' (StC v (jZ st i op)::R):=by
 refine t_e3 (S:=S128) rfl omQ λk hk=>?_;unfold S128;try simp only[iZ]
 refine jT [] (λs h'=>∃v,s=(.int .i64 op,.int .i64 i,v,())∧HS g h' (StC v (if 0<jr op then st.dropLast else st)::R)) ?_ ?_
 ·intro j hj;refine qG (Gk omQ) ?_;rintro _ h ⟨rfl,rfl⟩;by_cases h1:0<jr op
  ·have hne:=hs h1;have hl0:st.length≠0:=λh=>hne (iA h);rw[iJ h1]at hj;refine yB h1 (qZ ?_);refine xW (H.sl (e:=3) .here) ?_;refine zQ omQ ?_;rw[show(st.length:Int)-((1:Nat):Int)=((st.length-1:Nat):Int) by omega];refine XC H omQ omQ λv H1=>?_;refine hj _ _ ⟨v,rfl,?_⟩;unfold StC;rw[List.length_dropLast,List.dropLast_eq_take,List.map_take];rw[Nat.mul_one]at H1;exact H1
  ·rw[iQ h1]at hj;refine yV h1 (qJ ?_);exact hj _ _ ⟨tv,rfl,H⟩
 clear H;rintro s h1 ⟨v,rfl,H⟩;unfold jZ;have hl2:(if 0<jr op then st.dropLast else st).length<1000:=by
  split
  ·rw[List.length_dropLast];omega
  ·exact hl
 generalize(if 0<jr op then st.dropLast else st)=st at*;dsimp only;refine qV ?_;(try dsimp only)
 refine qG (Uv omQ) ?_;rintro _ h1 ⟨rfl,rfl⟩;have push:∀{K:AV→AH→Go.Ae.R} {Q:AV→AH→Prop},(∀v' h',HS g h' (StC v' (st++[i])::R)→wp (K v' h') Q)→
   wp (zh h1 3 [.int .i64 ((0:Nat):Int)] 1 [(0,1,.int .i64 i)] λv15 h16=>xY h16 3 1 v v15 K) Q:=by
  intro K Q w;refine qf (n:=1) (l:=[.int .i64 i]) (sz:=1) H rfl rfl rfl rfl λv5 h5 H5=>?_;refine jf (H5.sel e_1) (H5.sl .here) omQ omQ rfl λv6 h6 H6=>w v6 h6 ?_;unfold StC;rw[List.map_append,List.length_append];exact H6.sub (.cons .here (.drop .refl))
 cases hb:z7 op
 ·by_cases h18:op=18
  ·rw[iJ (.inr h18)];refine qV ?_;(try dsimp only);refine qd ?_;(try dsimp only);refine qx omQ ?_;refine qI (qZ ?_)
   exact push λv' h' H'=>qk (qj H')
  ·rw[iQ (by simp;exact h18)];refine qV ?_;(try dsimp only);refine qd ?_;(try dsimp only);refine qX omQ ?_;refine qI (qJ (qk ?_))
   exact qj H
 ·rw[iJ (.inl rfl)];refine qV ?_;(try dsimp only);refine qo ?_;(try dsimp only);refine qF (qZ ?_)
  exact push λv' h' H'=>qk (qj H')
theorem Gq {l:List qR} {i:Nat} {st:List Int} (hi:i<l.length):goM l (l.drop i) i st=if zc l st l[i]=0 then goM l (l.drop (i+1)) (i+1) (jZ st i l[i].1)else .inl ((i:Int),zc l st l[i]):=by rw[List.drop_eq_getElem_cons hi];rfl
theorem Mg {l:List qR} {i:Nat} {st:List Int} (hi:i<l.length):vC (l.drop i) i st=qt st::vC (l.drop (i+1)) (i+1) (jZ st i l[i].1):=by rw[List.drop_eq_getElem_cons hi];rfl
theorem Yj {l:List qR} {a:List Int} {i:Nat} (hi:i<l.length):Js l a (l.drop i) i=if Jo l a i l[i]then((i:Int),2)else Js l a (l.drop (i+1)) (i+1):=by rw[List.drop_eq_getElem_cons hi];rfl
theorem Xm {l:List qR} {i:Nat} (hi:i<l.length):((l.flatMap jK).drop (i*5)).take 5=jK l[i]:=gF (sz:=5) (λ_=>rfl) (iW hi)
theorem Ky {n:Nat} (hn:3≤n) {l:List qR} {st':List Int} {sv:AV} (H:HS g h R) (S:Rd g R 5 l.length sv (l.flatMap jK)) (hg:goM l l 0 []=.inr st') (hl:l.length≤100) :
  t_w n 131 [.agg [sv]] h λv h'=>HS g h' (qy 3 1 l.length v ((vC l 0 []).map (.int .i64))::R):=by
 refine t_e1 (S:=S131) rfl omQ λk hk=>?_;unfold S131;try simp only[iZ]
 refine qO H (yh (kj (S.sl H))) λb0 h1 H1=>?_;refine qQ (qK ‹_› .here rfl ?_);refine xW (S.sl H1.drop) ?_;refine GF (n:=l.length) H1 omQ λov h2 H2=>?_;refine qQ (qK ‹_› e_1 rfl ?_);refine xW (S.sl H2.drop.drop) ?_
 refine jN (λm s h'=>∃(i:Nat) (st A:List Int) (tv:AV),s=(.int .i64 (i:Int),.int .i64 (l.length:Int),sv,tv,ov,())∧i≤l.length∧m=l.length-i∧StOk i st∧st.length≤i∧goM l (l.drop i) i st=.inr st'∧A.length=i∧vC l 0 []=A++vC (l.drop i) i st∧
  HS g h' (qy 3 1 l.length ov ((A++List.replicate (l.length-i) 0).map (.int .i64))::StC tv st::R))
  ?_ (m:=l.length) (by show _<1000000000;omega) ⟨0,[],[],.nils,rfl,by omega,by omega,StOk.nil,by simp,hg,rfl,rfl,by
   rw[List.nil_append,List.map_replicate]
   exact(H2.nils (e:=3) (sz:=1)).sub (.cons e_1 (.cons .here (.drop .refl)))⟩
 clear H H1 H2;rintro m ih s h3 hih ⟨i,st,A,tv,rfl,hi,rfl,hs,hsl,hgo,hA,hR,H⟩;dsimp only;by_cases hlt:i<l.length
 ·rw[Gq hlt]at hgo;rw[Mg hlt]at hR;have hrow:=Xm hlt;generalize l[i]=x at*;by_cases hw:zc l st x=0
  rotate_left
  ·rw[iQ hw]at hgo;cases hgo
  rw[iJ hw]at hgo;have ho:=xv hw;refine jd omQ ?_;refine qZ (zU (S.sl H.drop.drop) hlt omQ hrow ?_);refine qO H rfl λb h4 H4=>?_;refine qe H4 (b:=b) .here rfl (by simp[jK]) rfl λh5 H5=>?_;have H5:HS g h5 (qg b (jK x)::qy 3 1 l.length ov ((A++List.replicate (l.length-i) 0).map (.int .i64))::StC tv st::R):=H5;unfold jK at H5;refine qG (Yk omQ (H5.sl (e:=3) e_2) omQ) ?_;rintro _ h5 ⟨rfl,rfl⟩;refine Gc (H5.sel e_1) omQ ⟨rfl,rfl⟩ λh6 H6=>?_;have hset:((A++List.replicate (l.length-i) 0).map (AV.int .i64)).set i (.int .i64 (qt st))=((A++[qt st])++List.replicate (l.length-(i+1)) 0).map (.int .i64):=by
   rw[← List.map_set]
   congr 1
   rw[List.set_append_right _ _ omQ,hA,Nat.sub_self,show l.length-i=(l.length-(i+1))+1 by omega,List.replicate_succ];simp
  rw[hset]at H6;refine qQ (qK ‹_› e_1 rfl ?_);refine qG (U9 omQ (H6.sub (L':=StC tv st::qg b [.int .i64 x.1,.int .i64 x.2.1,.int .i64 x.2.2.1,.int .i64 x.2.2.2.1,.int .u64 x.2.2.2.2]::qy 3 1 l.length ov (((A++[qt st])++List.replicate (l.length-(i+1)) 0).map (.int .i64))::R) (.cons e_2 (.cons e_1 (.cons .here .refl)))) (λh=>ho.2.1 (.inl h)) omQ) ?_;intro tv2 h8 H8;refine qc omQ ?_;have hbl:=Ug st i x.1;exact hih (l.length-(i+1)) _ _ omQ ⟨i+1,jZ st i x.1,A++[qt st],tv2,rfl,by omega,rfl,hs.behind,by omega,hgo,by simp[hA],by rw[hR];simp,H8.sub (.cons e_2 (.cons .here (.drop .refl)))⟩
 ·obtain rfl:i=l.length:=by omega
  refine jH omQ ?_;refine qJ (qk (qj ?_));rw[hR];rw[Nat.sub_self,List.replicate_zero,List.append_nil]at H;rw[List.drop_length];show HS g h3 (qy _ 1 l.length ov ((A++[]).map _)::R);rw[List.append_nil];exact H.sub (.cons .here (.drop .refl))
theorem qWt {x:qR} (h:vR x=true) (hj:x.1=12∨x.1=13):0≤x.2.2.2.1∧x.2.2.2.1≤40:=by
 have e:(jF x.1).2.2=(0,40):=by
  rcases hj with e |e<;>rw[e]<;>rfl
 unfold vR at h;rw[e]at h;simp only[Bool.and_eq_true,vP,decide_eq_true_eq]at h;exact h.1.2
theorem qKD {n:Nat} (hn:2≤n) {l:List qR} {a:List Int} {sv av:AV} (H:HS g h R) (S:Rd g R 5 l.length sv (l.flatMap jK)) (T:Rd g R 1 a.length av (a.map (.int .i64))) (ha:a.length=l.length) (hm:∀x∈l,vR x=true) (hl:l.length≤100) :
  t_w n 130 [.agg [sv],av] h λv h'=>v=.tup [.int .i64 (Js l a l 0).1,.int .i64 (Js l a l 0).2]∧HS g h' R:=by
 refine t_e2 (S:=S130) rfl omQ λk hk=>?_;unfold S130;try simp only[iZ]
 refine qO H (yh (kj (S.sl H))) λb0 h1 H1=>?_;have hLV:=(S.sl H).lenV;clear H;refine qQ (qK ‹_› .here rfl ?_);refine yA ‹_› ?_;refine jN (λm s h'=>∃i:Nat,s=(.int .i64 (i:Int),.int .i64 (l.length:Int),sv,.ptr b0 0,av,())∧i≤l.length∧m=l.length-i∧Js l a l 0=Js l a (l.drop i) i∧HS g h' (qg b0 [sv]::R))
  ?_ (m:=l.length) (by show _<1000000000;omega) ⟨0,rfl,by omega,by omega,rfl,H1⟩
 clear H1;rintro m ih s h2 hih ⟨i,rfl,hi,rfl,hJ,H⟩;dsimp only;by_cases hlt:i<l.length
 rotate_left
 ·obtain rfl:i=l.length:=by omega
  rw[List.drop_length]at hJ;rw[hJ];refine jH omQ ?_;refine qJ (qk ?_);exact qj ⟨rfl,H.drop⟩
 rw[Yj hlt]at hJ;have hrow:=Xm hlt;have hmx:=hm l[i] (List.getElem_mem hlt);generalize l[i]=x at*;obtain⟨op,xa,xb,c,q⟩:=x;unfold jK at hrow;refine jd omQ (qZ ?_);refine jT [] (λs h'=>s=(.int .i64 (i:Int),.int .i64 (l.length:Int),sv,.ptr b0 0,av,())∧¬Jo l a i (op,xa,xb,c,q)∧HS g h' (qg b0 [sv]::R)) ?_ ?_
 rotate_left
 ·rintro s h3 ⟨rfl,hno,H3⟩;rw[iQ hno]at hJ;refine qc omQ ?_;exact hih (l.length-(i+1)) _ _ omQ ⟨i+1,rfl,by omega,rfl,hJ,H3⟩
 intro j hj;clear hih;refine zU (S.sl H.drop) hlt omQ hrow ?_;refine qO H rfl λb h4 H4=>?_;refine qe H4 (b:=b) .here rfl osQ rfl λh5 H5=>?_;have H5:HS g h5 (qg b [.int .i64 op,.int .i64 xa,.int .i64 xb,.int .i64 c,.int .u64 q]::qg b0 [sv]::R):=H5;clear H H4;refine qQ (qK ‹_› .here rfl ?_);refine qG (qzd omQ) ?_;rintro _ h5 ⟨rfl,rfl⟩;by_cases hjm:op=12∨op=13
 rotate_left
 ·rw[iV hjm];refine jV (qZ ?_);exact hj _ _ ⟨rfl,λh=>hjm h.1,H5.drop⟩
 rw[iG hjm];have hc:=qWt hmx hjm;dsimp only at hc;obtain⟨p,rfl⟩:∃p:Nat,c=(p:Int):=⟨c.toNat,by omega⟩;have hcell:∀k:Nat,k<l.length→(a.map (AV.int .i64))[k]? =some (.int .i64 (qM a (k:Int))):=by intro k hk;unfold qM;rw[List.getElem?_map,show((k:Int)).toNat=k by omega,iW omQ];rfl
 have Ta:Sl (λ_=>True) h5 1 a.length av (a.map (.int .i64)):=T.sl H5.drop.drop;by_cases c1:l.length<p
 ·rw[iJ ⟨hjm,.inl (by dsimp only;omega)⟩]at hJ;rw[hJ];refine jX (qJ (qQ (qK ‹_› .here rfl ?_)));refine qQ (qK ‹_› e_1 rfl ?_);refine yA ‹_› ?_;refine yB omQ ?_;refine qV ?_;(try dsimp only);refine qo ?_;(try dsimp only);refine qV ?_;(try dsimp only);refine jt ?_;(try dsimp only);refine qV ?_;(try dsimp only);refine qo ?_;(try dsimp only);refine qF (qV ?_);(try dsimp only);refine qo ?_;(try dsimp only);refine qV ?_;(try dsimp only);refine jt ?_;(try dsimp only);refine qV ?_;(try dsimp only);refine qo ?_;(try dsimp only);refine qF (qZ (qk ?_))
  exact qj ⟨rfl,H5.drop.drop⟩
 by_cases c2:p=l.length
 ·subst c2;refine jX (qJ (qQ (qK ‹_› .here rfl ?_)));refine qQ (qK ‹_› e_1 rfl ?_);refine yA ‹_› ?_;refine yV omQ ?_;refine qV ?_;(try dsimp only);refine qd ?_;(try dsimp only);refine qQ (qK ‹_› .here rfl ?_);refine qQ (qK ‹_› e_1 rfl ?_);refine yA ‹_› ?_;refine qx omQ ?_;refine qV ?_;(try dsimp only);refine qa ?_;(try dsimp only)
  refine zJ Ta (hcell i hlt) ?_;by_cases c3:qM a i= -1
  ·refine jY (by rw[c3];decide) ?_;refine qV ?_;(try dsimp only);refine qd ?_;(try dsimp only);refine qF (qI (qV ?_));(try dsimp only);refine qd ?_;(try dsimp only);refine qQ (qK ‹_› .here rfl ?_);refine qQ (qK ‹_› e_1 rfl ?_);refine yA ‹_› ?_;refine jH omQ ?_;refine qV ?_;(try dsimp only);refine qS ?_;(try dsimp only);refine qV ?_;(try dsimp only);refine qd ?_;(try dsimp only);refine qI (qI (qJ ?_))
   exact hj _ _ ⟨rfl,λh=>by
    rcases h.2 with h |h |h
    ·dsimp only at h;omega
    ·exact h.2 c3
    ·dsimp only at h;omega,H5.drop⟩
  ·refine jj (λh=>c3 (by rw[h];decide)) ?_;rw[iJ ⟨hjm,.inr (.inl ⟨rfl,c3⟩)⟩]at hJ;rw[hJ];refine qV ?_;(try dsimp only);refine qd ?_;(try dsimp only);refine qF (qI (qV ?_));(try dsimp only);refine qo ?_;(try dsimp only);refine qV ?_;(try dsimp only);refine jt ?_;(try dsimp only);refine qV ?_;(try dsimp only);refine qo ?_;(try dsimp only);refine qF (qZ (qk ?_))
   exact qj ⟨rfl,H5.drop.drop⟩
 ·refine jX (qJ (qQ (qK ‹_› .here rfl ?_)));refine qQ (qK ‹_› e_1 rfl ?_);refine yA ‹_› ?_;refine yV omQ ?_;refine qV ?_;(try dsimp only);refine qd ?_;(try dsimp only);refine qQ (qK ‹_› .here rfl ?_);refine qQ (qK ‹_› e_1 rfl ?_);refine yA ‹_› ?_;refine qX omQ ?_;refine qV ?_;(try dsimp only);refine qS ?_;(try dsimp only);refine qV ?_;(try dsimp only);refine qd ?_;(try dsimp only);refine qI (qI (qV ?_));(try dsimp only);refine qd ?_;(try dsimp only);refine qQ (qK ‹_› .here rfl ?_);refine qQ (qK ‹_› e_1 rfl ?_);refine yA ‹_› ?_;refine jd omQ ?_;refine qV ?_;(try dsimp only);refine qa ?_;(try dsimp only);refine qQ (qK ‹_› .here rfl ?_)
  refine zJ Ta (hcell p omQ) ?_;refine zJ Ta (hcell i hlt) ?_;by_cases c3:qM a p=qM a i
  ·refine jY c3 ?_;refine qV ?_;(try dsimp only);refine qd ?_;(try dsimp only);refine qF (qI (qJ ?_))
   exact hj _ _ ⟨rfl,λh=>by
    rcases h.2 with h |h |h
    ·dsimp only at h;omega
    ·have:=h.1;dsimp only at this;omega
    ·exact h.2 c3,H5.drop⟩
  ·refine jj c3 ?_;rw[iJ ⟨hjm,.inr (.inr ⟨by dsimp only;omega,c3⟩)⟩]at hJ;rw[hJ];refine qV ?_;(try dsimp only);refine qd ?_;(try dsimp only);refine qF (qI (qZ (qk ?_)))
   exact qj ⟨rfl,H5.drop.drop⟩
theorem qkf {l:List qR}:∀{r:List qR} {i:Nat} {st st':List Int},goM l r i st=.inr st'→∀x∈r,vR x=true:=by
 intro r
 induction r with
 |nil=>intro i st st' _ x hx;cases hx
 |cons y r ih=>
  intro i st st' h x hx;rw[Yl]at h
  split at h
  ·rename_i hw;rcases List.mem_cons.1 hx with rfl |hx
   ·exact(xv hw).1
   ·exact ih h x hx
  ·cases h
theorem qxI {l:List qR}:∀{r:List qR} {i:Nat} {st:List Int} {q:Int×Int},goM l r i st=.inl q→q.2≠0:=by
 intro r
 induction r with
 |nil=>intro i st q h;cases h
 |cons y r ih=>
  intro i st q h;rw[Yl]at h
  split at h
  ·exact ih h
  ·rename_i hw;cases h;exact hw
theorem U3 {l:List qR} (h:(xB l).2=0):goM l l 0 []=.inr []:=by
 unfold xB at h
 split at h
 ·cases h
 ·cases hg:goM l l 0 []with
  |inl q=>rw[hg]at h;exact absurd h (qxI hg)
  |inr st=>
   rw[hg]at h;dsimp only at h
   split at h
   ·rename_i h0;rw[h0]
   ·cases h
theorem Nq {n:Nat} (hn:6≤n) {l:List qR} {sv:AV} (H:HS g h R) (S:Rd g R 5 l.length sv (l.flatMap jK)) (hl:l.length≤100) :
  t_w n 86 [.agg [sv]] h λv h'=>v=.tup [.int .i64 (xB l).1,.int .i64 (xB l).2]∧HS g h' R:=by
 refine t_e1 (S:=S86) rfl omQ λk hk=>?_;unfold S86;try simp only[iZ]
 refine qO H (yh (kj (S.sl H))) λb0 h1 H1=>?_;have hLV:=(S.sl H).lenV;clear H;have hC:xB l=if l.length=0∨40<l.length then(0,4)else match goM l l 0 []with
  | .inl r=>r
  | .inr st=>if st=[]then Js l (vC l 0 []) l 0 else(qt st,12):=rfl
 generalize xB l=C at*;refine qQ (qK ‹_› .here rfl ?_);refine yA ‹_› ?_;by_cases c0:l.length=0
 ·rw[iJ (.inl c0)]at hC;subst hC;refine qx omQ ?_;refine qV ?_;(try dsimp only);refine qo ?_;(try dsimp only);refine qF (qZ ?_)
  exact qj ⟨rfl,H1.drop⟩
 by_cases c1:40<l.length
 ·rw[iJ (.inr c1)]at hC;subst hC;refine qX omQ ?_;refine qV ?_;(try dsimp only);refine qd ?_;(try dsimp only);refine qQ (qK ‹_› .here rfl ?_);refine yA ‹_› ?_;refine yB omQ ?_;refine qI (qZ ?_)
  exact qj ⟨rfl,H1.drop⟩
 rw[iQ omQ]at hC;refine qX omQ ?_;refine qV ?_;(try dsimp only);refine qd ?_;(try dsimp only);refine qQ (qK ‹_› .here rfl ?_);refine yA ‹_› ?_;refine yV omQ ?_;refine qI (qJ (qQ (qK ‹_› .here rfl ?_)));refine yA ‹_› ?_
 generalize hG:goM l l 0 []=G at hC;refine jN (λm s h'=>∃(i:Nat) (st:List Int) (tv:AV),s=(.int .i64 (i:Int),.int .i64 (l.length:Int),sv,tv,.ptr b0 0,())∧i≤l.length∧m=l.length-i∧StOk i st∧st.length≤i∧goM l (l.drop i) i st=G∧HS g h' (StC tv st::qg b0 [sv]::R))
  ?_ (m:=l.length) (by show _<1000000000;omega) ⟨0,[],.nils,rfl,by omega,by omega,StOk.nil,by simp,hG,H1.nils (e:=3) (sz:=1)⟩
 clear H1;rintro m ih s h2 hih ⟨i,st,tv,rfl,hi,rfl,hs,hsl,hgo,H⟩;dsimp only;by_cases hlt:i<l.length
 ·rw[Gq hlt]at hgo;have hrow:=Xm hlt;generalize l[i]=x at*;refine jd omQ ?_;refine qZ (zU (S.sl H.drop.drop) hlt omQ hrow ?_);refine qO H rfl λb h4 H4=>?_;refine qe H4 (b:=b) .here rfl (by simp[jK]) rfl λh5 H5=>?_;have H5:HS g h5 (qg b (jK x)::StC tv st::qg b0 [sv]::R):=H5;clear H H4;refine qD H5 (b:=b0) (off:=0) e_2 rfl omQ rfl ?_;refine qD H5 (b:=b) (off:=0) .here rfl omQ rfl ?_;refine qG (qKo omQ H5 S.more.more.more (Rd.own (e:=3) e_1) (λy hy=>by have:=hs y hy;omega) omQ) ?_;rintro _ h6 ⟨rfl,H6⟩;by_cases hw:zc l st x=0
  ·rw[iJ hw]at hgo;have ho:=xv hw;refine jY hw ?_;unfold jK at H6;refine qJ (qQ (qK ‹_› .here rfl ?_));refine qG (U9 omQ (H6.sel e_1) (λh=>ho.2.1 (.inl h)) omQ) ?_;intro tv2 h8 H8;have hbl:=Ug st i x.1;refine qc omQ ?_;exact hih (l.length-(i+1)) _ _ omQ ⟨i+1,jZ st i x.1,tv2,rfl,by omega,rfl,hs.behind,by omega,hgo,H8.sub (.cons .here (.drop .refl))⟩
  ·rw[iQ hw]at hgo;subst hgo;rw[hC];refine jj hw ?_;refine qZ (qk ?_);exact qj ⟨rfl,H6.drop.drop.drop⟩
 ·obtain rfl:i=l.length:=by omega
  rw[List.drop_length]at hgo;have hgo:(Sum.inr st:(Int×Int) ⊕ List Int)=G:=hgo;subst hgo;dsimp only at hC;refine jH omQ (qJ ?_);refine xW (H.sl (e:=3) .here) ?_;by_cases h0:st=[]
  ·subst h0;rw[iJ rfl]at hC;rw[show([]:List Int).length=0 from rfl];refine yV omQ ?_;refine qJ (qV ?_);(try dsimp only)
   refine qD H (b:=b0) (off:=0) e_1 rfl omQ rfl ?_;refine qD H (b:=b0) (off:=0) e_1 rfl omQ rfl ?_;refine qG (Ky omQ H S.more.more hG hl) ?_;intro av h3 H3;refine qG (qKD (a:=vC l 0 []) omQ H3 S.more.more.more (by rw[UK];exact Rd.own .here) UK (qkf hG) hl) ?_;rintro _ h4 ⟨rfl,H4⟩;rw[← hC];refine qA rfl ?_;refine qA rfl ?_;refine zn H (b:=b0) e_1 rfl H3 e_2 rfl rfl omQ (HS.lt H e_1) ?_;refine qk ?_;exact qj ⟨rfl,H4.drop.drop.drop⟩
  ·rw[iQ h0]at hC;subst hC;have hl0:st.length≠0:=λh=>h0 (iA h);refine yB omQ ?_;refine qZ (qG (Yk omQ (H.sl (e:=3) .here) omQ) ?_);rintro _ h3 ⟨rfl,rfl⟩;refine qk ?_;exact qj ⟨rfl,H.drop.drop⟩
theorem qyI {l:List qR} {st':List Int} (hg:goM l l 0 []=.inr st') {i:Nat} (hi:i<l.length) (ho:0<jr l[i].1∨l[i].1=16):∃p:Nat,(vC l 0 [])[i]? =some (p:Int)∧p<l.length:=by
 obtain⟨s,h1,h2⟩:=qYu (r:=l) (i:=0) (j:=i) (st:=[]) hi;obtain⟨h3,h4⟩:=h2 hg StOk.nil;have hw:=h4 l[i] (iW hi);have hne:=(xv hw).2.1 ho;have hin:=h3.inmost hne;refine⟨(qt s).toNat,?_,by omega⟩;rw[h1]
 congr 1
 omega
end Go.Proofs.YtnalffoigcmnnabGreatDoor
namespace Go.Proofs.YtnalffoigcmnnabGreatDoor
open Go Go.Ae
set_option maxRecDepth 100000
variable {g h:AH} {L R:List SP}
theorem Sel.app {A A':List SP} {P:SP} (s:Sel A P A') (R:List SP):Sel (A++R) P (A'++R):=by
 induction s with
 |here=>exact .here
 |there s ih=>exact .there ih
def RlC (p:AV×AV) (x:LvM):SP:=.all [qy 181 2 x.1.length p.1 (x.1.flatMap jA),qy 3 1 x.2.length p.2 (x.2.map (.int .i64))]
theorem RlC.E {p:AV×AV} {x:LvM} (H:HS g h (RlC p x::R)):HS g h (qy 181 2 x.1.length p.1 (x.1.flatMap jA)::qy 3 1 x.2.length p.2 (x.2.map (.int .i64))::R):=H.allE
theorem RlC.I {p:AV×AV} {x:LvM} (H:HS g h (qy 181 2 x.1.length p.1 (x.1.flatMap jA)::qy 3 1 x.2.length p.2 (x.2.map (.int .i64))::R)):HS g h (RlC p x::R):=H.allI
def NM (ps:List (AV×AV)):List AV:=ps.reverse.flatMap λp=>[p.1,p.2]
end Go.Proofs.YtnalffoigcmnnabGreatDoor
namespace Go.Proofs.YtnalffoigcmnnabGreatDoor
open Go Go.Ae
set_option maxRecDepth 100000
variable {g h:AH} {L R:List SP}
def frS (lv:List LvM):Nat:=(lv.map λx=>x.2.length).sum
theorem ki (x:LvM) (r:List LvM):frS (x::r)=x.2.length+frS r:=by simp[frS]
theorem qWp {x y:LvM} {r:List LvM}:frS (Ql (x::y::r)).2=frS (x::y::r):=by unfold frS Ql;simp;omega
end Go.Proofs.YtnalffoigcmnnabGreatDoor
