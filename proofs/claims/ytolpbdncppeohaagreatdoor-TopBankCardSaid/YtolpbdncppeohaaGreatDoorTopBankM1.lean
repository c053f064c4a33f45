/- Lemmas for 'quietus/quietustop.TopBank': What a transaction knows and writes, as plain data: cells, levels, views;Write sets: by the program;Levels of cells and frees: by the program;Views: by the ... No condition. -/
import Derived.Test.YtolpbdncppeohaaGreatDoorTopBankAe7
import Derived.Test.YtolpbdncppeohaaGreatDoorTopBankT
import Derived.KernelRfl
namespace Go.Proofs.YtolpbdncppeohaaGreatDoor
open Go Go.Ae
set_option maxRecDepth 100000
section
abbrev Cl:Type:=Int×Int
def zz (c:Int×Int):List AV:=[.int .i64 c.1,.int .u64 c.2]
def KX (p:Int):List Cl→Option Nat
 |[]=>none
 |c::l=>if c.1=p then some 0 else(KX p l).map (· +1)
def jO (p:Int):List Cl→Option Int
 |[]=>none
 |c::l=>if c.1=p then some c.2 else jO p l
def yo (p v:Int):List Cl→List Cl
 |[]=>[(p,v)]
 |c::l=>if c.1=p then(p,v)::l else c::yo p v l
def vA (l cs:List Cl):List Cl:=cs.foldl (λl c=>yo c.1 c.2 l) l
theorem Zg {p:Int} {l:List Cl}:KX p l=none↔jO p l=none:=by
 induction l with
 |nil=>simp[KX,jO]
 |cons c l ih=>
  unfold KX jO
  split<;>simp_all
theorem ZM {p:Int}:∀{l:List Cl} {i:Nat},KX p l=some i→i<l.length∧(∃x,l[i]? =some (p,x)∧jO p l=some x)∧∀v,yo p v l=l.set i (p,v):=by
 intro l
 induction l with
 |nil=>nofun
 |cons c l ih=>
  intro i h;unfold KX at h;unfold jO
  split at h
  ·rename_i hc;cases h;rw[iJ hc];refine⟨by simp,⟨c.2,by grind,rfl⟩,λv=>?_⟩;simp_all[yo]
  ·rename_i hc;rw[iQ hc];cases hi:KX p l with
   |none=>grind
   |some j=>rw[hi]at h;cases h;obtain⟨h1,⟨x,h2,AL⟩,h3⟩:=ih hi;simp_all[yo]
theorem wM {p v:Int} {l:List Cl} (h:jO p l=none):yo p v l=l++[(p,v)]:=by
 induction l with
 |nil=>rfl
 |cons c l ih=>
  unfold jO at h
  split at h
  all_goals simp_all[yo]
theorem qKf {p:Int}:∀{l:List Cl} {i:Nat},i<l.length→(∀j,j<i→∀c,l[j]? =some c→c.1≠p)→(∃x,l[i]? =some (p,x))→KX p l=some i:=by
 intro l
 induction l with
 |nil=>simp
 |cons c l ih=>
  intro i hi h1 ⟨x,h2⟩;unfold KX;cases i with
  |zero=>grind
  |succ i=>rw[iQ (h1 0 omQ c rfl),ih (by simpa using hi) (λj hj c' bE=>h1 (j+1) omQ c' (by grind)) ⟨x,by grind⟩];rfl
theorem qz0 {p:Int}:∀{l:List Cl},(∀c∈l,c.1≠p)→KX p l=none:=by
 intro l
 induction l with
 |nil=>intro _;rfl
 |cons c l ih=>intro h;simp_all[KX]
theorem Ke {p v:Int} {l:List Cl}:(yo p v l).length=if jO p l=none then l.length+1 else l.length:=by
 induction l with
 |nil=>rfl
 |cons c l ih=>
  grind[yo,jO,List.length_cons]
theorem Yq {p q v:Int} {l:List Cl}:jO q (yo p v l)=if q=p then some v else jO q l:=by
 induction l with
 |nil=>
  simp only[yo,jO];grind
 |cons c l ih=>
  unfold yo
  split
  ·rename_i hc;simp only[jO];grind
  ·rename_i hc;simp only[jO,ih];grind
def pN (l:List Cl):Prop:=∀c∈l,1≤c.1∧c.1<256
theorem pN.put {l:List Cl} {p v:Int} (h:pN l) (hp:1≤p∧p<256):pN (yo p v l):=by
 induction l with
 |nil=>intro c hc;grind[yo]
 |cons a l ih=>
  unfold yo
  split
  ·intro c hc;rcases List.mem_cons.1 hc with rfl |hc
   ·grind
   ·exact h c (iX _ hc)
  ·intro c hc;rcases List.mem_cons.1 hc with rfl |hc
   ·exact h _ (iK ..)
   ·exact ih (λc hc=>h c (iX _ hc)) c hc
def lR (l:List Cl):Prop:=(l.map (·.1)).Nodup
theorem qJ7 {p:Int} {l:List Cl}:jO p l=none↔p∉l.map (·.1):=by
 induction l with
 |nil=>simp[jO]
 |cons c l ih=>
  unfold jO
  grind
theorem qzP {p v:Int} {l:List Cl}:(yo p v l).map (·.1)=if jO p l=none then l.map (·.1)++[p]else l.map (·.1):=by
 induction l with
 |nil=>rfl
 |cons c l ih=>
  unfold yo jO
  grind
theorem lR.put {l:List Cl} {p v:Int} (h:lR l):lR (yo p v l):=by
 grind[lR,qzP,qJ7,List.nodup_append,List.mem_singleton]
theorem qxl {l:List Cl}:∀{cs:List Cl},lR cs→(∀c∈cs,jO c.1 l=none)→vA l cs=l++cs:=by
 intro cs
 induction cs generalizing l with
 |nil=>simp[vA]
 |cons c cs ih=>
  intro hu hn;have CW:lR cs:=(List.nodup_cons.1 hu).2;have hc:c.1∉cs.map (·.1):=(List.nodup_cons.1 hu).1;show vA (yo c.1 c.2 l) cs=_
  rw[ih CW (λd hd=>by
   rw[Yq,iQ (by grind)]
   grind),wM (hn c (iK ..)),List.append_assoc]
  rfl
theorem Ol {cs:List Cl} (h:lR cs):vA [] cs=cs:=by rw[qxl h (λ_ _=>rfl),List.nil_append]
def GA (m:Nat) (l:List Cl) (p v:Int):Int×List Cl :=
 if p<1∨256≤p then(2,l)else if jO p l=none∧m≤l.length then(5,l)else(0,yo p v l)
def Ye (m:Nat) (l:List Cl):List Cl→Int×List Cl
 |[]=>(0,l)
 |c::cs=>if(GA m l c.1 c.2).1=0 then Ye m (GA m l c.1 c.2).2 cs else GA m l c.1 c.2
theorem qGS {m:Nat} {l:List Cl} {c:Cl} {cs:List Cl}:Ye m l (c::cs)=if(GA m l c.1 c.2).1=0 then Ye m (GA m l c.1 c.2).2 cs else GA m l c.1 c.2:=rfl
theorem KA {m:Nat}:∀{cs l:List Cl},pN cs→l.length+cs.length≤m→Ye m l cs=(0,vA l cs):=by
 intro cs
 induction cs with
 |nil=>intro l _ _;rfl
 |cons c cs ih=>
  intro l hi hl;have hc:=hi c (iK ..);have hp:GA m l c.1 c.2=(0,yo c.1 c.2 l):=by unfold GA;grind
  unfold Ye
  rw[hp,iJ rfl,ih (λd hd=>hi d (iX _ hd)) (by
   grind[Ke,yo])]
  rfl
abbrev bH:Type:=List Cl×List Int
def YW (p:Int):List bH→Option Int
 |[]=>none
 |x::r=>match jO p x.1 with |some v=>some v |none=>YW p r
def vO (lv:List bH):Nat:=(lv.map λx=>x.1.length).sum
def jz (lv:List bH):List Cl:=lv.foldl (λout x=>vA x.1 out) []
def vD (lv:List bH):List Int:=lv.reverse.flatMap (·.2)
structure fQ (most:Nat) (lv:List bH):Prop where
  held:vO lv≤most
  le:most≤96
  ins:∀x∈lv,pN x.1
  un:∀x∈lv,lR x.1
  one:1≤lv.length
  deep:lv.length≤6
def gd (most:Nat) (lv:List bH) (p v:Int):Int×List bH :=
 match lv with
 |[]=>(0,[])
 |x::r=>if p<1∨256≤p then(2,lv)else if jO p x.1=none∧most≤vO lv then(5,lv)else(0,(yo p v x.1,x.2)::r)
def gB (most:Nat) (ax lv:List bH):List Cl→Int×List bH
 |[]=>(0,lv)
 |c::cs=>if(gd most lv c.1 c.2).1=0 then gB most ax (gd most lv c.1 c.2).2 cs else((gd most lv c.1 c.2).1,ax)
def Jk (lv:List bH):Int×List bH:=if 6≤lv.length then(9,lv)else(0,([],[])::lv)
def Jz (lv:List bH):Int×List bH:=if lv.length=1 then(10,lv)else(0,lv.tail)
def XW (lv:List bH):Int×List bH:=match lv with
 |x::y::r=>(0,(vA y.1 x.1,y.2++x.2)::r)
 |_=>(10,lv)
def YA (lv:List bH) (b:Int):List bH:=match lv with
 |x::r=>(x.1,x.2++[b])::r
 |[]=>[]
theorem wC {most:Nat} {ax lv:List bH} {c:Cl} {cs:List Cl}:gB most ax lv (c::cs)=if(gd most lv c.1 c.2).1=0 then gB most ax (gd most lv c.1 c.2).2 cs else((gd most lv c.1 c.2).1,ax):=rfl
theorem xe {x:bH} {r:List bH}:vO (x::r)=x.1.length+vO r:=by rfl
theorem Zh {most:Nat} {lv:List bH} {p v:Int} (O:fQ most lv):fQ most (gd most lv p v).2∧(gd most lv p v).2.length=lv.length:=by
 cases lv with
 |nil=>trivial
 |cons x r=>
  unfold gd;dsimp only
  split
  ·grind
  ·rename_i hp
   split
   ·grind
   ·rename_i h1;have hh:=O.held;rw[xe]at hh;refine⟨⟨?_,O.le,?_,?_,by simp,O.deep⟩,rfl⟩
    ·grind[vO,yo,xe,Ke]
    ·intro y hy;rcases List.mem_cons.1 hy with rfl |hy
     ·exact(O.ins x (iK ..)).put omQ
     ·exact O.ins y (iX _ hy)
    ·intro y hy;rcases List.mem_cons.1 hy with rfl |hy
     ·exact(O.un x (iK ..)).put
     ·exact O.un y (iX _ hy)
theorem qZS {most:Nat} {ax:List bH} (W:fQ most ax):∀{cs:List Cl} {lv:List bH},fQ most lv→lv.length=ax.length→fQ most (gB most ax lv cs).2∧(gB most ax lv cs).2.length=ax.length:=by
 intro cs
 induction cs with
 |nil=>intro lv O hl;trivial
 |cons c cs ih=>
  intro lv O hl;unfold gB
  split
  ·grind[Zh,trans]
  grind
theorem qwP {most:Nat} {lv:List bH} (O:fQ most lv):fQ most (Jk lv).2:=by
 unfold Jk
 split
 ·grind
 ·refine⟨by rw[xe];have:=O.held;grind,O.le,?_,?_,by simp,by grind⟩
  ·intro y hy;rcases List.mem_cons.1 hy with rfl |hy
   ·nofun
   ·exact O.ins y hy
  ·intro y hy;rcases List.mem_cons.1 hy with rfl |hy
   ·exact List.nodup_nil
   ·exact O.un y hy
theorem qv8 {most:Nat} {lv:List bH} (O:fQ most lv):fQ most (Jz lv).2:=by
 unfold Jz
 split
 ·grind
 ·rename_i h1;cases lv with
  |nil=>grind
  |cons x r=>
   have hh:=O.held;have h2:=O.deep;rw[xe]at hh;simp at h1 h2;refine⟨by grind,O.le,λy hy=>O.ins y (iX _ hy),λy hy=>O.un y (iX _ hy),?_,by grind⟩;grind
theorem Vl:∀{cs l:List Cl},(vA l cs).length≤l.length+cs.length:=by
 intro cs
 induction cs with
 |nil=>intro l;exact Nat.le_refl _
 |cons c cs ih=>
  grind[yo,Ke,vA,List.length_cons]
theorem pN.ox:∀{cs l:List Cl},pN l→pN cs→pN (vA l cs):=by
 intro cs
 induction cs with
 |nil=>intro l h _;exact h
 |cons c cs ih=>intro l h hc;exact ih (h.put (hc c (iK ..))) λd hd=>hc d (iX _ hd)
theorem lR.ox:∀{cs l:List Cl},lR l→lR (vA l cs):=by
 intro cs
 induction cs with
 |nil=>intro l h;exact h
 |cons c cs ih=>intro l h;exact ih h.put
theorem qg8 {most:Nat} {lv:List bH} (O:fQ most lv):fQ most (XW lv).2:=by
 match lv,O with
 |[],O=>exact O
 |[x],O=>exact O
 |x::y::r,O=>
  have hh:=O.held;have h2:=O.deep;rw[xe,xe]at hh;have:=Vl (cs:=x.1) (l:=y.1);refine⟨by show vO ((vA y.1 x.1,y.2++x.2)::r)≤most;grind[xe],O.le,?_,?_,by simp[XW],by grind[XW]⟩
  ·intro z hz;rcases List.mem_cons.1 hz with rfl |hz
   ·exact(O.ins y aS).ox (O.ins x aS)
   ·exact O.ins z (by grind)
  ·intro z hz;rcases List.mem_cons.1 hz with rfl |hz
   ·exact(O.un y aS).ox
   ·exact O.un z (by grind)
theorem qko {most:Nat} {lv:List bH} {b:Int} (O:fQ most lv):fQ most (YA lv b):=by
 cases lv with
 |nil=>exact O
 |cons x r=>
  refine⟨O.held,O.le,?_,?_,by simp[YA],O.deep⟩
  ·intro z hz;rcases List.mem_cons.1 hz with rfl |hz
   ·exact O.ins x aS
   ·exact O.ins z (by grind)
  ·intro z hz;rcases List.mem_cons.1 hz with rfl |hz
   ·exact O.un x aS
   ·exact O.un z (by grind)
end
section
variable {g h:AH} {L R:List SP}
def dF (w m:Nat) (l:List Cl):SP:=.ex λv=>.all [qw w [.int .i64 (m:Int),v],qB 170 2 l.length v (l.flatMap zz)]
theorem dF.E {w m:Nat} {l:List Cl} (H:HS g h (dF w m l::R)):∃v,HS g h (qw w [.int .i64 (m:Int),v]::qB 170 2 l.length v (l.flatMap zz)::R):=by obtain⟨v,H⟩:=H.eU;exact⟨v,H.cG⟩
theorem dF.I {w m:Nat} {l:List Cl} {v:AV} (H:HS g h (qw w [.int .i64 (m:Int),v]::qB 170 2 l.length v (l.flatMap zz)::R)):HS g h (dF w m l::R) :=
 HS.fB v (HS.allI H)
theorem qKB (l:List Cl):jY (l.flatMap zz)=true:=by unfold jY;rw[List.all_eq_true];intro v hv;obtain⟨c,_,hc⟩:=List.mem_flatMap.1 hv;simp[zz]at hc;rcases hc with rfl |rfl<;>rfl
theorem Uj {l:List Cl} {i:Nat} {c:Cl} (h:l[i]? =some c):((l.flatMap zz).drop (i*2)).take 2=zz c:=by obtain⟨hi,e⟩:=List.getElem?_eq_some_iff.1 h;rw[Yl zz (λ_=>rfl),List.drop_eq_getElem_cons hi,e,List.flatMap_cons];rfl
theorem qgc {l:List Cl} {i:Nat} {p x v:Int} (h:l[i]? =some (p,x)):(l.flatMap zz).set (i*2+1) (.int .u64 v)=(l.set i (p,v)).flatMap zz:=by
 have hi:=(List.getElem?_eq_some_iff.1 h).1;apply List.ext_getElem?;intro j;have hd:j=j/2*2+j%2:=by omega
 have hm:j%2<2:=by omega
 rw[List.getElem?_set,KM (sz:=2) zz (λ_=>rfl)];have e1:=YN (sz:=2) zz (λ_=>rfl) l (j/2) (j%2) hm;have e2:=YN (sz:=2) zz (λ_=>rfl) (l.set i (p,v)) (j/2) (j%2) hm;rw[← hd]at e1 e2;rw[e1,e2,List.getElem?_set];by_cases h1:i*2+1=j
 ·have:j/2=i:=by omega
  have h3:j%2=1:=by omega
  rw[iJ h1,iJ omQ,iJ this.symm,iJ hi,h3];rfl
 ·rw[iQ h1];by_cases h2:i=j/2
  ·have h3:j%2=0:=by omega
   rw[iJ h2,iJ hi,h3,← h2,h];rfl
  grind
def zI (o:Option Nat):Int:=match o with |some i=>(i:Int) |none=>-1
theorem Rp {n:Nat} (hn:1≤n) {m:Nat} (hm:m≤96) (H:HS g h R):aE n 155 [.int .i64 (m:Int)] h λv h'=>∃w,v=.ptr w 0∧HS g h' (dF w m []::R):=by
 refine aF rfl omQ λk hk=>?_;unfold S155;try simp only[iZ]
 refine zt (xg (qR rfl (qP H rfl λw h2 H2=>qW ⟨w,rfl,?_⟩)));rw[show max ((0:Nat):Int) (min (m:Int) ((96:Nat):Int))=(m:Int) by omega]at H2;exact dF.I ((H2.ak).aM e_1 :)
theorem qqt {n:Nat} (hn:2≤n) {p:Int} {v:AV} {c0:Nat} {l:List Cl} (H:HS g h L) (S:Rd g L 2 l.length v (l.flatMap zz)) (s:bi L (qw c0 [.int .i64 p]) R) (hl:l.length<1000000) :
  aE n 291 [v,.fn 292 [] [.ptr c0 0]] h λv h'=>v=.int .i64 (zI (KX p l))∧HS g h' L:=by
 refine bj rfl omQ λk hk=>?_;unfold S291;try simp only[iZ]
 refine vQ (S.sl H) ?_
 refine(zQ (λm s h'=>∃i:Nat,s=(.int .i64 (i:Int),.int .i64 (l.length:Int),.fn 292 [] [.ptr c0 0],v,())∧i≤l.length∧m=l.length-i∧HS g h' L∧
  (∀j,j<i→∀c,l[j]? =some c→c.1≠p)) ?_ (m:=l.length) (by grind) ⟨0,rfl,by omega,by rfl,H,λj hj=>by omega⟩)
 rintro m ih s' h' bQ ⟨i,rfl,h1,rfl,H,h2⟩;refine yG (λaw=>qX ?_) λeQ=>qJ (qx (qW ⟨?_,H⟩))
 ·have hi:i<l.length:=by omega
  have hc:l[i]? =some l[i]:=iW hi;refine xV (S.sl H) hi omQ (Uj hc)<|qG (Q':=λv h2=>v=.bool (decide (l[i].1=p))∧HS g h2 L) (WV rfl omQ λk hk=>?_) ?_
  ·show wp (S292 (callT tab qz k) _ _ _).1 _;unfold S292;try simp only
   refine qP H rfl λb h3 H3=>?_;refine qQ (qZ ‹_› .here rfl ?_);refine qZ H3 (.there s) rfl (YO (qW ⟨rfl,H3.drop⟩))
  ·rintro _ h3 ⟨rfl,H3⟩;refine jJ7 (λhe=>qx (qW ⟨?_,H3⟩)) λcg=>qi omQ ?_
   ·rw[qKf hi h2 ⟨l[i].2,by grind⟩];rfl
   ·refine bQ (l.length-(i+1)) _ _ omQ ⟨i+1,rfl,by omega,rfl,H3,λj hj c bE=>?_⟩;grind
 ·rw[qz0 λc hc=>?_]
  ·rfl
  grind[List.getElem?_of_mem,List.getElem?_eq_some_iff]
theorem qX9 {n:Nat} (hn:3≤n) {w m:Nat} {l:List Cl} {p:Int} (H:HS g h (dF w m l::R)) (hl:l.length<1000000) :
  aE n 226 [.ptr w 0,.int .i64 p] h λv h'=>v=.int .i64 (zI (KX p l))∧HS g h' (dF w m l::R):=by
 refine bj rfl omQ λk hk=>?_;unfold S226;try simp only
 obtain⟨v,H⟩:=dF.E H;refine Y1 H ⟨rfl,rfl⟩ λc0 h2 H2=>?_;refine qK (qQ (qZ ‹_› e_1 rfl ?_));refine qG (qqt omQ H2 (H2.rd e_2) .here hl) ?_;rintro _ h3 ⟨rfl,H3⟩;exact qW ⟨rfl,dF.I H3.drop⟩
theorem qW8 {n:Nat} (hn:4≤n) {w m:Nat} {l:List Cl} {p:Int} (H:HS g h (dF w m l::R)) (hl:l.length<1000000) :
  aE n 223 [.ptr w 0,.int .i64 p] h λv h'=>v=.bV [.int .u64 ((jO p l).getD 0),.bool (jO p l).isSome]∧HS g h' (dF w m l::R):=by
 refine bj rfl omQ λk hk=>?_;unfold S223;try simp only[iZ]
 refine qG (qX9 omQ H hl) ?_;rintro _ h3 ⟨rfl,H3⟩;cases hi:KX p l with
 |none=>refine zn (by nofun)<|qJ<|qW ⟨by grind[Zg],H3⟩
 |some i=>obtain⟨h1,⟨x,h2,AL⟩,_⟩:=ZM hi;refine z7 (by show((0:Nat):Int)≤(i:Int);omega) ?_;obtain⟨v,H4⟩:=dF.E H3;refine qX (qK (qQ (qZ ‹_› .here rfl ?_)));refine vF (x:=.int .u64 x) (H4.sl e_1) omQ h1 ?_ (qW ⟨by grind,H3⟩);rw[YN zz (λ_=>rfl) _ _ _ omQ,h2];rfl
theorem qWC {n:Nat} (hn:4≤n) {w m:Nat} {l:List Cl} {p x:Int} (H:HS g h (dF w m l::R)) (hl:l.length<1000000) :
  aE n 188 [.ptr w 0,.int .i64 p,.int .u64 x] h λv h'=>v=.int .i64 (GA m l p x).1∧HS g h' (dF w m (GA m l p x).2::R):=by
 refine cX rfl omQ λk hk=>?_;unfold S188;try simp only[iZ]
 unfold GA;by_cases hp:p<1∨256≤p
 ·rw[iJ hp]
  repeat' (first |with_reducible refine qX ?_ |with_reducible refine qJ ?_ |(with_reducible refine qd ?_;try dsimp only) |(with_reducible refine jC ?_;try dsimp only) |(with_reducible refine qb ?_;try dsimp only) |(with_reducible refine qo ?_;try dsimp only) |(with_reducible refine xJ ?_;try dsimp only) |with_reducible refine qE ?_ |with_reducible refine qI ?_ |(with_reducible refine qY ?_;try dsimp only) |with_reducible refine qx ?_ |with_reducible refine jd ?_ |with_reducible refine jo ?_ |with_reducible refine qi omQ ?_ |with_reducible refine zu omQ ?_ |with_reducible refine yT omQ ?_ |with_reducible refine wK omQ ?_ |with_reducible refine zt ?_ |with_reducible refine xg ?_ |with_reducible refine qk omQ ?_ |with_reducible refine qj omQ ?_ |with_reducible refine jH omQ ?_ |with_reducible refine jI omQ ?_ |with_reducible refine jt omQ ?_ |with_reducible refine jP omQ ?_ |with_reducible refine Jh omQ ?_ |with_reducible refine XR omQ ?_ |with_reducible refine vr omQ ?_ |with_reducible refine vE omQ ?_ |with_reducible refine z7 omQ ?_ |with_reducible refine zn omQ ?_ |with_reducible refine yG (λhc=>?_) (λhc=>?_) |with_reducible refine Qx (λhc=>?_) (λhc=>?_) |with_reducible refine Qm (λhc=>?_) (λhc=>?_) |with_reducible refine vK (λhc=>?_) (λhc=>?_) |with_reducible refine wG (λhc=>?_) (λhc=>?_) |with_reducible refine gI (λhc=>?_) (λhc=>?_) |with_reducible refine kG (λhc=>?_) (λhc=>?_))
  all_goals exact qW ⟨rfl,H⟩
 rw[iQ hp];refine jP omQ<|qY<|qo<|zn omQ<|qI (qJ ?_)
 refine qG (qX9 omQ H hl) ?_;rintro _ h3 ⟨rfl,H3⟩;cases hi:KX p l with
 |none=>
  refine zn (by nofun) ?_;have hg:=Zg.1 hi;obtain⟨v,H4⟩:=dF.E H3;refine qJ (qK (qQ (qZ ‹_› .here rfl ?_)));refine jQ ‹_› e_1<|qK (qQ (qZ ‹_› .here rfl ?_));by_cases hf:m≤l.length
  ·rw[iJ ⟨hg,hf⟩];refine z7 omQ<|qX<|qW ⟨rfl,H3⟩
  ·rw[iQ (λh=>hf h.2)];refine zn omQ<|qJ (qK (qQ (qZ ‹_› .here rfl ?_)));refine qR rfl<|qt (l:=[.int .i64 p,.int .u64 x]) H4 rfl rfl rfl rfl λv5 h5 H5=>?_;refine zw (H5.aM e_2) (H5.sl .here) omQ omQ rfl λv6 h6 H6=>?_;refine qK (qQ (qy H6 e_2 (H6.one .here) aS λh7 H7=>qW ⟨rfl,dF.I (v:=v6) ?_⟩));rw[wM hg,List.flatMap_append,List.length_append];exact H7.pk [0,0] 1
 |some i=>obtain⟨h1,⟨y,h2,AL⟩,h5⟩:=ZM hi;refine z7 (by show((0:Nat):Int)≤(i:Int);omega) ?_;obtain⟨v,H4⟩:=dF.E H3;refine qX (qK (qQ (qZ ‹_› .here rfl ?_)));rw[iQ (λh=>by grind)];refine jVH (H4.aM e_1) h1 omQ ⟨rfl,rfl⟩ λh6 H6=>qW ⟨rfl,dF.I (v:=v) ?_⟩;rw[qgc h2]at H6;rw[h5,List.length_set];exact H6.pk [1] 0
theorem qKF {n:Nat} (hn:1≤n) {v:AV} {l:List Cl} (H:HS g h L) (s:bi L (qB 170 2 l.length v (l.flatMap zz)) R) (hl:l.length<1000000) :
  aE n 88 [v] h λv' h'=>HS g h' (qB 170 2 l.length v' (l.flatMap zz)::L):=by
 refine aF rfl omQ λk hk=>?_;unfold S88;try simp only[iZ]
 refine XP H s (λ_ h0=>qX (qW ?_)) (qJ ?_)
 ·have:=iA h0;subst this;exact H.ak
 ·refine qt (l:=[]) H rfl rfl rfl rfl λv2 h2 H2=>?_;refine zw H2 (H2.sl (.there s)) omQ omQ (qKB l) λv3 h3 H3=>qW ?_;grind
theorem KU {n:Nat} (hn:2≤n) {w m:Nat} {l:List Cl} (H:HS g h (dF w m l::R)) (hl:l.length<1000000) :
  aE n 157 [.ptr w 0] h λv h'=>HS g h' (qB 170 2 l.length v (l.flatMap zz)::dF w m l::R):=by
 refine aF rfl omQ λk hk=>?_;unfold S157;try simp only
 obtain⟨v,H⟩:=dF.E H;refine qK (qQ (qZ ‹_› .here rfl ?_));refine qG (qKF omQ H e_1 hl) λv3 h3 H3=>qW ?_;have:=dF.I (H3.sub (L':=_::_::qB 170 2 l.length v3 (l.flatMap zz)::R) (.cons e_1 (.cons e_1 .refl)));exact this.pk [1] 0
theorem jZl {n:Nat} (hn:1≤n) {w m:Nat} {l:List Cl} (H:HS g h (dF w m l::R)) :
  aE n 322 [.ptr w 0] h λv h'=>v=.int .i64 (l.length:Int)∧h'=h:=by
 refine aF rfl omQ λk hk=>?_;unfold S322;try simp only
 obtain⟨v,H⟩:=dF.E H;refine qK (qQ (qZ ‹_› .here rfl ?_));refine jQ ‹_› e_1<|qW ⟨rfl,rfl⟩
def QO (m:Nat) (l cs:List Cl):Int×List Cl:=if(Ye m l cs).1=0 then Ye m l cs else((Ye m l cs).1,l)
theorem Kv {n:Nat} (hn:5≤n) {w m:Nat} {l cs:List Cl} {c:AV} (H:HS g h (dF w m l::R)) (S:Rd g R 2 cs.length c (cs.flatMap zz)) (hl:l.length<100000) (hc:cs.length<100000) :
  aE n 156 [.ptr w 0,c] h λv h'=>v=.int .i64 (QO m l cs).1∧HS g h' (dF w m (QO m l cs).2::R):=by
 refine bj rfl omQ λk hk=>?_;unfold S156;try simp only[iZ]
 refine qG (KU omQ H omQ) λv0 h1 H1=>?_;refine vQ (S.sl H1.drop.drop)<|zQ (λk s h'=>∃(i:Nat) (l':List Cl),s=(.int .i64 (i:Int),.int .i64 (cs.length:Int),c,v0,.ptr w 0,())∧i≤cs.length∧k=cs.length-i∧l'.length≤l.length+i∧
  HS g h' (dF w m l'::qB 170 2 l.length v0 (l.flatMap zz)::R)∧Ye m l cs=Ye m l' (cs.drop i)) ?_ (m:=cs.length) (by grind) ⟨0,l,rfl,by omega,by rfl,by omega,H1.pk [1] 0,rfl⟩
 rintro k ih s h2 bQ ⟨i,l',rfl,h1,rfl,eH,H,hT⟩;refine yG (λaw=>qX ?_) λeQ=>qJ (qx (qW ?_))
 ·have hi:i<cs.length:=by omega
  have tH:cs[i]? =some cs[i]:=iW hi;refine xV (S.sl H.drop.drop) hi omQ (Uj tH)<|qP H rfl λb h3 H3=>qm H3 .here rfl (by simp) rfl λh4 H4=>?_;have H5:HS g h4 (qw b (zz cs[i])::dF w m l'::qB 170 2 l.length v0 (l.flatMap zz)::R):=H4;unfold zz at H5;refine qQ (qZ ‹_› .here rfl ?_);refine qQ (qZ ‹_› .here rfl ?_);refine qG (qWC omQ H5.drop omQ) ?_;rintro _ h6 ⟨rfl,H6⟩;rw[List.drop_eq_getElem_cons hi,qGS]at hT;refine gI (λcg=>qX ?_) λhe=>qJ (qi omQ ?_)
  ·have cg:¬(GA m l' cs[i].1 cs[i].2).1=0:=by grind
   rw[iQ cg]at hT;obtain⟨v7,H7⟩:=dF.E H6;refine qK (qQ (qy H7 .here (H7.one e_2) aS λh8 H8=>qx (qW ?_)));unfold QO;rw[hT,iQ cg];exact⟨rfl,dF.I (H8.pk [0,1] 1)⟩
  ·have Rq:(GA m l' cs[i].1 cs[i].2).1=0:=by grind
   rw[iJ Rq]at hT;refine bQ (cs.length-(i+1)) _ _ omQ ⟨i+1,_,rfl,by omega,rfl,?_,H6,hT⟩;grind[Ke,GA]
 ·rw[List.drop_of_length_le omQ]at hT;have hT:Ye m l cs=(0,l'):=hT;unfold QO;rw[hT,iJ rfl];exact⟨rfl,H.pk [0] 1⟩
end
section
variable {g h:AH} {L R:List SP}
def dt (a:Nat) (x:bH):SP:=.ex λw=>.ex λfv=>.all [qw a [.ptr w 0,fv],dF w 96 x.1,qB 3 1 x.2.length fv (x.2.map (.int .i64))]
theorem dt.E {a:Nat} {x:bH} (H:HS g h (dt a x::R)):∃w fv,HS g h (qw a [.ptr w 0,fv]::dF w 96 x.1::qB 3 1 x.2.length fv (x.2.map (.int .i64))::R):=by obtain⟨w,H⟩:=H.eU;obtain⟨fv,H⟩:=H.eU;exact⟨w,fv,H.cG⟩
theorem dt.I {a w:Nat} {fv:AV} {x:bH} (H:HS g h (qw a [.ptr w 0,fv]::dF w 96 x.1::qB 3 1 x.2.length fv (x.2.map (.int .i64))::R)):HS g h (dt a x::R) :=
 HS.fB w (HS.fB fv (HS.allI H))
def yb (ps:List Nat):List AV:=ps.reverse.map λa=>.ptr a 0
def cm (q most:Nat) (lv:List bH):SP:=.ex λv=>.ex λps:List Nat=>.all (.ic (ps.length=lv.length)::qw q [.int .i64 (most:Int),v]::qB 237 1 lv.length v (yb ps)::List.zipWith dt ps lv)
theorem cm.E {q most:Nat} {lv:List bH} (H:HS g h (cm q most lv::R)):∃v ps,ps.length=lv.length∧HS g h (qw q [.int .i64 (most:Int),v]::qB 237 1 lv.length v (yb ps)::(List.zipWith dt ps lv++R)):=by obtain⟨v,H⟩:=H.eU;obtain⟨ps,H⟩:=H.eU;obtain⟨e,H⟩:=HS.fi (H.cG);exact⟨v,ps,e,H⟩
theorem cm.I {q most:Nat} {lv:List bH} {v:AV} {ps:List Nat} (e:ps.length=lv.length) (H:HS g h (qw q [.int .i64 (most:Int),v]::qB 237 1 lv.length v (yb ps)::(List.zipWith dt ps lv++R))):HS g h (cm q most lv::R) :=
 HS.fB v (HS.fB ps (HS.allI (HS.fO e H)))
theorem cm.E1 {q most:Nat} {x:bH} {r:List bH} (H:HS g h (cm q most (x::r)::R)):∃v a ps,ps.length=r.length∧HS g h (qw q [.int .i64 (most:Int),v]::qB 237 1 (r.length+1) v (yb (a::ps))::dt a x::(List.zipWith dt ps r++R)):=by
 obtain⟨v,ps,e,H⟩:=cm.E H;cases ps with
 |nil=>grind
 |cons a ps=>exact⟨v,a,ps,by grind,H⟩
theorem cm.I1 {q most:Nat} {x:bH} {r:List bH} {v:AV} {a:Nat} {ps:List Nat} (e:ps.length=r.length) (H:HS g h (qw q [.int .i64 (most:Int),v]::qB 237 1 (r.length+1) v (yb (a::ps))::dt a x::(List.zipWith dt ps r++R))):HS g h (cm q most (x::r)::R) :=
 cm.I (ps:=a::ps) (by grind) H
theorem qKb (a:Nat) (ps:List Nat):(yb (a::ps))[ps.length]? =some (.ptr a 0):=by simp[yb,List.reverse_cons,List.map_append,aS]
theorem Uv {ps:List Nat} {i:Nat} (hi:i<ps.length):(yb ps)[i]? =(ps[ps.length-1-i]?).map λa=>.ptr a 0:=by unfold yb;grind
theorem VE {ps:List Nat}:∀{lv:List bH} {i a:Nat} {x:bH},ps[i]? =some a→lv[i]? =some x→∃T,bi (List.zipWith dt ps lv++R) (dt a x) T:=by
 induction ps with
 |nil=>simp
 |cons b ps ih=>
  intro lv i a x h1 h2;cases lv with
  |nil=>grind
  |cons y lv=>
   cases i with
   |zero=>simp at h1 h2;subst h1;subst h2;exact⟨_,.here⟩
   |succ i=>obtain⟨T,s⟩:=ih (by simpa using h1) (by simpa using h2);exact⟨_,.there s⟩
theorem G1 {n q:Nat} (hn:1≤n) {m v:AV} {a:Nat} {ps:List Nat} {R1 R2:List SP} {e:TypeId} (H:HS g h L) (s1:bi L (qw q [m,v]) R1) (s2:bi L (qB e 1 (ps.length+1) v (yb (a::ps))) R2) (hl:ps.length<1000000) :
  aE n 224 [.ptr q 0] h λr h'=>r=.ptr a 0∧h'=h:=by
 refine aF rfl omQ λk hk=>?_;unfold S224;try simp only[iZ]
 refine qK (qQ (qZ H s1 rfl (qK (qQ (qZ H s1 rfl (jQ H s2 (zu omQ ?_)))))));rw[show((ps.length+1:Nat):Int)-((1:Nat):Int)=((ps.length:Nat):Int) by omega];exact zj (H.sl s2) (qKb a ps) (qW ⟨rfl,rfl⟩)
theorem ZN {n:Nat} (hn:2≤n) (H:HS g h R):aE n 172 [] h λv h'=>∃a,v=.ptr a 0∧HS g h' (dt a ([],[])::R):=by
 refine BJ rfl omQ λk hk=>?_;unfold S172;try simp only[iZ]
 refine qG (Rp omQ omQ H) ?_;rintro _ h2 ⟨w,rfl,H2⟩;refine qR rfl (qP H2 rfl λa h3 H3=>qW ⟨a,rfl,?_⟩);exact dt.I (fv:=.ak) ((H3.ak).pk [1,1,0] 0)
theorem jQc {n:Nat} (hn:3≤n) {m:Int} (H:HS g h R):aE n 141 [.int .i64 m] h λv h'=>∃q,v=.ptr q 0∧HS g h' (cm q (max 0 (min m 96)).toNat [([],[])]::R):=by
 refine aF rfl omQ λk hk=>?_;unfold S141;try simp only[iZ]
 refine zt (xg (qG (ZN omQ H) ?_));rintro _ h2 ⟨a,rfl,H2⟩;refine qt H2 rfl rfl rfl rfl λv h3 H3=>?_;have h1:=H3.one .here;refine qR (by simp only[vj,h1.1];rfl)<|qP H3 (by show(true&&(v.one&&true))=true;rw[h1.2];rfl) λq h4 H4=>qW ⟨q,rfl,?_⟩;refine cm.I1 (v:=v) (a:=a) (ps:=[]) rfl ?_;rw[show(((max 0 (min m 96)).toNat:Nat):Int)=max ((0:Nat):Int) (min m ((96:Nat):Int)) by omega];exact H4
theorem qxB {n q most:Nat} (hn:2≤n) {lv:List bH} {b:Int} (H:HS g h (cm q most lv::R)) (O:fQ most lv) (hf:∀x∈lv,x.2.length<1000000) :
  aE n 320 [.ptr q 0,.int .i64 b] h λ_ h'=>HS g h' (cm q most (YA lv b)::R):=by
 cases lv with
 |nil=>have:=O.one;grind
 |cons x r=>
 refine bj rfl omQ λk hk=>?_;unfold S320;try simp only[iZ]
 obtain⟨v,a,ps,e,H⟩:=cm.E1 H;rw[← e]at H;refine qG (G1 omQ H .here e_1 (by have:=O.deep;grind)) ?_;rintro _ _ ⟨rfl,rfl⟩;obtain⟨w,fv,H2⟩:=dt.E (H.aM e_2);refine qK (qQ (qZ ‹_› .here rfl ?_));refine qt H2 rfl rfl rfl rfl λv3 h3 H3=>?_;have:=hf x (iK ..);refine zw (H3.aM e_3) (H3.sl .here) omQ omQ rfl λv4 h4 H4=>?_;refine qK (qQ (qy H4 e_2 (H4.one .here) aS λh5 H5=>qW ?_));refine cm.I1 (v:=v) (a:=a) (ps:=ps) e ?_;rw[← e];have:=dt.I (a:=a) (fv:=v4) (x:=(x.1,x.2++[b])) (R:=qw q [.int .i64 (most:Int),v]::qB 237 1 (ps.length+1) v (yb (a::ps))::(List.zipWith dt ps r++R))
  (by rw[List.map_append,List.length_append];exact H5.pk [0,2,0,1,1] 1)
 exact this.pk [1,1] 0
theorem qzN {n q most:Nat} (hn:1≤n) {lv:List bH} (H:HS g h (cm q most lv::R)) (O:fQ most lv) (hf:(vD lv).length<1000000) :
  aE n 138 [.ptr q 0] h λv h'=>HS g h' (qB 3 1 (vD lv).length v ((vD lv).map (.int .i64))::cm q most lv::R):=by
 refine aF rfl omQ λk hk=>?_;unfold S138;try simp only[iZ]
 have hd:=O.deep;obtain⟨v,ps,e,H⟩:=cm.E H;refine qK (qQ (qZ ‹_› .here rfl ?_));refine jQ ‹_› e_1<|zQ (λm s h'=>∃(i:Nat) (acc:AV),s=(.int .i64 (i:Int),.int .i64 (lv.length:Int),v,acc,())∧i≤lv.length∧m=lv.length-i∧
  HS g h' (qB 3 1 ((lv.reverse.take i).flatMap (·.2)).length acc (((lv.reverse.take i).flatMap (·.2)).map (.int .i64))::qw q [.int .i64 (most:Int),v]::qB 237 1 lv.length v (yb ps)::(List.zipWith dt ps lv++R)))
  ?_ (m:=lv.length) (by grind) ⟨0,.ak,rfl,by omega,by rfl,H.ak⟩
 rintro m ih s h' bQ ⟨i,acc,rfl,h1,rfl,H⟩;refine yG (λaw=>qX ?_) λeQ=>qJ (qx (qW ?_))
 ·have hi:i<lv.length:=by omega
  have ha:ps[ps.length-1-i]? =some (ps[ps.length-1-i]'omQ):=iW _;have hx:lv[ps.length-1-i]? =some (lv[ps.length-1-i]'omQ):=iW _;generalize ps[ps.length-1-i]'omQ=a at ha;have rf:lv.reverse[i]? =some (lv[ps.length-1-i]'omQ):=by grind
  generalize lv[ps.length-1-i]'omQ=x at hx rf;refine zj (H.sl e_2) (by rw[Uv omQ,ha];rfl) ?_;obtain⟨T,s⟩:=VE (R:=R) ha hx;have H2:=H.aM (.there (.there (.there s)));obtain⟨w,fv,H3⟩:=dt.E H2;refine qK (qQ (qZ ‹_› .here rfl ?_));have hlen:((lv.reverse.take i).flatMap (·.2)).length+x.2.length≤(vD lv).length:=by
   have e1:lv.reverse.flatMap (·.2)=(lv.reverse.take (i+1)).flatMap (·.2)++(lv.reverse.drop (i+1)).flatMap (·.2):=by rw[← List.flatMap_append,List.take_append_drop]
   grind[vD,List.take_add_one]
  refine zw (H3.aM (P:=qB 3 1 ((lv.reverse.take i).flatMap (·.2)).length acc (((lv.reverse.take i).flatMap (·.2)).map (.int .i64))) e_3) (H3.sl e_2) omQ omQ ?_ λv4 h4 H4=>qi omQ ?_
  ·simp[jY,AV.one]
  refine bQ (lv.length-(i+1)) _ _ omQ ⟨i+1,v4,rfl,by omega,rfl,?_⟩;rw[List.take_add_one,rf,Option.toList_some,List.flatMap_append,List.map_append,List.length_append,List.flatMap_cons,List.flatMap_nil,List.append_nil];have H5:=dt.I (a:=a) (w:=w) (fv:=fv) (x:=x) (H4.sub (.cons e_1 (.cons e_1 (.cons e_1 .refl))));exact HS.cF (.there (.there (.there s))) (H5.sub (.refl))
 ·obtain rfl:i=lv.length:=by omega
  rw[List.take_of_length_le aS]at H;exact(cm.I (v:=v) (ps:=ps) e (HS.back (A:=_::_::List.zipWith dt ps lv) H)).pk [1] 0
theorem Rr (l:List Nat):l.reverse.sum=l.sum:=by
 simp
theorem qv2 {n q most:Nat} (hn:2≤n) {lv:List bH} (H:HS g h (cm q most lv::R)) (O:fQ most lv) :
  aE n 290 [.ptr q 0] h λv h'=>v=.int .i64 ((most:Int)-(vO lv:Int))∧h'=h:=by
 refine aF rfl omQ λk hk=>?_;unfold S290;try simp only[iZ]
 obtain⟨v,ps,e,H⟩:=cm.E H;have hh:=O.held;have hl:=O.le;have hd:=O.deep;refine qK (qQ (qZ ‹_› .here rfl ?_));refine qK (qQ (qZ ‹_› .here rfl ?_));refine jQ ‹_› e_1<|zQ (λm s h'=>∃(i:Nat),s=(.int .i64 (i:Int),.int .i64 (lv.length:Int),v,.int .i64 ((most:Int)-(((lv.reverse.take i).map λx=>x.1.length).sum:Nat)),())∧i≤lv.length∧m=lv.length-i∧h'=h)
  ?_ (m:=lv.length) (by grind) ⟨0,by simp,by omega,by rfl,rfl⟩
 rintro m ih s h' bQ ⟨i,rfl,h1,rfl,rfl⟩;have sx:∀j,((lv.reverse.take j).map λx=>x.1.length).sum+((lv.reverse.drop j).map λx=>x.1.length).sum=vO lv:=by intro j;rw[← List.sum_append,← List.map_append,List.take_append_drop,List.map_reverse,Rr];rfl
 refine yG (λaw=>qX ?_) λeQ=>qJ (qx (qW ⟨?_,rfl⟩))
 ·have hi:i<lv.length:=by omega
  have ha:ps[ps.length-1-i]? =some (ps[ps.length-1-i]'omQ):=iW _;have hx:lv[ps.length-1-i]? =some (lv[ps.length-1-i]'omQ):=iW _;generalize ps[ps.length-1-i]'omQ=a at ha;have rf:lv.reverse[i]? =some (lv[ps.length-1-i]'omQ):=by grind
  generalize lv[ps.length-1-i]'omQ=x at hx rf;refine zj (H.sl e_1) (by rw[Uv omQ,ha];rfl) ?_;obtain⟨T,s⟩:=VE ha hx;obtain⟨w,fv,H3⟩:=dt.E (H.aM (.there (.there s)));refine qK (qQ (qZ ‹_› .here rfl ?_));refine qG (jZl omQ (H3.aM e_1)) ?_;rintro _ _ ⟨rfl,rfl⟩;have h2:=sx i;have h3:=sx (i+1);have h4:((lv.reverse.take (i+1)).map λx=>x.1.length).sum=((lv.reverse.take i).map λx=>x.1.length).sum+x.1.length:=by rw[List.take_add_one,rf,Option.toList_some,List.map_append,List.sum_append];simp
  refine zu omQ (qi omQ (bQ (lv.length-(i+1)) _ _ omQ ⟨i+1,?_,by omega,rfl,rfl⟩));grind
 grind[List.drop_of_length_le,vO]
theorem qG2 {k b0 l:Nat} {v:AV} {ps:List Nat} {Inv:Nat→AH→Prop} {Fin:AH→Prop}
  (hrd:∀i h,Inv i h→h.at b0 0=some v∧Sl (λ_=>True) h 1 ps.length v (yb ps))
  (hy:∀i a h,ps[i]? =some a→Inv i h→wp (callT tab qz k (.yield l) [.int .i64 ((ps.length-1-i:Nat):Int),.ptr a 0] h) λr h'=>(r=.bool true∧Inv (i+1) h')∨(r=.bool false∧Fin h'))
  (hl:ps.length<1000000) (h0:Inv 0 h):wp (callT tab qz (k+1) (.fn 187 [] [.ptr b0 0]) [.yield l] h) λ_ h'=>Inv ps.length h'∨Fin h':=by
 refine WV rfl omQ λk' hk=>?_;obtain rfl:k'=k:=by omega
 unfold S187
 try simp only[iZ]
 obtain⟨r1,r2⟩:=hrd 0 h h0;refine JV r1 (vQ r2 (zu omQ ?_));refine zQ (λm s h'=>∃i:Nat,s=(.int .i64 ((ps.length:Int)-((1:Nat):Int)-(i:Int)),.ptr b0 0,.yield l,())∧i≤ps.length∧m=ps.length-i∧Inv i h') ?_ (m:=ps.length) (by grind) ⟨0,by simp,by omega,by rfl,h0⟩;rintro m ih s h' bQ ⟨i,rfl,h1,rfl,hI⟩;obtain⟨r1,r2⟩:=hrd i h' hI;refine vK (λaw=>qX ?_) λeQ=>qJ (qx (qW (.inl ?_)))
 ·have hi:i<ps.length:=by omega
  have ha:ps[i]? =some ps[i]:=iW hi;rw[show(ps.length:Int)-((1:Nat):Int)-(i:Int)=((ps.length-1-i:Nat):Int) by omega];refine JV r1 (zj r2 (by rw[Uv omQ,show ps.length-1-(ps.length-1-i)=i by omega,ha];rfl) ?_);refine qG (hy i _ h' ha hI) ?_;rintro _ h2 (⟨rfl,hI2⟩ |⟨rfl,hF⟩)
  ·refine jd (qJ (zu omQ (bQ (ps.length-(i+1)) _ _ omQ ⟨i+1,?_,by omega,rfl,hI2⟩)));grind
  ·exact jo (qX (qx (qW (.inr hF))))
 grind
theorem qYN {p:Int}:∀{lv:List bH},(∀(j:Nat) x,lv[j]? =some x→jO p x.1=none)→YW p lv=none:=by
 intro lv
 induction lv with
 |nil=>intro _;rfl
 |cons x r ih=>intro h;unfold YW;rw[h 0 x rfl];exact ih λj y hy=>h (j+1) y (by grind)
theorem qj9 {p v:Int}:∀{lv:List bH} {i:Nat} {x:bH},(∀j,j<i→∀x,lv[j]? =some x→jO p x.1=none)→lv[i]? =some x→jO p x.1=some v→YW p lv=some v:=by
 intro lv
 induction lv with
 |nil=>simp
 |cons y r ih=>
  intro i x h1 h2 h3;unfold YW;cases i with
  |zero=>grind
  |succ i=>rw[h1 0 omQ y rfl];grind
theorem fQ.len {most:Nat} {lv:List bH} (O:fQ most lv) {x:bH} (hx:x∈lv):x.1.length≤96:=by
 have h1:=O.held;have h2:=O.le;have:x.1.length≤vO lv:=by
  clear h1 O
  induction lv with
  |nil=>grind
  |cons y r ih=>
   rw[xe];grind
 omega
theorem Uo {n:Nat} (hn:1≤n) {v:AV} (h1:One v) (H:HS g h L):aE n 154 [v] h λr h'=>∃b,r=.fn 187 [] [.ptr b 0]∧HS g h' (qw b [v]::L):=by
 refine aF rfl omQ λk hk=>?_;unfold S154;try simp only
 exact Y1 H h1 λb h2 H2=>qW ⟨b,rfl,H2⟩
theorem jJd {n q most:Nat} (hn:8≤n) {lv:List bH} {p:Int} (H:HS g h (cm q most lv::R)) (O:fQ most lv) :
  aE n 185 [.ptr q 0,.int .i64 p] h λv h'=>v=.bV [.int .u64 ((YW p lv).getD 0),.bool (YW p lv).isSome]∧HS g h' (cm q most lv::R):=by
 (refine qA (g:=W185) rfl omQ λk hk=>?_;show wp (S185 (callT tab qz k) _ _ _) _;unfold S185;try simp only[uU,iZ])
 obtain⟨v,ps,e,H⟩:=cm.E H;have hd:=O.deep;refine Y1 H ⟨rfl,rfl⟩ λb1 h1 H=>Y1 H ⟨rfl,rfl⟩ λb2 h2 H=>Y1 H ⟨rfl,rfl⟩ λb3 h3 H=>?_;refine qK (qQ (qZ ‹_› e_3 rfl ?_));refine qG (Uo omQ (H.one e_4) H) ?_;rintro _ h4 ⟨b4,rfl,H⟩;have H5:=(H.mr .lH).mr (.loop .ready none 185 [1,0,1,0] [5,4,3] [.ptr b3 0,.ptr b2 0,.ptr b1 0] h4.nx);generalize(h4.new .lH).nx=l at H5 ⊢;generalize h4.nx=d at H5 ⊢;obtain⟨k2,rfl⟩:∃k2,k=k2+1:=⟨k-1,by omega⟩
 refine qXE (qG2 (b0:=b4) (v:=v) (ps:=ps)
  (Inv:=λi h'=>HS g h' (Qd l (.loop .ready none 185 [1,0,1,0] [5,4,3] [.ptr b3 0,.ptr b2 0,.ptr b1 0] d)::Qd d .lH::qw b4 [v]::qw b3 [.bool false]::qw b2 [.int .u64 ((0:Nat):Int)]::qw b1 [.int .i64 p]::
   qw q [.int .i64 (most:Int),v]::qB 237 1 lv.length v (yb ps)::(List.zipWith dt ps lv++R))∧∀j,j<i→∀x,lv[j]? =some x→jO p x.1=none)
  (Fin:=λh'=>∃x,YW p lv=some x∧HS g h' (Qd l (.loop .done (some .ret) 185 [1,0,1,0] [5,4,3] [.ptr b3 0,.ptr b2 0,.ptr b1 0] d)::Qd d .lH::qw b4 [v]::qw b3 [.bool true]::qw b2 [.int .u64 x]::qw b1 [.int .i64 p]::
   qw q [.int .i64 (most:Int),v]::qB 237 1 lv.length v (yb ps)::(List.zipWith dt ps lv++R)))
  ?_ ?_ omQ ⟨H5,λj hj=>by omega⟩) ?_
 ·rintro i h' ⟨H,_⟩;obtain⟨et,A⟩:=H.obj e_2;exact⟨A.at 0,e▸H.sl e_7⟩
 ·rintro i a h' ha ⟨H,bW⟩;have hi:=(List.getElem?_eq_some_iff.1 ha).1;have hx:lv[i]? =some (lv[i]'omQ):=iW _;have hm:lv[i]'omQ∈lv:=List.getElem_mem _;generalize lv[i]'omQ=x at hx hm;have tZ:=O.len hm;refine qZ7 (H.bp .here) rfl omQ λk3 uy=>?_;show wp (B1 _ _ _ _ _ (.int .i64 ((ps.length-1-i:Nat):Int)) _ _) _;unfold B1
  try simp only[iI,uU,iZ]
  refine qZT H .here λh6 H=>?_;obtain⟨T,s⟩:=VE ha hx;obtain⟨w,fv,H7⟩:=dt.E (H.aM (.there (.there (.there (.there (.there (.there (.there (.there s)))))))));refine qK (qQ (qZ ‹_› .here rfl ?_));refine qZ ‹_› e_8 rfl<|qG (qW8 omQ (H7.aM e_1) omQ) ?_;rintro _ h8 ⟨rfl,H8⟩;refine qD rfl<|qD rfl ?_;cases hg:jO p x.1 with
  |none=>
   refine qJ (qWn H8 e_3 λh9 H9=>.inl ⟨rfl,?_,λj hj y hy=>?_⟩)
   ·have iR:=dt.I (a:=a) (w:=w) (fv:=fv) (x:=x) (H9.sub (.cons e_2 (.cons e_1 (.cons e_1 .refl))));exact HS.cF (.there (.there (.there (.there (.there (.there (.there (.there s)))))))) (iR.sub (.refl))
   grind
  |some z=>refine qX (qy H8 e_7 ⟨rfl,rfl⟩ aS λh9 H9=>qy H9 e_7 ⟨rfl,rfl⟩ aS λfk iR=>jZc iR e_5 λdy oY=>.inr ⟨rfl,z,qj9 bW hx hg,?_⟩);have cq:=dt.I (a:=a) (w:=w) (fv:=fv) (x:=x) (oY.sub (.cons e_4 (.cons e_3 (.cons e_3 .refl))));exact HS.cF (.there (.there (.there (.there (.there (.there (.there (.there s)))))))) (cq.pk [0,0,2,2,0,0] 0)
 ·rintro _ h6 (⟨H,bW⟩ |⟨x,hx,H⟩)
  ·have hg:YW p lv=none:=qYN λj x hj=>bW j (by grind) x hj;refine PN H .here (λh=>by grind) λh7 H=>qZP (qy H e_4 ⟨rfl,rfl⟩ aS λh8 H=>qy H e_4 ⟨rfl,rfl⟩ aS λh9 H=>Uy H e_3 λfk H=>?_);refine qZ ‹_› e_2 rfl<|qZ ‹_› e_1 rfl<|qW ⟨by grind,?_⟩;exact cm.I (ps:=ps) e (H.pk [6,6] 6)
  ·refine PN H .here (λh=>by grind) λh7 H=>qg9 (jK3 rfl (Uy H e_1 λh8 H=>?_));refine qZ ‹_› e_4 rfl<|qZ ‹_› e_3 rfl<|qW ⟨by grind,?_⟩;exact cm.I (ps:=ps) e (H.pk [6,6] 6)
theorem jKh {x:bH} {r:List bH} {most:Nat} {p v:Int} (O:fQ most (x::r)) (hp:¬(p<1∨256≤p)) (hf:¬(jO p x.1=none∧most≤vO (x::r))):GA 96 x.1 p v=(0,yo p v x.1):=by have h1:=O.held;have h2:=O.le;rw[xe]at h1 hf;unfold GA;grind
theorem qG4 {n q most:Nat} (hn:5≤n) {lv:List bH} {p v:Int} (H:HS g h (cm q most lv::R)) (O:fQ most lv) :
  aE n 225 [.ptr q 0,.int .i64 p,.int .u64 v] h λr h'=>r=.int .i64 (gd most lv p v).1∧HS g h' (cm q most (gd most lv p v).2::R):=by
 cases lv with
 |nil=>have:=O.one;grind
 |cons x r=>
 have tZ:=O.len (x:=x) (iK ..);refine cX (S:=S225) rfl omQ λk hk=>?_;unfold S225;try simp only[iZ]
 unfold gd;by_cases hp:p<1∨256≤p
 ·simp only[iJ hp]
  repeat' (first |with_reducible refine qX ?_ |with_reducible refine qJ ?_ |(with_reducible refine qd ?_;try dsimp only) |(with_reducible refine jC ?_;try dsimp only) |(with_reducible refine qb ?_;try dsimp only) |(with_reducible refine qo ?_;try dsimp only) |(with_reducible refine xJ ?_;try dsimp only) |with_reducible refine qE ?_ |with_reducible refine qI ?_ |(with_reducible refine qY ?_;try dsimp only) |with_reducible refine qx ?_ |with_reducible refine jd ?_ |with_reducible refine jo ?_ |with_reducible refine qi omQ ?_ |with_reducible refine zu omQ ?_ |with_reducible refine yT omQ ?_ |with_reducible refine wK omQ ?_ |with_reducible refine zt ?_ |with_reducible refine xg ?_ |with_reducible refine qk omQ ?_ |with_reducible refine qj omQ ?_ |with_reducible refine jH omQ ?_ |with_reducible refine jI omQ ?_ |with_reducible refine jt omQ ?_ |with_reducible refine jP omQ ?_ |with_reducible refine Jh omQ ?_ |with_reducible refine XR omQ ?_ |with_reducible refine vr omQ ?_ |with_reducible refine vE omQ ?_ |with_reducible refine z7 omQ ?_ |with_reducible refine zn omQ ?_ |with_reducible refine yG (λhc=>?_) (λhc=>?_) |with_reducible refine Qx (λhc=>?_) (λhc=>?_) |with_reducible refine Qm (λhc=>?_) (λhc=>?_) |with_reducible refine vK (λhc=>?_) (λhc=>?_) |with_reducible refine wG (λhc=>?_) (λhc=>?_) |with_reducible refine gI (λhc=>?_) (λhc=>?_) |with_reducible refine kG (λhc=>?_) (λhc=>?_))
  all_goals exact qW ⟨rfl,H⟩
 simp only[iQ hp];refine jP omQ<|qY<|qo<|zn omQ<|qI (qJ ?_)
 have hH:=H;obtain⟨sv,a,ps,e,H⟩:=cm.E1 H;rw[← e]at H;refine qG (G1 omQ H .here e_1 (by have:=O.deep;grind)) ?_;rintro _ _ ⟨rfl,rfl⟩;obtain⟨w,fv,H2⟩:=dt.E (H.aM e_2);refine qK (qQ (qZ ‹_› .here rfl ?_));refine qG (qW8 omQ (H2.aM e_1) omQ) ?_;rintro _ h3 ⟨rfl,H3⟩;refine qD rfl<|qD rfl ?_;have H4:HS g h3 (cm q most (x::r)::R):=by have H4:=dt.I (a:=a) (w:=w) (fv:=fv) (x:=x) (H3.sub (.cons e_1 (.cons .here .refl)));refine cm.I1 (v:=sv) (a:=a) (ps:=ps) e ?_;rw[← e];exact H4.pk [1,1] 0
 have fin:¬(jO p x.1=none∧most≤vO (x::r))→∀h5,HS g h5 (dF w 96 x.1::qw a [.ptr w 0,fv]::qB 3 1 x.2.length fv (x.2.map (.int .i64))::qw q [.int .i64 (most:Int),sv]::qB 237 1 (ps.length+1) sv (yb (a::ps))::(List.zipWith dt ps r++R))→
   aE k 188 [.ptr w 0,.int .i64 p,.int .u64 v] h5 λr' h'=>r'=.int .i64 0∧HS g h' (cm q most ((yo p v x.1,x.2)::r)::R):=by
  intro hf h5 H5;refine(qWC omQ H5 omQ).mono ?_;rintro _ h6 ⟨rfl,H6⟩;rw[jKh O hp hf]at H6 ⊢;refine⟨rfl,cm.I1 (v:=sv) (a:=a) (ps:=ps) e ?_⟩;rw[← e];have H7:=dt.I (a:=a) (w:=w) (fv:=fv) (x:=(yo p v x.1,x.2)) (H6.sub (.cons e_1 (.cons .here .refl)));exact H7.pk [1,1] 0
 cases hg:jO p x.1 with
 |some z=>
  simp only[Option.isSome_some];refine jd (qY ?_);refine qb<|qI (qJ ?_)
  rw[iQ (λh=>by grind)];refine qG (fin (λh=>by grind) h3 (H3.sub (.refl))) ?_;rintro _ h6 ⟨rfl,H6⟩;exact qW ⟨rfl,H6⟩
 |none=>
  simp only[Option.isSome_none];refine jo (qY ?_);refine qd ?_;(try dsimp only)
  refine qG (qv2 omQ H4 O) ?_;rintro _ _ ⟨rfl,rfl⟩;have hh:=O.held;refine wG (λh0=>?_) λh0=>?_
  ·refine qE (qX ?_);rw[iJ ⟨by simp,by omega⟩];exact qW ⟨rfl,H4⟩
  ·refine qE (qJ ?_);rw[iQ (λh=>h0 omQ)];refine qG (fin (λh=>h0 omQ) _ (H3.sub (.refl))) ?_;rintro _ h6 ⟨rfl,H6⟩;exact qW ⟨rfl,H6⟩
theorem UN {most:Nat} {x:bH} {r:List bH} {p v:Int}:∃c,(gd most (x::r) p v).2=(c,x.2)::r:=by
 unfold gd;grind
theorem qvL {n q most:Nat} (hn:7≤n) {lv:List bH} {cs:List Cl} {c:AV} (H:HS g h (cm q most lv::R)) (O:fQ most lv) (S:Rd g R 2 cs.length c (cs.flatMap zz)) (hc:cs.length<100000) :
  aE n 186 [.ptr q 0,c] h λr h'=>r=.int .i64 (gB most lv lv cs).1∧HS g h' (cm q most (gB most lv lv cs).2::R):=by
 cases lv with
 |nil=>have:=O.one;grind
 |cons x r=>
 have tZ:=O.len (x:=x) (iK ..);have Ft:=O.ins x (iK ..);have Rs:=O.un x (iK ..);refine bj rfl omQ λk hk=>?_;unfold S186;try simp only[iZ]
 refine qG (Rp omQ omQ H) ?_;rintro _ h1 ⟨w0,rfl,H1⟩;obtain⟨sv,a,ps,e,H2⟩:=cm.E1 (H1.aM e_1);rw[← e]at H2;refine qG (G1 omQ H2 .here e_1 (by have:=O.deep;grind)) ?_;rintro _ _ ⟨rfl,rfl⟩;obtain⟨w,fv,H3⟩:=dt.E (H2.aM e_2);refine qK (qQ (qZ ‹_› .here rfl ?_));refine qG (KU omQ (H3.aM e_1) omQ) λva h4 H4=>?_;refine qG (Kv (l:=[]) (m:=96) (w:=w0) omQ (H4.aM (.there (.there (.there (.there (.there (.there (bi.skip _ .here))))))))  (.own .here) aS omQ) ?_;rintro _ h5 ⟨_,H5⟩;have ht:QO 96 [] x.1=(0,x.1):=by unfold QO;rw[KA Ft (by grind),Ol Rs,iJ rfl]
 rw[ht]at H5;have H6:HS g h5 (cm q most (x::r)::dF w0 96 x.1::R):=by have H7:=dt.I (a:=a) (w:=w) (fv:=fv) (x:=x) (H5.sub (.cons e_3 (.cons e_2 (.cons e_2 .refl))));refine cm.I1 (v:=sv) (a:=a) (ps:=ps) e ?_;rw[← e];have H8:HS g h5 (dF w0 96 x.1::(qw q [.int .i64 (most:Int),sv]::qB 237 1 (ps.length+1) sv (yb (a::ps))::dt a x::List.zipWith dt ps r)++R):=H7.pk [1,2,2,0] 1;grind[HS.back]
 clear H1 H2 H3 H4 H5;refine vQ (S.sl H6.drop.drop)<|zQ (λk s h'=>∃(i:Nat) (c':List Cl),s=(.int .i64 (i:Int),.int .i64 (cs.length:Int),c,.ptr w0 0,.ptr q 0,())∧i≤cs.length∧k=cs.length-i∧fQ most ((c',x.2)::r)∧
  HS g h' (cm q most ((c',x.2)::r)::dF w0 96 x.1::R)∧gB most (x::r) (x::r) cs=gB most (x::r) ((c',x.2)::r) (cs.drop i)) ?_ (m:=cs.length) (by grind) ⟨0,x.1,rfl,by omega,by rfl,O,H6,rfl⟩
 rintro k2 ih s h2 bQ ⟨i,c',rfl,h1,rfl,O',H,hT⟩;refine yG (λaw=>qX ?_) λeQ=>qJ (qx (qW ?_))
 ·have hi:i<cs.length:=by omega
  have tH:cs[i]? =some cs[i]:=iW hi;refine xV (l:=zz cs[i]) (S.sl H.drop.drop) hi omQ (Uj tH)<|qP H rfl λb h3 H3=>qm H3 .here rfl (by simp) rfl λh4 H4=>?_;have H5:HS g h4 (qw b (zz cs[i])::cm q most ((c',x.2)::r)::dF w0 96 x.1::R):=H4;unfold zz at H5;refine qQ (qZ ‹_› .here rfl ?_);refine qQ (qZ ‹_› .here rfl ?_);refine qG (qG4 omQ H5.drop O') ?_;rintro _ h6 ⟨rfl,H6⟩;rw[List.drop_eq_getElem_cons hi,wC]at hT;have O2:=(Zh (p:=cs[i].1) (v:=cs[i].2) O').1;obtain⟨c2,rN⟩:=UN (most:=most) (x:=(c',x.2)) (r:=r) (p:=cs[i].1) (v:=cs[i].2);refine gI (λcg=>qX ?_) λhe=>qJ (qi omQ ?_)
  ·have cg:¬(gd most ((c',x.2)::r) cs[i].1 cs[i].2).1=0:=by grind
   rw[iQ cg]at hT;rw[rN]at H6;obtain⟨sv,a,ps,e,H7⟩:=cm.E1 H6;rw[← e]at H7;refine qG (G1 omQ H7 .here e_1 (by have:=O.deep;grind)) ?_;rintro _ _ ⟨rfl,rfl⟩;obtain⟨w,fv,H8⟩:=dt.E (H7.aM e_2);refine qK (qQ (qy H8 .here ⟨rfl,rfl⟩ aS λh9 H9=>qx (qW ?_)));rw[hT];refine⟨rfl,cm.I1 (v:=sv) (a:=a) (ps:=ps) e ?_⟩;rw[← e];obtain⟨T,sT,uT⟩:∃T,bi (List.zipWith dt ps r++dF w0 96 x.1::R) (dF w0 96 x.1) T∧T=List.zipWith dt ps r++R:=⟨_,bi.skip _ .here,rfl⟩;subst uT;have iR:=dt.I (a:=a) (w:=w0) (fv:=fv) (x:=x) (H9.sub (.cons .here (.cons (.there (.there (.there (.there sT)))) (.cons e_1 (.drop .refl)))));exact iR.pk [1,1] 0
  ·have Rq:(gd most ((c',x.2)::r) cs[i].1 cs[i].2).1=0:=by grind
   rw[iJ Rq,rN]at hT;rw[rN]at H6 O2;exact bQ (cs.length-(i+1)) _ _ omQ ⟨i+1,c2,rfl,by omega,rfl,O2,H6,hT⟩
 ·rw[List.drop_of_length_le omQ]at hT;have hT:gB most (x::r) (x::r) cs=(0,(c',x.2)::r):=hT;rw[hT];exact⟨rfl,H.pk [0] 1⟩
theorem MT (a:Nat) (ps:List Nat):yb (a::ps)=yb ps++[.ptr a 0]:=by simp[yb,List.reverse_cons,List.map_append]
theorem OC (ps:List Nat):(yb ps).length=ps.length:=by simp[yb]
theorem qvl {n q most:Nat} (hn:3≤n) {lv:List bH} (H:HS g h (cm q most lv::R)) (_:fQ most lv) :
  aE n 321 [.ptr q 0] h λv h'=>v=.int .i64 (Jk lv).1∧HS g h' (cm q most (Jk lv).2::R):=by
 refine aF rfl omQ λk hk=>?_;unfold S321;try simp only[iZ]
 have hH:=H;obtain⟨v,ps,e,H⟩:=cm.E H;unfold Jk;by_cases h6:6≤lv.length
 ·rw[iJ h6];refine qK (qQ (qZ ‹_› .here rfl ?_));refine jQ ‹_› e_1<|z7 omQ<|qX<|qW ⟨rfl,hH⟩
 ·rw[iQ h6];refine qK (qQ (qZ ‹_› .here rfl ?_));refine jQ ‹_› e_1<|zn omQ<|qJ (qY ?_);refine qK (qQ (qZ ‹_› .here rfl ?_))
  refine qG (ZN omQ H) ?_;rintro _ h2 ⟨a,rfl,H2⟩;refine qt H2 rfl rfl rfl rfl λv3 h3 H3=>?_;refine zw (H3.aM e_3) (H3.sl .here) omQ omQ rfl λv4 h4 H4=>?_;refine qK (qQ (qy H4 e_3 (H4.one .here) aS λh5 H5=>?_));refine qh ‹_› .here rfl ‹_› e_1 rfl (HS.lt ‹_› .here)<|qW ⟨rfl,cm.I1 (v:=v4) (a:=a) (ps:=ps) e ?_⟩;rw[MT];exact H5.pk [0,0,1] 1
theorem qKA {n q:Nat} (hn:1≤n) {m v:AV} {a:Nat} {ps:List Nat} (h1:1≤ps.length) (hl:ps.length<1000) (H:HS g h (qw q [m,v]::qB 237 1 (ps.length+1) v (yb (a::ps))::R)) :
  aE n 289 [.ptr q 0] h λr h'=>r=.int .i64 0∧∃v',HS g h' (qw q [m,v']::qB 237 1 ps.length v' (yb ps)::R):=by
 refine aF rfl omQ λk hk=>?_;unfold S289;try simp only[iZ]
 refine qK (qQ (qZ ‹_› .here rfl ?_));refine jQ ‹_› e_1<|qj omQ<|qJ (qK (qQ (qZ ‹_› .here rfl ?_)));refine qK (qQ (qZ ‹_› .here rfl ?_));refine jQ ‹_› e_1<|zu omQ ?_;rw[show((ps.length+1:Nat):Int)-((1:Nat):Int)=((ps.length:Nat):Int) by omega];refine Vg (H.aM e_1) omQ omQ λv' H2=>?_;refine qK (qQ (qy H2 e_1 (H2.one .here) aS λh3 H3=>qW ⟨rfl,v',?_⟩));simp_all[MT,Nat.mul_one,OC]
theorem qZA {n q most:Nat} (hn:1≤n) {lv:List bH} (H:HS g h (cm q most lv::R)) (O:fQ most lv) :
  aE n 289 [.ptr q 0] h λv h'=>v=.int .i64 (Jz lv).1∧HS g h' (cm q most (Jz lv).2::R):=by
 unfold Jz;by_cases h1:lv.length=1
 ·rw[iJ h1];refine aF rfl omQ λk hk=>?_;unfold S289;try simp only[iZ]
  have hH:=H;obtain⟨v,ps,e,H⟩:=cm.E H;refine qK (qQ (qZ ‹_› .here rfl ?_));refine jQ ‹_› e_1<|qk omQ<|qX<|qW ⟨rfl,hH⟩
 ·rw[iQ h1];cases lv with
  |nil=>have:=O.one;grind
  |cons x r=>
  have hd:=O.deep;simp at h1 hd;have h1':1≤r.length:=by grind
  obtain⟨v,a,ps,e,H⟩:=cm.E1 H;rw[← e]at H;refine(qKA hn omQ omQ H).mono ?_;rintro _ h2 ⟨rfl,v',H2⟩;refine⟨rfl,cm.I (v:=v') (ps:=ps) e ?_⟩;show HS g h2 (_::qB 237 1 r.length v' _::(List.zipWith dt ps r++R));rw[← e];exact H2.pk [0,0] 1
theorem qgl {n q most:Nat} (hn:6≤n) {lv:List bH} (H:HS g h (cm q most lv::R)) (O:fQ most lv) (hf:∀x∈lv,x.2.length<1000000) :
  aE n 287 [.ptr q 0] h λv h'=>v=.int .i64 (XW lv).1∧HS g h' (cm q most (XW lv).2::R):=by
 rcases lv with _ |⟨x,_ |⟨y,r⟩⟩
 ·have:=O.one;grind
 ·
  refine aF rfl omQ λk hk=>?_;unfold S287;try simp only[iZ]
  obtain⟨v,a,ps,e,H2⟩:=cm.E1 H;rw[← e]at H2;refine qG (G1 omQ H2 .here e_1 (by grind)) ?_;rintro _ _ ⟨rfl,rfl⟩;refine qG (qZA omQ H O) ?_;rintro _ h3 ⟨rfl,H3⟩;rw[show Jz [x]=(10,[x])from rfl]at H3 ⊢;refine jH omQ<|qX<|qW ⟨rfl,H3⟩
 ·
  have hx:=hf x aS;have hy:=hf y aS;have Ft:=O.ins x aS;have hd:=O.deep;have hh:=O.held;have hle:=O.le;rw[xe,xe]at hh;simp at hd;refine aF rfl omQ λk hk=>?_;unfold S287;try simp only[iZ]
  obtain⟨v,a,ps,e,H2⟩:=cm.E1 H;rw[← e]at H2;refine qG (G1 omQ H2 .here e_1 (by grind)) ?_;rintro _ _ ⟨rfl,rfl⟩;simp at e;refine qG (qKA omQ omQ omQ H2) ?_;rintro _ h3 ⟨rfl,v',H3⟩;cases ps with
  |nil=>simp at e
  |cons b ps=>
  simp at e;refine jI omQ<|qJ (qG (G1 omQ H3 .here e_1 omQ) ?_);rintro _ _ ⟨rfl,rfl⟩;have H4:HS g _ (dt b y::dt a x::qw q [.int .i64 (most:Int),v']::qB 237 1 (ps.length+1) v' (yb (b::ps))::(List.zipWith dt ps r++R)):=H3.pk [3,2,0,0] 0;obtain⟨w1,f1,H4⟩:=dt.E H4;obtain⟨w2,f2,H5⟩:=dt.E (H4.aM e_3);refine qK (qQ (qZ ‹_› e_3 rfl ?_));refine qK (qQ (qZ ‹_› .here rfl ?_));refine zw (H5.aM e_5) (H5.sl e_2) omQ omQ ?_ λv6 h6 H6=>?_
  ·simp[jY,AV.one]
  refine qK (qQ (qy H6 e_4 (H6.one .here) aS λh7 H7=>?_));simp only[List.set_cons_zero,List.set_cons_succ]at H7;refine qY<|qK (qQ (qZ ‹_› .here rfl ?_));refine qK (qQ (qZ ‹_› e_2 rfl ?_))
  refine qG (KU omQ (H7.aM e_3) omQ) λv8 h8 H8=>?_;refine qG (Kv (w:=w1) omQ (H8.aM (P:=dF w1 96 y.1) e_6) (.own .here) omQ omQ) ?_;rintro _ h9 ⟨rfl,H9⟩;have ht:QO 96 y.1 x.1=(0,vA y.1 x.1):=by unfold QO;rw[KA Ft omQ,iJ rfl]
  rw[ht]at H9 ⊢;refine qh ‹_› .here rfl ‹_› e_2 rfl (HS.lt ‹_› .here)<|qW ⟨rfl,cm.I1 (v:=v') (a:=b) (ps:=ps) omQ ?_⟩;show HS g h9 (_::qB 237 1 (r.length+1) v' _::_);rw[← e];have iR:=dt.I (a:=b) (w:=w1) (fv:=v6) (x:=(vA y.1 x.1,y.2++x.2)) (R:=qw q [.int .i64 (most:Int),v']::qB 237 1 (ps.length+1) v' (yb (b::ps))::(List.zipWith dt ps r++R))
   (by rw[List.map_append,List.length_append];exact H9.pk [3,0,2,4,4] 4)
  exact iR.pk [1,1] 0
theorem MP:∀(lv:List bH) (out:List Cl),(lv.foldl (λout x=>vA x.1 out) out).length≤out.length+vO lv:=by
 intro lv
 induction lv with
 |nil=>simp
 |cons x r ih=>intro out;have h1:=ih (vA x.1 out);have h2:=Vl (cs:=out) (l:=x.1);rw[List.foldl_cons,xe];omega
theorem Nu:∀(lv:List bH) (out:List Cl),pN out→(∀x∈lv,pN x.1)→pN (lv.foldl (λout x=>vA x.1 out) out):=by
 intro lv
 induction lv with
 |nil=>simp
 |cons x r ih=>intro out h hx;exact ih _ ((hx x (iK ..)).ox h) λy hy=>hx y (iX _ hy)
theorem qjO (l1 l2:List bH):vO (l1++l2)=vO l1+vO l2:=by simp[vO]
theorem qqC {n q most:Nat} (hn:9≤n) {lv:List bH} (H:HS g h (cm q most lv::R)) (O:fQ most lv) :
  aE n 128 [.ptr q 0] h λv h'=>HS g h' (qB 170 2 (jz lv).length v ((jz lv).flatMap zz)::cm q most lv::R):=by
 (refine qA (g:=W128) rfl omQ λk hk=>?_;show wp (S128 (callT tab qz k) _ _) _;unfold S128;try simp only[iI,uU,iZ])
 obtain⟨v,ps,e,H⟩:=cm.E H;have hd:=O.deep;have hle:=O.le;have hhe:=O.held;refine Y1 (H.ak (e:=170) (sz:=2)) ⟨rfl,rfl⟩ λb1 h1 H=>?_;refine qK (qQ (qZ ‹_› e_2 rfl ?_));refine qG (Uo omQ (H.one e_3) H) ?_;rintro _ h4 ⟨b4,rfl,H⟩;have H5:=(H.mr .lH).mr (.loop .ready none 128 [1,1,0,1,0] [3] [.ptr b1 0] h4.nx);generalize(h4.new .lH).nx=l at H5 ⊢;generalize h4.nx=d at H5 ⊢;obtain⟨k2,rfl⟩:∃k2,k=k2+1:=⟨k-1,by omega⟩
 refine qXE (qG2 (b0:=b4) (v:=v) (ps:=ps)
  (Inv:=λi h'=>∃ov,HS g h' (Qd l (.loop .ready none 128 [1,1,0,1,0] [3] [.ptr b1 0] d)::Qd d .lH::qw b4 [v]::qw b1 [ov]::qB 170 2 (jz (lv.take i)).length ov ((jz (lv.take i)).flatMap zz)::
   qw q [.int .i64 (most:Int),v]::qB 237 1 lv.length v (yb ps)::(List.zipWith dt ps lv++R)))
  (Fin:=λ_=>False) ?_ ?_ omQ ⟨.ak,H5⟩) ?_
 ·rintro i h' ⟨ov,H⟩;obtain⟨et,A⟩:=H.obj (b:=b4) e_2;exact⟨A.at 0,e▸H.sl e_6⟩
 ·rintro i a h' ha ⟨ov,H⟩;have hi:=(List.getElem?_eq_some_iff.1 ha).1;have hx:lv[i]? =some (lv[i]'omQ):=iW _;have hm:lv[i]'omQ∈lv:=List.getElem_mem _;generalize lv[i]'omQ=x at hx hm;have tZ:=O.len hm;have Ft:=O.ins x hm;have Rs:=O.un x hm;have oS:(jz (lv.take i)).length+x.1.length≤96:=by
   have h1:=MP (lv.take i) [];have h2:vO lv=vO (lv.take i)+(x.1.length+vO (lv.drop (i+1))):=by
    rw[← xe,← qjO]
    congr 1
    have h3:lv.drop i=x::lv.drop (i+1):=by
     have nM:i<lv.length:=by omega
     rw[List.drop_eq_getElem_cons nM];grind
    grind[List.take_append_drop]
   grind[jz]
  have hmi:pN (jz (lv.take i)):=Nu _ _ (λc hc=>by grind) λy hy=>O.ins y (List.mem_of_mem_take hy);have D4:jz (lv.take (i+1))=vA x.1 (jz (lv.take i)):=by simp_all[jz,List.take_add_one,Option.toList_some,List.foldl_append]
  refine qZ7 (H.bp .here) rfl omQ λk3 uy=>?_;show wp (B0 _ _ _ (.int .i64 ((ps.length-1-i:Nat):Int)) _ _) _;unfold B0
  try simp only[iI,iZ]
  refine qZT H .here λh6 H=>?_;refine qG (Rp omQ omQ H) ?_;rintro _ h7 ⟨w0,rfl,H⟩;obtain⟨T,s⟩:=VE ha hx;obtain⟨w,fv,H7⟩:=dt.E (H.aM (.there (.there (.there (.there (.there (.there (.there (.there s)))))))));refine qK (qQ (qZ ‹_› .here rfl ?_));refine qG (KU omQ (H7.aM e_1) omQ) λva h8 H8=>?_;refine qG (Kv (m:=96) (w:=w0) omQ (H8.aM (P:=dF w0 96 []) e_4) (.own .here) aS omQ) ?_;rintro _ h9 ⟨_,H9⟩;have ht:QO 96 [] x.1=(0,x.1):=by unfold QO;rw[KA Ft (by grind),Ol Rs,iJ rfl]
  rw[ht]at H9;dsimp only at H9;refine qZ ‹_› e_8 rfl ?_;have Rt:QO 96 x.1 (jz (lv.take i))=(0,vA x.1 (jz (lv.take i))):=by unfold QO;rw[KA hmi omQ,iJ rfl]
  have S2:Rd g _ 2 (jz (lv.take i)).length ov ((jz (lv.take i)).flatMap zz):=H9.drop.rd (L:=qB 170 2 x.1.length va (x.1.flatMap zz)::dF w 96 x.1::qw a [.ptr w 0,fv]::qB 3 1 x.2.length fv (x.2.map (.int .i64))::
   Qd l (.loop .busy none 128 [1,1,0,1,0] [3] [.ptr b1 0] d)::Qd d .lH::qw b4 [v]::qw b1 [ov]::qB 170 2 (jz (lv.take i)).length ov ((jz (lv.take i)).flatMap zz)::
   qw q [.int .i64 (most:Int),v]::qB 237 1 lv.length v (yb ps)::T) e_8
  refine qG (Kv omQ H9 S2 omQ omQ) ?_;rintro _ fk ⟨_,iR⟩;rw[Rt]at iR;dsimp only at iR;have pu:=Vl (cs:=jz (lv.take i)) (l:=x.1);refine qG (KU omQ iR omQ) λvb dy oY=>?_;refine qy oY (b:=b1) e_9 (oY.one .here) aS λnP cq=>qWn cq e_7 λh13 H13=>.inl ⟨rfl,vb,?_⟩;rw[D4]
  have H14:=dt.I (a:=a) (w:=w) (fv:=fv) (x:=x) (R:=Qd l (.loop .ready none 128 [1,1,0,1,0] [3] [.ptr b1 0] d)::Qd d .lH::qw b4 [v]::qw b1 [vb]::
   qB 170 2 (vA x.1 (jz (lv.take i))).length vb ((vA x.1 (jz (lv.take i))).flatMap zz)::qw q [.int .i64 (most:Int),v]::qB 237 1 lv.length v (yb ps)::T) (H13.pk [6,5,5,0,4,4,0,0,3,3] 3)
  exact HS.cF (.there (.there (.there (.there (.there (.there (.there s))))))) H14
 ·rintro _ h6 (⟨ov,H⟩ |hF)
  ·rw[List.take_of_length_le omQ]at H;refine PN H .here (λh=>by grind) λh7 H=>qZP<|qZ ‹_› e_3 rfl<|Uy H e_1 λfk H=>qW ?_
   exact(cm.I (v:=v) (ps:=ps) e (HS.back (A:=_::_::List.zipWith dt ps lv) (H.sub (L':=qB 170 2 (jz lv).length ov ((jz lv).flatMap zz)::qw q [.int .i64 (most:Int),v]::
    qB 237 1 lv.length v (yb ps)::(List.zipWith dt ps lv++R)) (.cons e_4 (.cons e_4 (.cons e_4 (.drop (.drop (.drop (.drop (.refl))))))))))).pk [1] 0
  ·exact hF.elim
end
section
variable {g h:AH} {L R:List SP}
structure VM where
  sz:Nat
  K:List Cl
  most:Nat
  lv:List bH
  aB:Int
structure dP (M:VM):Prop where
  lo:32≤M.sz
  hi:M.sz≤256
  iS:fQ M.most M.lv
  ins:∀c∈M.K,1≤c.1∧c.1<M.sz
  un:lR M.K
  fr:∀x∈M.lv,x.2.length<100000
def xc (M:VM) (p x:Int):Int×VM :=
 if 1≤p∧p<M.sz then match jO p M.K with
  |some y=>(if y=x then 0 else 14,M)
  |none=>(0,{ M with K:=M.K++[(p,x)] })
 else(2,M)
def qn (M:VM) (p:Int):(Int×Int)×VM :=
 if 1≤p∧p<M.sz then match YW p M.lv with
  |some x=>((x,0),M)
  |none=>match jO p M.K with
   |some x=>((x,0),M)
   |none=>((0,11),{ M with aB:=p })
 else((0,2),M)
def zl (M:VM) (cs:List Cl):Int×VM :=
 if∀c∈cs,1≤c.1∧c.1<M.sz then((gB M.most M.lv M.lv cs).1,{ M with lv:=(gB M.most M.lv M.lv cs).2 })else(2,M)
def fR (M:VM) (b:Int):VM:={ M with lv:=YA M.lv b }
def vp (M:VM):Int×VM:=((Jk M.lv).1,{ M with lv:=(Jk M.lv).2 })
def yg (M:VM):Int×VM:=((Jz M.lv).1,{ M with lv:=(Jz M.lv).2 })
def gU (M:VM):Int×VM:=((XW M.lv).1,{ M with lv:=(XW M.lv).2 })
theorem KC:∀(n:Nat) (l:List Int),l.Nodup→(∀x∈l,0≤x∧x<n)→l.length≤n:=by
 intro n
 induction n with
 |zero=>
  intro l _ h;cases l with
  |nil=>simp
  |cons x l=>simp_all;omega
 |succ n ih=>
  intro l hd h;by_cases hx:(n:Int)∈l
  ·have:=ih (l.erase n) (hd.erase _) (λx ix=>by
    grind)
   grind
  grind
theorem dP.Fu {M:VM} (O:dP M):M.K.length≤256:=by
 have hu:(M.K.map (·.1)).Nodup:=O.un
 have:=KC M.sz _ hu (λx hx=>by
  obtain⟨c,hc,rfl⟩:=List.mem_map.1 hx;have:=O.ins c hc
  omega)
 rw[List.length_map]at this;have:=O.hi;omega
def Jt (f:Int×Bool):List AV:=[.int .u64 f.1,.bool f.2]
def w4 (K:List Cl) (i:Nat):Int×Bool:=match jO (i:Int) K with |some x=>(x,true) |none=>(0,false)
def vI (sz:Nat) (K:List Cl):List (Int×Bool):=(List.range sz).map (w4 K)
theorem Xl (sz:Nat) (K:List Cl):(vI sz K).length=sz:=by simp[vI]
theorem Jw {sz:Nat} {K:List Cl} {i:Nat} (hi:i<sz):(vI sz K)[i]? =some (w4 K i):=by grind[vI,List.getElem?_range]
theorem gF {α:Type} {sz:Nat} {enc:α→List AV} (he:∀a,(enc a).length=sz) {l:List α} {i:Nat} {a:α} (h:l[i]? =some a):((l.flatMap enc).drop (i*sz)).take sz=enc a:=by obtain⟨hi,e⟩:=List.getElem?_eq_some_iff.1 h;simp_all[Yl,List.drop_eq_getElem_cons,List.flatMap_cons]
theorem Zl {α:Type} {sz:Nat} {enc:α→List AV} (he:∀a,(enc a).length=sz) {l:List α} {i:Nat} {a:α} (hi:i<l.length):JZ (l.flatMap enc) (i*sz) (enc a)=(l.set i a).flatMap enc:=by
 have h1:(l.flatMap enc).take (i*sz)=(l.take i).flatMap enc:=by
  have e1:l.flatMap enc=(l.take i).flatMap enc++(l.drop i).flatMap enc:=by rw[← List.flatMap_append,List.take_append_drop]
  have e2:((l.take i).flatMap enc).length=i*sz:=by rw[KM enc he,List.length_take,Nat.min_eq_left omQ]
  grind
 have h2:(l.flatMap enc).drop (i*sz+sz)=(l.drop (i+1)).flatMap enc:=by rw[show i*sz+sz=(i+1)*sz by grind,Yl enc he]
 simp_all[JZ,List.set_eq_take_append_cons_drop,List.flatMap_append,List.flatMap_cons]
theorem qjD {α:Type} {enc:α→List AV} {a:α}:∀n,gC (enc a) n=(List.replicate n a).flatMap enc:=by
 intro n
 induction n with
 |zero=>rfl
 |succ n ih=>rw[gC,ih,List.replicate_succ,List.flatMap_cons]
theorem qV6 (sz:Nat):vI sz []=List.replicate sz (0,false):=by unfold vI;rw[show w4 []=λ_=>((0,false):Int×Bool)from rfl,List.map_const',List.length_range]
theorem qGU {sz:Nat} {K:List Cl} {i:Nat} {x:Int} (hi:i<sz) (hn:jO (i:Int) K=none):vI sz (K++[((i:Int),x)])=(vI sz K).set i (x,true):=by
 have e:∀j:Nat,jO (j:Int) (K++[((i:Int),x)])=if j=i then some x else jO (j:Int) K:=by
  intro j;rw[← wM hn,Yq];grind
 apply List.ext_getElem?;intro j;rw[List.getElem?_set,Xl];by_cases hj:j<sz
 ·rw[Jw hj];by_cases h:i=j
  ·subst h;rw[iJ rfl,iJ hi];unfold w4;grind
  ·rw[iQ h,Jw hj];unfold w4;grind
 simp_all[Xl,iQ,omQ]
def ag (v:Nat) (M:VM):SP:=.ex λfv=>.ex λov=>.ex λq=>.ex λe=>.all [qw v [fv,ov,.ptr q 0,.int .i64 M.aB],qB e 2 M.sz fv ((vI M.sz M.K).flatMap Jt),
 qB 3 1 M.K.length ov (M.K.map λc=>.int .i64 c.1),cm q M.most M.lv]
theorem ag.E {v:Nat} {M:VM} (H:HS g h (ag v M::R)):∃fv ov q e,HS g h (qw v [fv,ov,.ptr q 0,.int .i64 M.aB]::qB e 2 M.sz fv ((vI M.sz M.K).flatMap Jt)::
  qB 3 1 M.K.length ov (M.K.map λc=>.int .i64 c.1)::cm q M.most M.lv::R):=by
 obtain⟨fv,H⟩:=H.eU;obtain⟨ov,H⟩:=H.eU;obtain⟨q,H⟩:=H.eU;obtain⟨e,H⟩:=H.eU;exact⟨fv,ov,q,e,H.cG⟩
theorem ag.I {v:Nat} {M:VM} {fv ov:AV} {q:Nat} {e:TypeId} (H:HS g h (qw v [fv,ov,.ptr q 0,.int .i64 M.aB]::qB e 2 M.sz fv ((vI M.sz M.K).flatMap Jt)::
  qB 3 1 M.K.length ov (M.K.map λc=>.int .i64 c.1)::cm q M.most M.lv::R)):HS g h (ag v M::R) :=
 HS.fB fv (HS.fB ov (HS.fB q (HS.fB e (HS.allI H))))
def eL (n:Int):Nat:=(max 32 (min n 256)).toNat
theorem Fv (n:Int):32≤eL n∧eL n≤256:=by grind[eL]
def Nl (words most:Int):VM:=⟨eL words,[],(max 0 (min most 96)).toNat,[([],[])],0⟩
theorem qYD {m:Nat} (hm:m≤96):fQ m [([],[])]:=⟨by simp[vO],hm,by intro x hx;simp at hx;subst hx;nofun,by intro x hx;simp at hx;subst hx;exact List.nodup_nil,by simp,by simp⟩
theorem jQD (words most:Int):dP (Nl words most) :=
 ⟨(Fv _).1,(Fv _).2,qYD (by show(max 0 (min most 96)).toNat≤96;omega),by nofun,List.nodup_nil,by simp[Nl]⟩
theorem jZ3 {n:Nat} (hn:4≤n) {w m:Int} (H:HS g h R):aE n 117 [.int .i64 w,.int .i64 m] h λr h'=>∃v,r=.ptr v 0∧HS g h' (ag v (Nl w m)::R):=by
 refine bj rfl omQ λk hk=>?_;unfold S117;try simp only[iZ]
 refine zt (xg ?_);have hb:=Fv w;rw[show max ((32:Nat):Int) (min w ((256:Nat):Int))=((eL w:Nat):Int) by grind[eL]];refine KI H rfl (Nat.le_refl _) omQ λfv h2 H2=>?_;refine qG (jQc omQ H2) ?_;rintro _ h3 ⟨q,rfl,H3⟩;have h1:=H3.one e_1;refine qR (by unfold vj;rw[h1.1];rfl)<|qP H3 (by show(fv.one&&(true&&(true&&(true&&true))))=true;rw[h1.2];rfl) λv h4 H4=>qW ⟨v,rfl,?_⟩;rw[List.take_of_length_le (by simp[QF]),show gC [AV.int .u64 ((0:Nat):Int),AV.bool false] (eL w)=(vI (eL w) []).flatMap Jt by rw[qV6,← qjD];rfl]at H4;exact ag.I ((H4.ak).pk [1,2,0,0] 0)
theorem ME {n:Nat} (hn:1≤n) {v:Nat} {M:VM} (H:HS g h (ag v M::R)):aE n 182 [.ptr v 0] h λr h'=>r=.int .i64 (M.sz:Int)∧h'=h:=by
 refine aF rfl omQ λk hk=>?_;unfold S182;try simp only
 obtain⟨fv,ov,q,e,H⟩:=ag.E H;refine qK (qQ (qZ ‹_› .here rfl ?_));refine jQ ‹_› e_1<|qW ⟨rfl,rfl⟩
theorem IH {n:Nat} (hn:1≤n) {v:Nat} {M:VM} {p:Int} (H:HS g h (ag v M::R)):aE n 184 [.ptr v 0,.int .i64 p] h λr h'=>r=.bool (decide (1≤p∧p<M.sz))∧h'=h:=by
 refine bj rfl omQ λk hk=>?_;unfold S184;try simp only[iZ]
 obtain⟨fv,ov,q,e,H⟩:=ag.E H;by_cases h1:1≤p
 ·refine z7 omQ<|qY<|qd<|qK (qQ (qZ ‹_› .here rfl ?_));refine jQ ‹_› e_1 ?_
  refine XI (qE (qW ⟨?_,rfl⟩))
  grind
 ·refine zn omQ<|qY<|qb<|qI ?_
  exact qW ⟨by grind,rfl⟩
theorem qKH {M:VM} {p x:Int} (O:dP M):dP (xc M p x).2:=by
 unfold xc
 split
 ·rename_i hp
  split
  ·grind
  ·rename_i hn;refine⟨O.lo,O.hi,O.iS,?_,?_,O.fr⟩
   ·intro c hc;rcases List.mem_append.1 hc with hc |hc
    ·exact O.ins c hc
    grind
   ·have:=O.un.put (p:=p) (v:=x);grind[wM]
 grind
theorem qgB {n:Nat} (hn:2≤n) {v:Nat} {M:VM} {p x:Int} (H:HS g h (ag v M::R)) (O:dP M) :
  aE n 163 [.ptr v 0,.int .i64 p,.int .u64 x] h λr h'=>r=.int .i64 (xc M p x).1∧HS g h' (ag v (xc M p x).2::R):=by
 refine cX rfl omQ λk hk=>?_;unfold S163;try simp only[iZ]
 refine qG (IH omQ H) ?_;rintro _ _ ⟨rfl,rfl⟩;unfold xc;by_cases hp:1≤p∧p<M.sz
 ·rw[iJ hp,iG hp];obtain⟨i,rfl⟩:∃i:Nat,p=(i:Int):=⟨p.toNat,by omega⟩;have hi:i<M.sz:=by omega
  obtain⟨fv,ov,q,e,H⟩:=ag.E H;refine jd (qJ (qK (qQ (qZ ‹_› .here rfl ?_))));refine xV (H.sl e_1) hi omQ (gF (sz:=2) (λ_=>rfl) (Jw hi))<|qP H rfl λb h3 H3=>qm H3 .here rfl (by simp) rfl λh4 H4=>?_
  have H5:HS g h4 (qw b (Jt (w4 M.K i))::qw v [fv,ov,.ptr q 0,.int .i64 M.aB]::qB e 2 M.sz fv ((vI M.sz M.K).flatMap Jt)::
   qB 3 1 M.K.length ov (M.K.map λc=>.int .i64 c.1)::cm q M.most M.lv::R):=H4
  unfold Jt at H5;cases hg:jO (i:Int) M.K with
  |some y=>
   rw[show w4 M.K i=(y,true) by grind[w4]]at H5;refine qQ (qZ ‹_› .here rfl ?_);refine qX (qQ (qZ ‹_› .here rfl ?_));have H6:=ag.I (H5.drop);by_cases hy:y=x
   ·refine jI omQ<|qJ (qW ⟨by grind,H6⟩)
   ·refine jH omQ<|qX (qW ⟨by grind,H6⟩)
  |none=>
   rw[show w4 M.K i=(0,false) by grind[w4]]at H5;have lS:=O.Fu;refine qQ (qZ ‹_› .here rfl ?_);refine qJ (qK (qQ (qZ ‹_› e_1 rfl ?_)));refine qR rfl<|PL (l:=[.int .u64 x,.bool true]) (H5.drop.aM (P:=qB e 2 M.sz fv ((vI M.sz M.K).flatMap Jt)) e_1) hi rfl rfl λh6 H6=>?_
   rw[show JZ ((vI M.sz M.K).flatMap Jt) (i*2) [AV.int .u64 x,AV.bool true]=(vI M.sz (M.K++[((i:Int),x)])).flatMap Jt by
    rw[qGU hi hg,← Zl (enc:=Jt) (sz:=2) (λ_=>rfl) (by grind[Xl])];rfl]at H6
   refine qK (qQ (qZ ‹_› e_1 rfl ?_));refine qt (n:=1) (l:=[.int .i64 (i:Int)]) (sz:=1) H6 rfl rfl rfl rfl λv7 h7 H7=>?_;refine zw (H7.aM (P:=qB 3 1 M.K.length ov (M.K.map λc=>.int .i64 c.1)) e_3) (H7.sl .here) omQ omQ rfl λv8 h8 H8=>?_;refine qK (qQ (qy H8 e_3 (H8.one .here) aS λh9 H9=>qW ⟨rfl,ag.I (M:={ M with K:=M.K++[((i:Int),x)] }) (fv:=fv) (ov:=v8) (q:=q) (e:=e) ?_⟩));rw[List.map_append,List.length_append];exact H9.pk [0,2,0,1] 1
 ·rw[iQ hp,iV hp];refine jo (qX ?_);exact qW ⟨rfl,H⟩
theorem yO {M:VM} {p:Int} (O:dP M):dP (qn M p).2:=by
 unfold qn
 repeat' split
 all_goals exact⟨O.lo,O.hi,O.iS,O.ins,O.un,O.fr⟩
theorem Xx {n:Nat} (hn:9≤n) {v:Nat} {M:VM} {p:Int} (H:HS g h (ag v M::R)) (O:dP M) :
  aE n 151 [.ptr v 0,.int .i64 p] h λr h'=>r=.bV [.int .u64 (qn M p).1.1,.int .i64 (qn M p).1.2]∧HS g h' (ag v (qn M p).2::R):=by
 refine bj rfl omQ λk hk=>?_;unfold S151;try simp only[iZ]
 refine qG (IH omQ H) ?_;rintro _ _ ⟨rfl,rfl⟩;unfold qn;by_cases hp:1≤p∧p<M.sz
 ·rw[iJ hp,iG hp];obtain⟨i,rfl⟩:∃i:Nat,p=(i:Int):=⟨p.toNat,by omega⟩;have hi:i<M.sz:=by omega
  obtain⟨fv,ov,q,e,H⟩:=ag.E H;refine jd (qJ (qK (qQ (qZ ‹_› .here rfl ?_))));refine qG (jJd omQ (H.aM e_3) O.iS) ?_;rintro _ h2 ⟨rfl,H2⟩;refine qD rfl<|qD rfl ?_;cases hl:YW (i:Int) M.lv with
  |some y=>simp;refine qX<|qW ⟨rfl,ag.I (H2.pk [1,1,1] 0)⟩
  |none=>
   simp;refine qJ (qK (qQ (qZ ‹_› e_1 rfl ?_)));refine xV (H2.sl e_2) hi omQ (gF (sz:=2) (λ_=>rfl) (Jw hi))<|qP H2 rfl λb h3 H3=>qm H3 .here rfl (by simp) rfl λh4 H4=>?_
   have H5:HS g h4 (qw b (Jt (w4 M.K i))::cm q M.most M.lv::qw v [fv,ov,.ptr q 0,.int .i64 M.aB]::qB e 2 M.sz fv ((vI M.sz M.K).flatMap Jt)::
    qB 3 1 M.K.length ov (M.K.map λc=>.int .i64 c.1)::R):=H4
   unfold Jt at H5;cases hg:jO (i:Int) M.K with
   |some y=>rw[show w4 M.K i=(y,true) by grind[w4]]at H5;refine qQ (qZ ‹_› .here rfl ?_);refine qX (qQ (qZ ‹_› .here rfl ?_));exact qW ⟨rfl,ag.I (H5.drop.pk [1,1,1] 0)⟩
   |none=>rw[show w4 M.K i=(0,false) by grind[w4]]at H5;refine qQ (qZ ‹_› .here rfl ?_);refine qJ (qK (qQ ?_));refine qy H5 (b:=v) e_2 ⟨rfl,rfl⟩ aS λh9 H9=>qW ⟨rfl,ag.I (fv:=fv) (ov:=ov) (H9.pk [0,2,2,1] 1)⟩
 ·rw[iQ hp,iV hp];refine jo (qX ?_);exact qW ⟨rfl,H⟩
theorem jJC {most:Nat} {lv:List bH} {p v:Int} {n:Nat} (h:∀x∈lv,x.2.length<n):∀x∈(gd most lv p v).2,x.2.length<n:=by
 cases lv with
 |nil=>nofun
 |cons y r=>
  obtain⟨c,hc⟩:=UN (most:=most) (x:=y) (r:=r) (p:=p) (v:=v);grind
theorem qkE {most:Nat} {ax:List bH} {n:Nat} (hw:∀x∈ax,x.2.length<n):∀{cs:List Cl} {lv:List bH},(∀x∈lv,x.2.length<n)→∀x∈(gB most ax lv cs).2,x.2.length<n:=by
 intro cs
 induction cs with
 |nil=>intro lv h;exact h
 |cons c cs ih=>
  intro lv h;rw[wC]
  split
  ·exact ih (jJC h)
  grind
theorem qJt {M:VM} {cs:List Cl} (O:dP M):dP (zl M cs).2:=by
 unfold zl
 split
 ·exact⟨O.lo,O.hi,(qZS O.iS O.iS rfl).1,O.ins,O.un,qkE O.fr O.fr⟩
 grind
theorem K6 {n:Nat} (hn:8≤n) {v:Nat} {M:VM} {cs:List Cl} {c:AV} (H:HS g h (ag v M::R)) (O:dP M) (S:Rd g R 2 cs.length c (cs.flatMap zz)) (hc:cs.length<100000) :
  aE n 153 [.ptr v 0,c] h λr h'=>r=.int .i64 (zl M cs).1∧HS g h' (ag v (zl M cs).2::R):=by
 refine bj rfl omQ λk hk=>?_;unfold S153;try simp only[iZ]
 refine vQ (S.sl H.drop)<|zQ (λk s h'=>∃i:Nat,s=(.int .i64 (i:Int),.int .i64 (cs.length:Int),c,c,.ptr v 0,())∧i≤cs.length∧k=cs.length-i∧HS g h' (ag v M::R)∧∀j,j<i→∀d,cs[j]? =some d→1≤d.1∧d.1<M.sz)
  ?_ (m:=cs.length) (by grind) ⟨0,rfl,by omega,by rfl,H,λj hj=>by omega⟩
 rintro k2 ih s h2 bQ ⟨i,rfl,h1,rfl,H,bW⟩;refine yG (λaw=>qX ?_) λeQ=>qJ ?_
 ·have hi:i<cs.length:=by omega
  have tH:cs[i]? =some cs[i]:=iW hi;refine xV (S.sl H.drop) hi omQ (Uj tH)<|qP H rfl λb h3 H3=>qm H3 .here rfl (by simp) rfl λh4 H4=>?_;have H5:HS g h4 (qw b (zz cs[i])::ag v M::R):=H4;unfold zz at H5;refine qQ (qZ ‹_› .here rfl ?_);refine qG (IH omQ H5.drop) ?_;rintro _ _ ⟨rfl,rfl⟩;by_cases eI:1≤cs[i].1∧cs[i].1<M.sz
  ·rw[iG eI];refine jd (qJ (qi omQ ?_));refine bQ (cs.length-(i+1)) _ _ omQ ⟨i+1,rfl,by omega,rfl,H5.drop,λj hj d hd=>?_⟩;grind
  ·rw[iV eI];refine jo (qX (qx ?_));unfold zl;rw[iQ (λh=>eI (h _ (List.getElem_mem hi)))];exact qW ⟨rfl,H5.drop⟩
 ·have cQ:∀d∈cs,1≤d.1∧d.1<M.sz:=by
   grind[List.getElem?_of_mem,List.getElem?_eq_some_iff]
  obtain⟨fv,ov,q,e,H⟩:=ag.E H;refine qK (qQ (qZ ‹_› .here rfl ?_));refine qG (qvL omQ (H.aM e_3) O.iS (S.more.more.more) hc) ?_;rintro _ h4 ⟨rfl,H4⟩;unfold zl;rw[iJ cQ];exact qx (qW ⟨rfl,ag.I (fv:=fv) (ov:=ov) (H4.pk [1,1,1] 0)⟩)
theorem qk4 {n:Nat} (hn:4≤n) {v:Nat} {M:VM} (H:HS g h (ag v M::R)) (O:dP M) :
  aE n 285 [.ptr v 0] h λr h'=>r=.int .i64 (vp M).1∧HS g h' (ag v (vp M).2::R):=by
 refine aF rfl omQ λk hk=>?_;unfold S285;try simp only
 obtain⟨fv,ov,q,e,H⟩:=ag.E H;refine qK (qQ (qZ ‹_› .here rfl ?_));refine qG (qvl omQ (H.aM e_3) O.iS) ?_;rintro _ h2 ⟨rfl,H2⟩;exact qW ⟨rfl,ag.I (fv:=fv) (ov:=ov) (H2.pk [1,1,1,0] 0)⟩
theorem qJL {n:Nat} (hn:2≤n) {v:Nat} {M:VM} (H:HS g h (ag v M::R)) (O:dP M) :
  aE n 221 [.ptr v 0] h λr h'=>r=.int .i64 (yg M).1∧HS g h' (ag v (yg M).2::R):=by
 refine aF rfl omQ λk hk=>?_;unfold S221;try simp only
 obtain⟨fv,ov,q,e,H⟩:=ag.E H;refine qK (qQ (qZ ‹_› .here rfl ?_));refine qG (qZA omQ (H.aM e_3) O.iS) ?_;rintro _ h2 ⟨rfl,H2⟩;exact qW ⟨rfl,ag.I (fv:=fv) (ov:=ov) (H2.pk [1,1,1,0] 0)⟩
theorem qX8 {n:Nat} (hn:7≤n) {v:Nat} {M:VM} (H:HS g h (ag v M::R)) (O:dP M) :
  aE n 219 [.ptr v 0] h λr h'=>r=.int .i64 (gU M).1∧HS g h' (ag v (gU M).2::R):=by
 refine aF rfl omQ λk hk=>?_;unfold S219;try simp only
 obtain⟨fv,ov,q,e,H⟩:=ag.E H;refine qK (qQ (qZ ‹_› .here rfl ?_));refine qG (qgl omQ (H.aM e_3) O.iS λx hx=>Nat.lt_trans (O.fr x hx) omQ) ?_;rintro _ h2 ⟨rfl,H2⟩;exact qW ⟨rfl,ag.I (fv:=fv) (ov:=ov) (H2.pk [1,1,1,0] 0)⟩
theorem qkf {n:Nat} (hn:3≤n) {v:Nat} {M:VM} {b:Int} (H:HS g h (ag v M::R)) (O:dP M) :
  aE n 284 [.ptr v 0,.int .i64 b] h λ_ h'=>HS g h' (ag v (fR M b)::R):=by
 refine bj rfl omQ λk hk=>?_;unfold S284;try simp only
 obtain⟨fv,ov,q,e,H⟩:=ag.E H;refine qK (qQ (qZ ‹_› .here rfl ?_));refine qG (qxB omQ (H.aM e_3) O.iS λx hx=>Nat.lt_trans (O.fr x hx) omQ) ?_;intro _ h2 H2;exact qW (ag.I (fv:=fv) (ov:=ov) (H2.pk [1,1,1,0] 0))
theorem NC {n:Nat} (hn:1≤n) {v:Nat} {M:VM} (H:HS g h (ag v M::R)) :
  aE n 100 [.ptr v 0] h λr h'=>r=.int .i64 M.aB∧h'=h:=by
 refine aF rfl omQ λk hk=>?_;unfold S100;try simp only
 obtain⟨fv,ov,q,e,H⟩:=ag.E H;refine qK (qQ (qZ ‹_› .here rfl ?_));exact qW ⟨rfl,rfl⟩
theorem OR {n:Nat} (hn:10≤n) {v:Nat} {M:VM} (H:HS g h (ag v M::R)) (O:dP M) :
  aE n 102 [.ptr v 0] h λr h'=>HS g h' (qB 170 2 (jz M.lv).length r ((jz M.lv).flatMap zz)::ag v M::R):=by
 refine aF rfl omQ λk hk=>?_;unfold S102;try simp only
 obtain⟨fv,ov,q,e,H⟩:=ag.E H;refine qK (qQ (qZ ‹_› .here rfl ?_));refine qG (qqC omQ (H.aM e_3) O.iS) ?_;intro r h2 H2;refine qW ?_;have H3:=ag.I (v:=v) (M:=M) (fv:=fv) (ov:=ov) (q:=q) (e:=e) (R:=qB 170 2 (jz M.lv).length r ((jz M.lv).flatMap zz)::R) (H2.sub (.cons e_2 (.cons e_2 (.cons e_2 (.cons e_1 (.refl))))));exact H3.pk [1] 0
theorem qzO {n:Nat}:∀{l:List bH},(∀x∈l,x.2.length<n)→(l.flatMap (·.2)).length≤l.length*n:=by
 intro l h
 induction l with
 |nil=>simp
 |cons x r ih=>have h1:=h x (iK ..);have h2:=ih λy hy=>h y (iX _ hy);rw[List.flatMap_cons,List.length_append,List.length_cons,Nat.add_mul,Nat.one_mul];omega
theorem qVL {n:Nat} {lv:List bH} (h:∀x∈lv,x.2.length<n):(vD lv).length≤lv.length*n:=by have:=qzO λx hx=>h x (List.mem_reverse.1 hx);rw[List.length_reverse]at this;trivial
theorem qqT {n:Nat} (hn:2≤n) {v:Nat} {M:VM} (H:HS g h (ag v M::R)) (O:dP M) :
  aE n 110 [.ptr v 0] h λr h'=>HS g h' (qB 3 1 (vD M.lv).length r ((vD M.lv).map (.int .i64))::ag v M::R):=by
 refine aF rfl omQ λk hk=>?_;unfold S110;try simp only
 obtain⟨fv,ov,q,e,H⟩:=ag.E H;refine qK (qQ (qZ ‹_› .here rfl ?_));have II:=qVL O.fr;have hd:=O.iS.deep;refine qG (qzN omQ (H.aM e_3) O.iS omQ) ?_;intro r h2 H2;refine qW ?_;have H3:=ag.I (v:=v) (M:=M) (fv:=fv) (ov:=ov) (q:=q) (e:=e) (R:=qB 3 1 (vD M.lv).length r ((vD M.lv).map (.int .i64))::R) (H2.sub (.cons e_2 (.cons e_2 (.cons e_2 (.cons e_1 (.refl))))));exact H3.pk [1] 0
def km (zs:List Int) (i:Nat):Int:=zs[i]?.getD 0
def kW (zs:List Int):List Cl:=(List.range (eL zs.length-1)).map λi=>(((i+1:Nat):Int),km zs (i+1))
def zN (zs:List Int) (most:Int):VM:=⟨eL zs.length,kW zs,(max 0 (min most 96)).toNat,[([],[])],0⟩
theorem qvm (zs:List Int):(kW zs).length=eL zs.length-1:=by simp[kW]
theorem Ru (zs:List Int) {i:Nat} (hi:i+1<eL zs.length):(kW zs)[i]? =some (((i+1:Nat):Int),km zs (i+1)):=by unfold kW;grind
theorem qyM (zs:List Int) {i:Nat} {p:Int} (hp:(i:Int)<p):jO p ((kW zs).take i)=none:=by rw[qJ7];intro hm;obtain⟨c,hc,he⟩:=List.mem_map.1 hm;obtain⟨j,hj⟩:=List.getElem?_of_mem hc;have lz:=(List.getElem?_eq_some_iff.1 hj).1;simp[qvm]at lz;rw[List.getElem?_take_of_lt omQ,Ru zs omQ]at hj;grind
def BX (zs:List Int) (most:Int) (i:Nat):VM:={ zN zs most with K:=(kW zs).take i }
theorem jQa (zs:List Int) (most:Int) (i:Nat):dP (BX zs most i):=by
 have hb:=Fv (zs.length:Int);refine⟨hb.1,hb.2,qYD (by show(max 0 (min most 96)).toNat≤96;omega),?_,?_,by simp[BX,zN]⟩
 ·intro c hc;obtain⟨j,hj⟩:=List.getElem?_of_mem (List.mem_of_mem_take hc);have lz:=(List.getElem?_eq_some_iff.1 hj).1;rw[qvm]at lz;rw[Ru zs omQ]at hj;cases hj;show 1≤((j+1:Nat):Int)∧((j+1:Nat):Int)<((eL zs.length:Nat):Int);omega
 ·refine List.Nodup.sublist ((List.take_sublist i _).map _) ?_;unfold kW;rw[List.map_map];refine List.Pairwise.map _ ?_ (List.nodup_range);grind
theorem qjt (zs:List Int) (most:Int):dP (zN zs most):=by have:=jQa zs most (kW zs).length;unfold BX at this;rw[List.take_length]at this;trivial
end
section
abbrev qa:Type:=Int×Int×Int×Int×Int
def xW (x:qa):List AV:=[.int .i64 x.1,.int .i64 x.2.1,.int .i64 x.2.2.1,.int .i64 x.2.2.2.1,.int .u64 x.2.2.2.2]
theorem qZF (l:List qa):jY (l.flatMap xW)=true:=by unfold jY;rw[List.all_eq_true];intro v hv;obtain⟨c,_,hc⟩:=List.mem_flatMap.1 hv;simp[xW]at hc;rcases hc with rfl |rfl |rfl |rfl |rfl<;>rfl
def zD (op:Int):(Int×Int)×(Int×Int)×(Int×Int) :=
 if op=1∨op=11∨op=21 then((0,7),(0,0),(0,0))
 else if op=2∨op=10 then((0,7),(0,7),(0,0))
 else if op=3∨op=4∨op=5∨op=6∨op=7 then((0,7),(0,7),(0,7))
 else if op=8∨op=9 then((0,7),(0,7),(0,15))
 else if op=12 then((0,0),(0,0),(0,40))
 else if op=13 then((0,7),(0,0),(0,40))
 else if op=23 then((1,12),(0,7),(0,6))
 else((0,0),(0,0),(0,0))
def Qb (f:Int×Int) (n:Int):Bool:=decide (f.1≤n∧n≤f.2)
def Xg (x:qa):Bool:=decide (1≤x.1∧x.1≤23)&&Qb (zD x.1).1 x.2.1&&Qb (zD x.1).2.1 x.2.2.1&&Qb (zD x.1).2.2 x.2.2.2.1&&decide (x.2.2.2.2=0∨x.1=1)
def xo (op:Int):Bool:=decide (op=14∨op=17)
def zU (op:Int):Int:=if op=15 then 14 else if op=18 then 17 else if op=19 then 18 else 0
def jc (st:List Int):Int:=st.getLast?.getD (-1)
def qf (l:List qa) (i:Int):qa:=(l[i.toNat]?).getD (0,0,0,0,0)
def dG (l:List qa) (st:List Int):Int:=if st=[]then 0 else(qf l (jc st)).1
def xv (l:List qa) (st:List Int) (x:qa):Int :=
 if Xg x=false then 8
 else if 0<zU x.1∧dG l st≠zU x.1 then 12
 else if x.1=16∧dG l st≠14 then 12
 else if xo x.1=true∧5≤st.length then 9
 else 0
def jU (st:List Int) (i op:Int):List Int :=
 if xo op=true∨op=18 then(if 0<zU op then st.dropLast else st)++[i]else(if 0<zU op then st.dropLast else st)
def l9 (l:List qa):List qa→Nat→List Int→(Int×Int) ⊕ List Int
 |[],_,st=>.inr st
 |x::r,i,st=>if xv l st x=0 then l9 l r (i+1) (jU st i x.1)else .inl (i,xv l st x)
def gi:List qa→Nat→List Int→List Int
 |[],_,_=>[]
 |x::r,i,st=>jc st::gi r (i+1) (jU st i x.1)
def qC (a:List Int) (i:Int):Int:=(a[i.toNat]?).getD 0
def J2 (l:List qa) (a:List Int) (i:Nat) (x:qa):Prop :=
 (x.1=12∨x.1=13)∧((l.length:Int)<x.2.2.2.1∨(x.2.2.2.1=l.length∧qC a i≠ -1)∨(x.2.2.2.1<l.length∧qC a x.2.2.2.1≠qC a i))
instance {l:List qa} {a:List Int} {i:Nat} {x:qa}:Decidable (J2 l a i x):=by unfold J2;infer_instance
def Xr (l:List qa) (a:List Int):List qa→Nat→Int×Int
 |[],_=>(0,0)
 |x::r,i=>if J2 l a i x then((i:Int),2)else Xr l a r (i+1)
def zi (l:List qa):Int×Int :=
 if l.length=0∨40<l.length then(0,4)
 else match l9 l l 0 []with
  | .inl r=>r
  | .inr st=>if st=[]then Xr l (gi l 0 []) l 0 else(jc st,12)
def cB (i:Nat) (st:List Int):Prop:=∀y∈st,0≤y∧y<(i:Int)
theorem cB.nil {i:Nat}:cB i []:=λ_ h=>by grind
theorem cB.dropLast {i:Nat} {st:List Int} (h:cB i st):cB i st.dropLast:=λy hy=>h y ((List.dropLast_sublist st).subset hy)
theorem cB.behind {i:Nat} {st:List Int} {op:Int} (h:cB i st):cB (i+1) (jU st i op):=by
 have h1:∀s,cB i s→cB (i+1) s:=λs hs y hy=>by have:=hs y hy;omega
 have h2:∀s,cB i s→cB (i+1) (s++[(i:Int)]):=by
  intro s hs y hy;rcases List.mem_append.1 hy with hy |hy
  ·exact h1 s hs y hy
  grind
 unfold jU
 repeat' split
 ·exact h2 _ h.dropLast
 ·grind
 ·exact h1 _ h.dropLast
 grind
theorem cB.eu {i:Nat} {st:List Int} (h:cB i st) (hn:st≠[]):0≤jc st∧jc st<(i:Int):=by refine h _ ?_;grind[jc,List.getLast?_eq_some_getLast,List.getLast_mem]
theorem V2 (st:List Int) (i op:Int):(jU st i op).length≤st.length+1:=by
 grind[jU]
theorem MB:jc []= -1:=rfl
theorem yN {l:List qa} {st:List Int} {x:qa} (h:xv l st x=0):Xg x=true∧(0<zU x.1∨x.1=16→st≠[])∧(xo x.1=true→st.length<5):=by
 unfold xv at h
 split at h
 ·grind
 ·rename_i h1
  split at h
  ·grind
  ·rename_i h2
   split at h
   ·grind
   ·rename_i h3
    split at h
    ·grind
    ·rename_i h4
     refine⟨by grind,?_,λhb=>by
      grind⟩
     rintro ho rfl;have h0:dG l []=0:=rfl;grind
theorem Kg {l r:List qa} {x:qa} {i:Nat} {st:List Int}:l9 l (x::r) i st=if xv l st x=0 then l9 l r (i+1) (jU st i x.1)else .inl (i,xv l st x):=rfl
theorem Vf:∀{r:List qa} {i:Nat} {st:List Int},(gi r i st).length=r.length:=by
 intro r
 induction r with
 |nil=>intro i st;rfl
 |cons x r ih=>grind[gi]
theorem qkd:∀{r:List qa} {i j:Nat} {st:List Int},j<r.length→∃s,(gi r i st)[j]? =some (jc s)∧(∀{l:List qa} {st':List Int},l9 l r i st=.inr st'→cB i st→cB (i+j) s∧∀x,r[j]? =some x→xv l s x=0):=by
 intro r
 induction r with
 |nil=>simp
 |cons x r ih=>
  intro i j st h;cases j with
  |zero=>
   refine⟨st,rfl,λ{l st'} hg hs=>⟨hs,?_⟩⟩;grind[Kg]
  |succ j=>
   obtain⟨s,h1,h2⟩:=ih (j:=j) (by grind);refine⟨s,h1,λ{l st'} hg hs=>?_⟩;rw[Kg]at hg
   split at hg
   ·have:=h2 hg hs.behind;grind
   grind
end
section
variable {g h:AH} {L R:List SP}
theorem JO {D:Nat→Prop} {sz n:Nat} {v:AV} {xs:List AV} (S:Sl D h sz n v xs):One v:=by cases S<;>exact⟨rfl,rfl⟩
theorem gY {v:AV} (o:One v):jY [v]=true:=by simp[jY,o.2]
theorem xy {g' ha:AH} {b off n nx:Nat} {xs ys l:List AV} {L2 R2:List SP} {K0:Go.Ae.R} {Q:AV→AH→Prop} (H:HS g h L) (s:bi L (qw b xs) R) (hx:(xs.drop off).take n=l) (H2:HS g' ha L2) (s2:bi L2 (qw b ys) R2) (rf:(ys.drop off).take n=l) (hl:l.length=n) (h0:0<n) (aw:b<nx)
  (w:wp K0 Q):wp (Kh (.ptr b off) (some n) (.agg l) h ha nx K0) Q:=by
 obtain⟨e,A⟩:=H.obj s;obtain⟨e2,A2⟩:=H2.obj s2;exact qy4 hl h0 (λi hi=>by rw[A.at,← hx,List.getElem?_take_of_lt hi,List.getElem?_drop]) (λi hi=>by rw[A2.at,← rf,List.getElem?_take_of_lt hi,List.getElem?_drop]) aw w
theorem qXl {u x:Bool} {r:AV} {K:AV→Go.Ae.R} {Q:AV→AH→Prop} (hr:u=true→r=.bool x) (w:wp (K (.bool (u&&x))) Q):wp (gt (.bool u) r (.bool false) K) Q:=by
 cases u
 ·exact w
 ·rw[hr rfl];exact w
end
section
variable {g h:AH} {L R:List SP}
theorem jXC {s:List UInt8} {K:AV→Go.Ae.R} {Q:AV→AH→Prop} {t:Bool} (ht:Aa .neq s []=some (.bool t)) (w:wp (K (.bool t)) Q):wp (Nb .neq (.str s) (.str []) K) Q:=by show wp (ob (Aa .neq s []) K) Q;rw[ht];exact w
theorem K3 {n:Nat} (hn:1≤n) {x:Int}:aE n 147 [.int .i64 x] h λv h'=>v=.int .i64 (zU x)∧h'=h:=by
 refine aF rfl omQ λk hk=>?_;unfold S147;try simp only[iZ]
 repeat' (first |refine qX ?_ |refine qJ ?_ |(refine qd ?_;try dsimp only) |(refine jC ?_;try dsimp only) |(refine qb ?_;try dsimp only) |(refine qo ?_;try dsimp only) |(refine xJ ?_;try dsimp only) |refine qE ?_ |refine qI ?_ |(with_reducible refine qY ?_;try dsimp only) |with_reducible refine qx ?_ |refine jd ?_ |refine jo ?_ |refine qi omQ ?_ |refine zu omQ ?_ |refine yT omQ ?_ |refine wK omQ ?_ |refine zt ?_ |refine xg ?_ |refine yG (λhc=>?_) (λhc=>?_) |refine Qx (λhc=>?_) (λhc=>?_) |refine Qm (λhc=>?_) (λhc=>?_) |refine vK (λhc=>?_) (λhc=>?_) |refine wG (λhc=>?_) (λhc=>?_) |refine gI (λhc=>?_) (λhc=>?_) |refine kG (λhc=>?_) (λhc=>?_))
 all_goals refine qW ⟨?_,rfl⟩
 all_goals grind[zU]
theorem Vt {n:Nat} (hn:1≤n) {x:Int}:aE n 175 [.int .i64 x] h λv h'=>v=.bool (xo x)∧h'=h:=by
 refine aF rfl omQ λk hk=>?_;unfold S175;try simp only[iZ]
 unfold xo;by_cases h1:x=14
 ·refine qk omQ<|qY<|jC<|qE ?_
  exact qW ⟨by grind,rfl⟩
 ·refine qj omQ<|qY<|qo ?_;(try dsimp only)
  refine YO (qI ?_);exact qW ⟨by grind,rfl⟩
theorem qw2 {n:Nat} (hn:1≤n) {x:Int}:aE n 176 [.int .i64 x] h λv h'=>v=.bool (decide (x=12∨x=13))∧h'=h:=by
 refine aF rfl omQ λk hk=>?_;unfold S176;try simp only[iZ]
 by_cases h1:x=12
 ·refine qk omQ<|qY<|jC<|qE ?_
  exact qW ⟨by grind,rfl⟩
 ·refine qj omQ<|qY<|qo ?_;(try dsimp only)
  refine YO (qI ?_);exact qW ⟨by grind,rfl⟩
theorem Gs {D:Nat→Prop} {n:Nat} (hn:1≤n) {st:List Int} {v:AV} (S:Sl D h 1 st.length v (st.map (.int .i64))) (hl:st.length<1000) :
  aE n 144 [v] h λr h'=>r=.int .i64 (jc st)∧h'=h:=by
 refine aF rfl omQ λk hk=>?_;unfold S144;try simp only[iZ]
 refine vQ S ?_;by_cases h0:st.length=0
 ·obtain rfl:=iA h0;refine qk omQ<|qX<|qW ⟨rfl,rfl⟩
 ·refine qj omQ<|qJ (vQ S ?_);refine zu omQ ?_;rw[show(st.length:Int)-((1:Nat):Int)=((st.length-1:Nat):Int) by omega];have cg:st≠[]:=by grind
  refine zj S ?_ (qW ⟨rfl,rfl⟩);unfold jc;grind
theorem V4 {n:Nat} (hn:1≤n) {f:Int×Int} {x:Int} (H:HS g h R):aE n 197 [.agg [.int .i64 f.1,.int .i64 f.2],.int .i64 x] h λv h'=>v=.bool (Qb f x)∧HS g h' R:=by
 refine bj rfl omQ λk hk=>?_;unfold S197;try simp only
 refine qP H rfl λb h1 H1=>?_;unfold Qb;by_cases c1:f.1≤x
 ·refine qQ (qZ ‹_› .here rfl ?_);refine z7 omQ<|qY<|qd<|qQ (qZ ‹_› .here rfl ?_)
  refine ZT (qE ?_);exact qW ⟨by grind,H1.drop⟩
 ·refine qQ (qZ ‹_› .here rfl ?_);refine zn omQ<|qY<|qb<|qI ?_
  exact qW ⟨by grind,H1.drop⟩
def gc (f:Int×Int):List AV:=[.int .i64 f.1,.int .i64 f.2]
theorem qKc {n:Nat} (hn:1≤n) {x:Int} (H:HS g h R):aE n 195 [.int .i64 x] h λv h'=>v=.bV [.agg (gc (zD x).1),.agg (gc (zD x).2.1),.agg (gc (zD x).2.2)]∧HS g h' R:=by
 refine aF rfl omQ λk hk=>?_;unfold S195;try simp only[iZ]
 refine qP H rfl λb0 h1 H1=>?_;refine qP H1 rfl λb2 h2 H2=>?_;refine qP H2 rfl λb4 h3 H3=>?_;refine qR rfl<|qP H3 rfl λb7 h4 H4=>?_;refine qm H4 .here rfl aS rfl λh5 H5=>?_;refine zb [] (λs h'=>s=(.ptr b4 0,.ptr b2 0,.ptr b0 0,())∧HS g h' (qw b0 (gc (zD x).1)::qw b2 (gc (zD x).2.1)::qw b4 (gc (zD x).2.2)::R)) ?_ ?_
 ·intro j hj;by_cases ha:x=1∨x=11∨x=21
  ·have e:zD x=((0,7),(0,0),(0,0)):=by simp_all[zD]
   rw[e]at hj;rcases ha with rfl |rfl |rfl
   all_goals (first |(refine qY<|qj omQ<|qJ<|qj omQ<|qJ<|qk omQ<|qX ?_) |(refine qY<|qj omQ<|qJ<|qk omQ<|qX<|qX ?_) |(refine qY<|qk omQ<|qX<|qX ?_))
   all_goals refine qF H5 .here rfl omQ rfl ?_
   all_goals refine qm H5 e_3 rfl (by simp) rfl λh6 H6=>?_
   all_goals exact hj _ _ ⟨rfl,H6.pk [0,2,1] 1⟩
  by_cases hb:x=2∨x=10
  ·have e:zD x=((0,7),(0,7),(0,0)):=by simp_all[zD]
   rw[e]at hj;rcases hb with rfl |rfl
   all_goals (first |(refine qY<|qj omQ<|qJ<|qj omQ<|qJ<|qj omQ<|qJ<|qY<|qj omQ<|qJ<|qk omQ<|qX<|qY ?_;(try dsimp only)) |(refine qY<|qj omQ<|qJ<|qj omQ<|qJ<|qj omQ<|qJ<|qY<|qk omQ<|qX<|qX<|qY ?_;(try dsimp only)))
   all_goals refine qF H5 .here rfl omQ rfl ?_
   all_goals refine qF H5 .here rfl omQ rfl ?_
   all_goals refine qm H5 e_3 rfl (by simp) rfl λh6 H6=>?_
   all_goals refine qm H6 e_3 rfl (by simp) rfl λh7 H7=>?_
   all_goals refine xy H5 .here rfl H6 e_1 rfl rfl omQ (HS.lt H5 .here) ?_
   all_goals exact hj _ _ ⟨rfl,H7.pk [1,0,1] 1⟩
  by_cases hc:x=3∨x=4∨x=5∨x=6∨x=7
  ·have e:zD x=((0,7),(0,7),(0,7)):=by simp_all[zD]
   rw[e]at hj;rcases hc with rfl |rfl |rfl |rfl |rfl
   all_goals (first |(refine qY<|qj omQ<|qJ<|qj omQ<|qJ<|qj omQ<|qJ<|qY<|qj omQ<|qJ<|qj omQ<|qJ<|qY<|qj omQ<|qJ<|qj omQ<|qJ<|qj omQ<|qJ<|qj omQ<|qJ<|qk omQ<|qX<|qY ?_;(try dsimp only)) |(refine qY<|qj omQ<|qJ<|qj omQ<|qJ<|qj omQ<|qJ<|qY<|qj omQ<|qJ<|qj omQ<|qJ<|qY<|qj omQ<|qJ<|qj omQ<|qJ<|qj omQ<|qJ<|qk omQ<|qX<|qX<|qY ?_;(try dsimp only)) |(refine qY<|qj omQ<|qJ<|qj omQ<|qJ<|qj omQ<|qJ<|qY<|qj omQ<|qJ<|qj omQ<|qJ<|qY<|qj omQ<|qJ<|qj omQ<|qJ<|qk omQ<|qX<|qX<|qY ?_;(try dsimp only)) |(refine qY<|qj omQ<|qJ<|qj omQ<|qJ<|qj omQ<|qJ<|qY<|qj omQ<|qJ<|qj omQ<|qJ<|qY<|qj omQ<|qJ<|qk omQ<|qX<|qX<|qY ?_;(try dsimp only)) |(refine qY<|qj omQ<|qJ<|qj omQ<|qJ<|qj omQ<|qJ<|qY<|qj omQ<|qJ<|qj omQ<|qJ<|qY<|qk omQ<|qX<|qX<|qY ?_;(try dsimp only)))
   all_goals refine qF H5 .here rfl omQ rfl ?_
   all_goals refine qF H5 .here rfl omQ rfl ?_
   all_goals refine qF H5 .here rfl omQ rfl ?_
   all_goals refine qm H5 e_3 rfl (by simp) rfl λh6 H6=>?_
   all_goals refine qm H6 e_3 rfl (by simp) rfl λh7 H7=>?_
   all_goals refine qm H7 e_3 rfl (by simp) rfl λh8 H8=>?_
   all_goals refine xy H6 e_1 rfl H7 e_2 rfl rfl omQ (HS.lt H5 .here) ?_
   all_goals refine xy H5 .here rfl H6 e_1 rfl rfl omQ (HS.lt H5 .here) ?_
   all_goals refine xy H5 .here rfl H6 e_1 rfl rfl omQ (HS.lt H5 .here) ?_
   all_goals exact hj _ _ ⟨rfl,H8.pk [2,1,0] 1⟩
  by_cases hd:x=8∨x=9
  ·have e:zD x=((0,7),(0,7),(0,15)):=by simp_all[zD]
   rw[e]at hj;rcases hd with rfl |rfl
   all_goals (first |(refine qY<|qj omQ<|qJ<|qj omQ<|qJ<|qj omQ<|qJ<|qY<|qj omQ<|qJ<|qj omQ<|qJ<|qY<|qj omQ<|qJ<|qj omQ<|qJ<|qj omQ<|qJ<|qj omQ<|qJ<|qj omQ<|qJ<|qY<|qj omQ<|qJ<|qk omQ<|qX<|qY ?_;(try dsimp only)) |(refine qY<|qj omQ<|qJ<|qj omQ<|qJ<|qj omQ<|qJ<|qY<|qj omQ<|qJ<|qj omQ<|qJ<|qY<|qj omQ<|qJ<|qj omQ<|qJ<|qj omQ<|qJ<|qj omQ<|qJ<|qj omQ<|qJ<|qY<|qk omQ<|qX<|qX<|qY ?_;(try dsimp only)))
   all_goals refine qF H5 .here rfl omQ rfl ?_
   all_goals refine qF H5 .here rfl omQ rfl ?_
   all_goals refine qR rfl ?_
   all_goals refine qm H5 e_3 rfl (by simp) rfl λh6 H6=>?_
   all_goals refine qm H6 e_3 rfl (by simp) rfl λh7 H7=>?_
   all_goals refine qm H7 e_3 rfl (by simp) rfl λh8 H8=>?_
   all_goals refine xy H5 .here rfl H6 e_1 rfl rfl omQ (HS.lt H5 .here) ?_
   all_goals exact hj _ _ ⟨rfl,H8.pk [2,1,0] 1⟩
  by_cases he:x=12
  ·have e:zD x=((0,0),(0,0),(0,40)):=by simp_all[zD]
   rw[e]at hj;subst he;refine qY<|qj omQ<|qJ (qj omQ ?_);refine qJ (qj omQ ?_);refine qJ (qY ?_);refine qj omQ<|qJ (qj omQ ?_);refine qJ (qY ?_);refine qj omQ<|qJ (qj omQ ?_);refine qJ (qj omQ ?_);refine qJ (qj omQ ?_);refine qJ (qj omQ ?_);refine qJ (qY ?_);refine qj omQ<|qJ (qj omQ ?_);refine qJ (qk omQ ?_);refine qX (qR rfl ?_)
   refine qm H5 e_1 rfl (by simp) rfl λh6 H6=>?_;exact hj _ _ ⟨rfl,H6.pk [3,2,0] 1⟩
  by_cases hf:x=13
  ·have e:zD x=((0,7),(0,0),(0,40)):=by simp_all[zD]
   rw[e]at hj;subst hf;refine qY<|qj omQ<|qJ (qj omQ ?_);refine qJ (qj omQ ?_);refine qJ (qY ?_);refine qj omQ<|qJ (qj omQ ?_);refine qJ (qY ?_);refine qj omQ<|qJ (qj omQ ?_);refine qJ (qj omQ ?_);refine qJ (qj omQ ?_);refine qJ (qj omQ ?_);refine qJ (qY ?_);refine qj omQ<|qJ (qj omQ ?_);refine qJ (qj omQ ?_);refine qJ (qk omQ ?_);refine qX<|qF H5 .here rfl omQ rfl<|qR rfl<|qm H5 e_3 rfl (by simp) rfl λh6 H6=>?_;refine qm H6 e_2 rfl (by simp) rfl λh7 H7=>?_;exact hj _ _ ⟨rfl,H7.pk [1,2,0] 1⟩
  by_cases hg:x=23
  ·have e:zD x=((1,12),(0,7),(0,6)):=by simp_all[zD]
   rw[e]at hj;subst hg;refine qY<|qj omQ<|qJ (qj omQ ?_);refine qJ (qj omQ ?_);refine qJ (qY ?_);refine qj omQ<|qJ (qj omQ ?_);refine qJ (qY ?_);refine qj omQ<|qJ (qj omQ ?_);refine qJ (qj omQ ?_);refine qJ (qj omQ ?_);refine qJ (qj omQ ?_);refine qJ (qY ?_);refine qj omQ<|qJ (qj omQ ?_);refine qJ (qj omQ ?_);refine qJ (qj omQ ?_);refine qJ (qk omQ ?_);refine qX (qR rfl ?_);refine qR rfl<|qR rfl<|qm H5 e_3 rfl (by simp) rfl λh6 H6=>?_;refine qm H6 e_3 rfl (by simp) rfl λh7 H7=>?_;refine qm H7 e_3 rfl (by simp) rfl λh8 H8=>?_;exact hj _ _ ⟨rfl,H8.pk [2,1,0] 1⟩
  ·have e:zD x=((0,0),(0,0),(0,0)):=by simp_all[zD]
   rw[e]at hj ⊢;refine qY<|qj omQ<|qJ (qj omQ ?_);refine qJ (qj omQ ?_);refine qJ (qY ?_);refine qj omQ<|qJ (qj omQ ?_);refine qJ (qY ?_);refine qj omQ<|qJ (qj omQ ?_);refine qJ (qj omQ ?_);refine qJ (qj omQ ?_);refine qJ (qj omQ ?_);refine qJ (qY ?_);refine qj omQ<|qJ (qj omQ ?_);refine qJ (qj omQ ?_);refine qJ (qj omQ ?_);refine qJ (qj omQ ?_);refine qJ ?_
   exact hj _ _ ⟨rfl,H5.pk [3,2,1] 1⟩
 ·rintro s h6 ⟨rfl,H6⟩;generalize zD x=F at*;refine qY (qF H6 .here rfl omQ rfl ?_);refine qF H6 e_1 rfl omQ rfl<|qF H6 e_2 rfl omQ rfl<|qm H6 .here rfl (by simp[gc]) rfl λh7 H7=>?_;refine qm H7 e_1 rfl (by simp[gc]) rfl λh8 H8=>?_;refine qm H8 e_2 rfl (by simp[gc]) rfl λh9 H9=>?_;refine xy H7 e_2 rfl H8 e_2 rfl rfl omQ (HS.lt H6 e_2)<|xy H6 e_2 rfl H7 e_2 rfl rfl omQ (HS.lt H6 e_2)<|xy H6 e_1 rfl H7 e_1 rfl rfl omQ (HS.lt H6 e_1)<|qx (qF H9 e_2 rfl omQ rfl ?_);refine qF H9 e_1 rfl omQ rfl<|qF H9 .here rfl omQ rfl<|qW ⟨rfl,H9.drop.drop.drop⟩
def sy:List (List UInt8):=[[],[115,101,116],[109,111,118,101],[97,100,100],[115,117,98],[109,117,108],[108,101,115,115],[101,113,117,97,108],[108,111,97,100],[115,116,111,114,101],[97,108,108,111,99],[102,114,101,101],[106,117,109,112],[122,101,114,111],[111,112,101,110],[99,108,111,115,101],[117,110,100,111],[101,105,116,104,101,114],[111,114],[100,111,110,101],[114,101,116,114,121],[101,109,105,116],[102,97,105,108],[99,97,108,108]]
theorem jQN {p:Nat} (hp:p<24):∃s,sy[p]? =some s∧Aa .neq s []=some (.bool (decide (1≤(p:Int)∧(p:Int)≤23))):=by
 match p,hp with
 | 0,_=>exact⟨_,rfl,rfl⟩
 | 1,_=>exact⟨_,rfl,rfl⟩
 | 2,_=>exact⟨_,rfl,rfl⟩
 | 3,_=>exact⟨_,rfl,rfl⟩
 | 4,_=>exact⟨_,rfl,rfl⟩
 | 5,_=>exact⟨_,rfl,rfl⟩
 | 6,_=>exact⟨_,rfl,rfl⟩
 | 7,_=>exact⟨_,rfl,rfl⟩
 | 8,_=>exact⟨_,rfl,rfl⟩
 | 9,_=>exact⟨_,rfl,rfl⟩
 | 10,_=>exact⟨_,rfl,rfl⟩
 | 11,_=>exact⟨_,rfl,rfl⟩
 | 12,_=>exact⟨_,rfl,rfl⟩
 | 13,_=>exact⟨_,rfl,rfl⟩
 | 14,_=>exact⟨_,rfl,rfl⟩
 | 15,_=>exact⟨_,rfl,rfl⟩
 | 16,_=>exact⟨_,rfl,rfl⟩
 | 17,_=>exact⟨_,rfl,rfl⟩
 | 18,_=>exact⟨_,rfl,rfl⟩
 | 19,_=>exact⟨_,rfl,rfl⟩
 | 20,_=>exact⟨_,rfl,rfl⟩
 | 21,_=>exact⟨_,rfl,rfl⟩
 | 22,_=>exact⟨_,rfl,rfl⟩
 | 23,_=>exact⟨_,rfl,rfl⟩
 |k+24,h=>grind
theorem qk2 {n:Nat} (hn:2≤n) {x:Int} (H:HS g h R):aE n 196 [.int .i64 x] h λv h'=>∃s,v=.str s∧Aa .neq s []=some (.bool (decide (1≤x∧x≤23)))∧HS g h' R:=by
 refine aF rfl omQ λk hk=>?_;unfold S196;try simp only
 refine qG (Q':=λv h'=>∃e,HS g h' (qB e 1 24 v (sy.map .str)::R)) ?_ ?_
 ·(refine qA rfl omQ λk hk=>?_;show wp (S245 (callT tab qz k) _) _;unfold S245;try simp only[iI,uU,iZ])
  exact qt H rfl rfl rfl rfl λv h1 H1=>qW ⟨_,H1⟩
 rintro v h1 ⟨e,H1⟩;refine qG (Q':=λw h'=>∃s,w=.str s∧Aa .neq s []=some (.bool (decide (1≤x∧x≤23)))∧h'=h1) ?_ ?_
 ·refine bj rfl omQ λk hk=>?_;unfold S244;try simp only[iZ]
  by_cases c0:x<0
  ·refine jt omQ<|qY<|jC<|qE (qX ?_)
   exact qW ⟨[],rfl,by rw[iV omQ];rfl,rfl⟩
  ·refine jP omQ<|qY<|qo<|jQ ‹_› .here ?_
   by_cases c1:x<24
   ·obtain⟨p,rfl⟩:∃p:Nat,x=(p:Int):=⟨x.toNat,by omega⟩;obtain⟨s,hs,ht⟩:=jQN (show p<24 by omega);refine zn omQ<|qI (qJ (zj (H1.sl .here) (by grind) (qW ⟨s,rfl,ht,rfl⟩)))
   ·refine z7 omQ<|qI (qX ?_);exact qW ⟨[],rfl,by rw[iV omQ];rfl,rfl⟩
 ·rintro _ h2 ⟨s,rfl,ht,rfl⟩;exact qW ⟨s,rfl,ht,H1.drop⟩
theorem qyN {n:Nat} (hn:3≤n) {x:qa} (H:HS g h R):aE n 173 [.agg (xW x)] h λv h'=>v=.bool (Xg x)∧HS g h' R:=by
 refine aF rfl omQ λk hk=>?_;unfold S173;try simp only[iZ]
 obtain⟨op,a,b,c,q⟩:=x;refine qP H rfl λb0 h1 H1=>?_;refine qQ (qZ ‹_› .here rfl ?_);refine qG (qKc omQ H1) ?_;rintro _ h2 ⟨rfl,H2⟩;have hM:Xg (op,a,b,c,q)=(decide (1≤op∧op≤23)&&Qb (zD op).1 a&&Qb (zD op).2.1 b&&Qb (zD op).2.2 c&&decide (q=0∨op=1)):=rfl;rw[hM];generalize zD op=F at*;obtain⟨f1,f2,f3⟩:=F;refine qD rfl<|qD rfl<|qD rfl<|qP H2 rfl λb1 h3 H3=>?_;refine qP H3 rfl λb2 h4 H4=>?_;refine qP H4 rfl λb3 h5 H5=>?_;refine qm H5 e_2 rfl aS rfl λh6 H6=>?_;refine qm H6 e_2 rfl aS rfl λh7 H7=>?_;refine qm H7 e_2 rfl aS rfl λh8 H8=>?_;refine qQ (qZ ‹_› e_3 rfl ?_);refine qG (qk2 omQ H8) ?_;rintro _ h9 ⟨s,rfl,ht,H⟩;refine jXC ht ?_;by_cases c1:1≤op∧op≤23
 rotate_left
 ·rw[iV c1];refine qY<|qb<|qI (qY ?_);refine qb<|qI (qY ?_);refine qb<|qI (qY ?_);refine qb<|qY<|xJ<|qY<|qb<|qI ?_
  exact qW ⟨rfl,H.drop.drop.drop.drop⟩
 rw[iG c1];refine qY<|qd ?_;(try dsimp only)
 refine qF H e_2 rfl omQ rfl<|qQ (qZ ‹_› e_3 rfl ?_);refine qG (V4 omQ H) ?_;rintro _ fk ⟨rfl,iR⟩;cases Wc:Qb f1 a
 ·refine qE (qY ?_);refine qb<|qI (qY ?_);refine qb<|qI (qY ?_);refine qb<|qY<|xJ<|qY<|qb<|qI ?_
  exact qW ⟨rfl,iR.drop.drop.drop.drop⟩
 refine qE (qY ?_);refine qd ?_;(try dsimp only)
 refine qF iR e_1 rfl omQ rfl<|qQ (qZ ‹_› e_3 rfl ?_);refine qG (V4 omQ iR) ?_;rintro _ dy ⟨rfl,oY⟩;cases Wd:Qb f2 b
 ·refine qE (qY ?_);refine qb<|qI (qY ?_);refine qb<|qY<|xJ<|qY<|qb<|qI ?_
  exact qW ⟨rfl,oY.drop.drop.drop.drop⟩
 refine qE (qY ?_);refine qd ?_;(try dsimp only)
 refine qF oY .here rfl omQ rfl<|qQ (qZ ‹_› e_3 rfl ?_);refine qG (V4 omQ oY) ?_;rintro _ nP ⟨rfl,cq⟩;cases We:Qb f3 c
 ·refine qE (qY ?_);refine qb<|qY<|xJ<|qY<|qb<|qI ?_
  exact qW ⟨rfl,cq.drop.drop.drop.drop⟩
 by_cases c2:q=0
 ·refine qE (qY ?_);refine qd<|qQ (qZ ‹_› e_3 rfl ?_);refine qk omQ<|qY<|jC<|qY<|qd<|qE (qE ?_)
  exact qW ⟨by grind,cq.drop.drop.drop.drop⟩
 by_cases c3:op=1
 ·refine qE (qY ?_);refine qd<|qQ (qZ ‹_› e_3 rfl ?_);refine qj omQ<|qY<|qo<|qQ (qZ ‹_› e_3 rfl ?_);refine qk omQ<|qY<|qd<|qI (qE ?_)
  exact qW ⟨by grind,cq.drop.drop.drop.drop⟩
 ·refine qE (qY ?_);refine qd<|qQ (qZ ‹_› e_3 rfl ?_);refine qj omQ<|qY<|qo<|qQ (qZ ‹_› e_3 rfl ?_);refine qj omQ<|qY<|qd<|qI (qE ?_)
  exact qW ⟨by grind,cq.drop.drop.drop.drop⟩
end
section
variable {g h:AH} {L R:List SP}
theorem jJD {l:List qa} {i:Nat} (hi:i<l.length):qf l (i:Int)=l[i]:=by simp_all[qf]
theorem qgh {n:Nat} (hn:2≤n) {l:List qa} {st:List Int} {sv tv:AV} (H:HS g h R) (S:Rd g R 5 l.length sv (l.flatMap xW)) (T:Rd g R 1 st.length tv (st.map (.int .i64))) (hs:cB l.length st) (hl:st.length<1000) :
  aE n 174 [tv,.agg [sv]] h λv h'=>v=.int .i64 (dG l st)∧HS g h' R:=by
 refine bj rfl omQ λk hk=>?_;unfold S174;try simp only[iZ]
 refine qP H (gY (JO (S.sl H))) λb h1 H1=>?_;refine vQ (T.sl H1.drop) ?_;unfold dG;by_cases h0:st=[]
 ·subst h0;rw[iJ rfl]
  skip
  exact qW ⟨rfl,H1.drop⟩
 ·have mV:st.length≠0:=λh=>h0 (iA h);rw[iQ h0];refine qj omQ<|qJ (qY ?_);refine qQ (qZ ‹_› .here rfl ?_)
  refine qG (Gs omQ (T.sl H1.drop) hl) ?_;rintro _ h1 ⟨rfl,rfl⟩;have hi:=hs.eu h0;generalize jc st=p at*;obtain⟨p,rfl⟩:∃q:Nat,p=(q:Int):=⟨p.toNat,by omega⟩;have hp:p<l.length:=by omega
  refine vF (S.sl H1.drop) omQ hp (by rw[YN xW (λ_=>rfl) _ _ _ omQ,iW hp];rfl)<|qh ‹_› .here rfl ‹_› .here rfl (HS.lt ‹_› .here)<|qW ⟨by rw[jJD hp],H1.drop⟩
theorem qY0 {n:Nat} (hn:4≤n) {l:List qa} {st:List Int} {sv tv:AV} {x:qa} (H:HS g h R) (S:Rd g R 5 l.length sv (l.flatMap xW)) (T:Rd g R 1 st.length tv (st.map (.int .i64))) (hs:cB l.length st) (hl:st.length<1000) :
  aE n 142 [.agg [sv],tv,.agg (xW x)] h λv h'=>v=.int .i64 (xv l st x)∧HS g h' R:=by
 refine cX rfl omQ λk hk=>?_;unfold S142;try simp only[iZ]
 refine qP H (gY (JO (S.sl H))) λb0 h1 H1=>?_;refine qP H1 rfl λb2 h2 H2=>?_;refine qF H2 .here rfl omQ rfl<|qG (qyN omQ H2) ?_;rintro _ h3 ⟨rfl,H3⟩;clear H H1 H2;obtain⟨op,a,b,c,q⟩:=x;have hW:xv l st (op,a,b,c,q)=if Xg (op,a,b,c,q)=false then 8 else if 0<zU op∧dG l st≠zU op then 12 else if op=16∧dG l st≠14 then 12 else if xo op=true∧5≤st.length then 9 else 0:=rfl
 rw[hW];have H3:HS g h3 (qw b2 [.int .i64 op,.int .i64 a,.int .i64 b,.int .i64 c,.int .u64 q]::qw b0 [sv]::R):=H3;cases Xg (op,a,b,c,q)
 ·refine jo (qX ?_);exact qW ⟨rfl,H3.drop.drop⟩
 rw[iQ aS]
 (first |with_reducible refine qX ?_ |with_reducible refine qJ ?_ |(with_reducible refine qd ?_;try dsimp only) |(refine jC ?_;try dsimp only) |(refine qb ?_;try dsimp only) |(refine qo ?_;try dsimp only) |(refine xJ ?_;try dsimp only) |refine qE ?_ |refine qI ?_ |(refine qY ?_;try dsimp only) |refine qx ?_ |refine jd ?_ |refine jo ?_ |refine qi omQ ?_ |refine zu omQ ?_ |refine yT omQ ?_ |refine wK omQ ?_ |refine zt ?_ |refine xg ?_)
 (first |refine qX ?_ |refine qJ ?_ |(refine qd ?_;try dsimp only) |(refine jC ?_;try dsimp only) |(refine qb ?_;try dsimp only) |(refine qo ?_;try dsimp only) |(refine xJ ?_;try dsimp only) |refine qE ?_ |refine qI ?_ |(refine qY ?_;try dsimp only) |refine qx ?_ |refine jd ?_ |refine jo ?_ |refine qi omQ ?_ |refine zu omQ ?_ |refine yT omQ ?_ |refine wK omQ ?_ |refine zt ?_ |refine xg ?_)
 refine UG (λs h'=>s=(.bool (decide (0<zU op∧dG l st≠zU op)),.ptr b2 0,.ptr b0 0,tv,())∧HS g h' (qw b2 [.int .i64 op,.int .i64 a,.int .i64 b,.int .i64 c,.int .u64 q]::qw b0 [sv]::R)) ?_ ?_
 ·intro j hj;refine qQ (qZ ‹_› .here rfl ?_);refine qG (K3 omQ) ?_;rintro _ h3 ⟨rfl,rfl⟩;by_cases h1:0<zU op
  ·refine vr omQ<|qd ?_;(try dsimp only)
   refine qF H3 e_1 rfl omQ rfl<|qG (qgh omQ H3 S.more.more T.more.more hs hl) ?_;rintro _ h4 ⟨rfl,H4⟩;refine qQ (qZ ‹_› .here rfl ?_);refine qG (K3 omQ) ?_;rintro _ h4 ⟨rfl,rfl⟩;refine Nz (qE (qh ‹_› .here rfl ‹_› .here rfl (HS.lt ‹_› .here) ?_));refine hj _ _ ⟨?_,H4⟩
   simp;omega
  ·refine vE omQ<|qb<|qI ?_
   refine hj _ _ ⟨?_,H3⟩;grind
 rintro s h4 ⟨rfl,H⟩;by_cases hA:0<zU op∧dG l st≠zU op
 ·rw[iG hA,iJ hA];refine qX<|qW ⟨rfl,H.drop.drop⟩
 rw[iV hA,iQ hA];refine qJ (qQ (qZ ‹_› .here rfl ?_));refine YO (UG (λs h'=>∃(r:AV) (u x:Bool),s=(r,.bool u,.ptr b2 0,tv,())∧(u=true→r=.bool x)∧((u&&x)=decide (op=16∧dG l st≠14))∧HS g h' (qw b2 [.int .i64 op,.int .i64 a,.int .i64 b,.int .i64 c,.int .u64 q]::qw b0 [sv]::R)) ?_ ?_)
 ·intro j hj;by_cases h1:op=16
  ·rw[iG (show op=((16:Nat):Int)from h1)];refine qd ?_;(try dsimp only)
   refine qF H e_1 rfl omQ rfl<|qG (qgh omQ H S.more.more T.more.more hs hl) ?_;rintro _ h4 ⟨rfl,H4⟩;refine Nz (hj _ _ ⟨_,true,decide (¬dG l st=14),rfl,λ_=>rfl,?_,H4⟩);grind
  ·rw[iV (show¬op=((16:Nat):Int)from h1)];refine qb ?_;(try dsimp only)
   refine hj _ _ ⟨_,false,false,rfl,(λh=>by grind),?_,H⟩;grind
 rintro s h4 ⟨r,u,y,rfl,hr,hu,H⟩;refine qXl hr ?_;rw[hu];by_cases hB:op=16∧dG l st≠14
 ·rw[iG hB,iJ hB];refine qX<|qW ⟨rfl,H.drop.drop⟩
 rw[iV hB,iQ hB];refine qJ (qQ (qZ ‹_› .here rfl ?_));refine qG (Vt omQ) ?_;rintro _ h4 ⟨rfl,rfl⟩;cases hb:xo op
 ·rw[iQ aS];refine qY<|qb<|qI (qJ ?_)
  exact qW ⟨rfl,H.drop.drop⟩
 ·refine qY<|qd ?_;(try dsimp only)
  refine vQ (T.sl H.drop.drop) ?_;by_cases h5:5≤st.length
  ·rw[iJ ⟨rfl,h5⟩];refine z7 omQ<|qE (qX ?_);exact qW ⟨rfl,H.drop.drop⟩
  ·rw[iQ (λh=>h5 h.2)];refine zn omQ<|qE (qJ ?_);exact qW ⟨rfl,H.drop.drop⟩
def sA (v:AV) (st:List Int):SP:=qB 3 1 st.length v (st.map (.int .i64))
theorem Mt {n:Nat} (hn:2≤n) {st:List Int} {tv:AV} {i op:Int} (H:HS g h (sA tv st::R)) (hs:0<zU op→st≠[]) (hl:st.length<1000) :
  aE n 143 [tv,.int .i64 i,.int .i64 op] h λv h'=>HS g h' (sA v (jU st i op)::R):=by
 refine cX rfl omQ λk hk=>?_;unfold S143;try simp only[iZ]
 refine zb [] (λs h'=>∃v,s=(.int .i64 op,.int .i64 i,v,())∧HS g h' (sA v (if 0<zU op then st.dropLast else st)::R)) ?_ ?_
 ·intro j hj;refine qG (K3 omQ) ?_;rintro _ h ⟨rfl,rfl⟩;by_cases h1:0<zU op
  ·have cg:=hs h1;have mV:st.length≠0:=λh=>cg (iA h);rw[iJ h1]at hj;refine vr h1 (qX ?_);refine vQ (H.sl .here)<|zu omQ ?_;rw[show(st.length:Int)-((1:Nat):Int)=((st.length-1:Nat):Int) by omega];refine Vg H omQ omQ λv H1=>?_;refine hj _ _ ⟨v,rfl,?_⟩;simp_all[sA,List.dropLast_eq_take,List.map_take,Nat.mul_one]
  ·rw[iQ h1]at hj;refine vE h1 (qJ ?_);exact hj _ _ ⟨tv,rfl,H⟩
 rintro s h1 ⟨v,rfl,H⟩;unfold jU;have nK:(if 0<zU op then st.dropLast else st).length<1000:=by
  grind
 generalize(if 0<zU op then st.dropLast else st)=st at*;refine qY ?_;(try dsimp only)
 refine qG (Vt omQ) ?_;rintro _ h1 ⟨rfl,rfl⟩;have push:∀{K:AV→AH→Go.Ae.R} {Q:AV→AH→Prop},(∀v' h',HS g h' (sA v' (st++[i])::R)→wp (K v' h') Q)→
   wp (vG h1 3 [.int .i64 ((0:Nat):Int)] 1 [(0,1,.int .i64 i)] λsi uv=>wY uv 3 1 v si K) Q:=by
  intro K Q w;refine qt H rfl rfl rfl rfl λv5 h5 H5=>?_;refine zw (H5.aM e_1) (H5.sl .here) omQ omQ rfl λv6 h6 H6=>w v6 h6 ?_;unfold sA;rw[List.map_append,List.length_append];exact H6.pk [0] 1
 cases hb:xo op
 ·by_cases Df:op=18
  ·rw[iJ (.inr Df)];refine qY<|qo<|qk omQ<|qI (qX ?_)
   exact push λv' h' H'=>qx (qW H')
  ·rw[iQ (by grind)];refine qY<|qo<|qj omQ<|qI (qJ (qx ?_))
   exact qW H
 ·rw[iJ (.inl rfl)];refine qY<|jC<|qE (qX ?_)
  exact push λv' h' H'=>qx (qW H')
theorem MC {l:List qa} {i:Nat} {st:List Int} (hi:i<l.length):l9 l (l.drop i) i st=if xv l st l[i]=0 then l9 l (l.drop (i+1)) (i+1) (jU st i l[i].1)else .inl ((i:Int),xv l st l[i]):=by rw[List.drop_eq_getElem_cons hi];rfl
theorem OF {l:List qa} {i:Nat} {st:List Int} (hi:i<l.length):gi (l.drop i) i st=jc st::gi (l.drop (i+1)) (i+1) (jU st i l[i].1):=by rw[List.drop_eq_getElem_cons hi];rfl
theorem Mk {l:List qa} {a:List Int} {i:Nat} (hi:i<l.length):Xr l a (l.drop i) i=if J2 l a i l[i]then((i:Int),2)else Xr l a (l.drop (i+1)) (i+1):=by rw[List.drop_eq_getElem_cons hi];rfl
theorem Gy {l:List qa} {i:Nat} (hi:i<l.length):((l.flatMap xW).drop (i*5)).take 5=xW l[i]:=gF (sz:=5) (λ_=>rfl) (iW hi)
theorem Ut {n:Nat} (hn:3≤n) {l:List qa} {st':List Int} {sv:AV} (H:HS g h R) (S:Rd g R 5 l.length sv (l.flatMap xW)) (hg:l9 l l 0 []=.inr st') (hl:l.length≤100) :
  aE n 146 [.agg [sv]] h λv h'=>HS g h' (qB 3 1 l.length v ((gi l 0 []).map (.int .i64))::R):=by
 refine aF (S:=S146) rfl omQ λk hk=>?_;unfold S146;try simp only[iZ]
 refine qP H (gY (JO (S.sl H))) λb0 h1 H1=>?_;refine qQ (qZ ‹_› .here rfl ?_);refine vQ (S.sl H1.drop)<|Xv (n:=l.length) H1 omQ λov h2 H2=>?_;refine qQ (qZ ‹_› e_1 rfl ?_);refine vQ (S.sl H2.drop.drop)<|zQ (λm s h'=>∃(i:Nat) (st A:List Int) (tv:AV),s=(.int .i64 (i:Int),.int .i64 (l.length:Int),sv,tv,ov,())∧i≤l.length∧m=l.length-i∧cB i st∧st.length≤i∧l9 l (l.drop i) i st=.inr st'∧A.length=i∧gi l 0 []=A++gi (l.drop i) i st∧
  HS g h' (qB 3 1 l.length ov ((A++List.replicate (l.length-i) 0).map (.int .i64))::sA tv st::R))
  ?_ (m:=l.length) (by grind) ⟨0,[],[],.ak,rfl,by omega,by rfl,cB.nil,by simp,hg,rfl,rfl,by
   rw[List.nil_append,List.map_replicate]
   exact(H2.ak).pk [1,0] 1⟩
 clear H H1 H2;rintro m ih s h3 bQ ⟨i,st,A,tv,rfl,hi,rfl,hs,nO,fI,hA,hR,H⟩;by_cases aw:i<l.length
 ·rw[MC aw]at fI;rw[OF aw]at hR;have iC:=Gy aw;generalize l[i]=x at*;by_cases hw:xv l st x=0
  rotate_left
  ·rw[iQ hw]at fI;cases fI
  rw[iJ hw]at fI;have ho:=yN hw;refine jt omQ<|qX (xV (S.sl H.drop.drop) aw omQ iC ?_);refine qP H rfl λb h4 H4=>?_;refine qm H4 .here rfl (by simp) rfl λh5 H5=>?_;have H5:HS g h5 (qw b (xW x)::qB 3 1 l.length ov ((A++List.replicate (l.length-i) 0).map (.int .i64))::sA tv st::R):=H5;unfold xW at H5;refine qG (Gs omQ (H5.sl e_2) omQ) ?_;rintro _ h5 ⟨rfl,rfl⟩;refine XL (H5.aM e_1) omQ ⟨rfl,rfl⟩ λh6 H6=>?_;have lO:((A++List.replicate (l.length-i) 0).map (AV.int .i64)).set i (.int .i64 (jc st))=((A++[jc st])++List.replicate (l.length-(i+1)) 0).map (.int .i64):=by
   rw[← List.map_set]
   congr 1
   rw[List.set_append_right _ _ omQ,hA,Nat.sub_self,show l.length-i=(l.length-(i+1))+1 by omega,List.replicate_succ];simp
  rw[lO]at H6;refine qQ (qZ ‹_› e_1 rfl ?_);refine qG (Mt omQ (H6.sub (L':=sA tv st::qw b [.int .i64 x.1,.int .i64 x.2.1,.int .i64 x.2.2.1,.int .i64 x.2.2.2.1,.int .u64 x.2.2.2.2]::qB 3 1 l.length ov (((A++[jc st])++List.replicate (l.length-(i+1)) 0).map (.int .i64))::R) (.cons e_2 (.cons e_1 (.cons .here .refl)))) (λh=>ho.2.1 (.inl h)) omQ) ?_;intro Rv h8 H8;refine qi omQ ?_;have Rw:=V2 st i x.1;exact bQ (l.length-(i+1)) _ _ omQ ⟨i+1,jU st i x.1,A++[jc st],Rv,rfl,by omega,rfl,hs.behind,by omega,fI,by grind,by grind,H8.pk [2,0] 1⟩
 ·obtain rfl:i=l.length:=by omega
  refine jP omQ<|qJ (qx (qW ?_));rw[hR];rw[Nat.sub_self,List.replicate_zero,List.append_nil]at H;rw[List.drop_length];show HS g h3 (qB _ 1 l.length ov ((A++[]).map _)::R);rw[List.append_nil];exact H.pk [0] 1
theorem qxb {x:qa} (h:Xg x=true) (hj:x.1=12∨x.1=13):0≤x.2.2.2.1∧x.2.2.2.1≤40:=by
 have e:(zD x.1).2.2=(0,40):=by
  rcases hj with e |e<;>rw[e]<;>rfl
 simp_all[Xg,Bool.and_eq_true,Qb,decide_eq_true_eq]
theorem qYE {n:Nat} (hn:2≤n) {l:List qa} {a:List Int} {sv av:AV} (H:HS g h R) (S:Rd g R 5 l.length sv (l.flatMap xW)) (T:Rd g R 1 a.length av (a.map (.int .i64))) (ha:a.length=l.length) (hm:∀x∈l,Xg x=true) (hl:l.length≤100) :
  aE n 145 [.agg [sv],av] h λv h'=>v=.bV [.int .i64 (Xr l a l 0).1,.int .i64 (Xr l a l 0).2]∧HS g h' R:=by
 refine bj rfl omQ λk hk=>?_;unfold S145;try simp only[iZ]
 refine qP H (gY (JO (S.sl H))) λb0 h1 H1=>?_;have IJ:=(S.sl H).ul;clear H;refine qQ (qZ ‹_› .here rfl ?_);refine vX ‹_›<|zQ (λm s h'=>∃i:Nat,s=(.int .i64 (i:Int),.int .i64 (l.length:Int),sv,.ptr b0 0,av,())∧i≤l.length∧m=l.length-i∧Xr l a l 0=Xr l a (l.drop i) i∧HS g h' (qw b0 [sv]::R))
  ?_ (m:=l.length) (by grind) ⟨0,rfl,by omega,by rfl,rfl,H1⟩
 clear H1;rintro m ih s h2 bQ ⟨i,rfl,hi,rfl,hJ,H⟩;by_cases aw:i<l.length
 rotate_left
 ·obtain rfl:i=l.length:=by omega
  rw[List.drop_length]at hJ;rw[hJ];refine jP omQ<|qJ (qx ?_);exact qW ⟨rfl,H.drop⟩
 rw[Mk aw]at hJ;have iC:=Gy aw;have hmx:=hm l[i] (List.getElem_mem aw);generalize l[i]=x at*;obtain⟨op,xa,xb,c,q⟩:=x;unfold xW at iC;refine jt omQ (qX ?_);refine zb [] (λs h'=>s=(.int .i64 (i:Int),.int .i64 (l.length:Int),sv,.ptr b0 0,av,())∧¬J2 l a i (op,xa,xb,c,q)∧HS g h' (qw b0 [sv]::R)) ?_ ?_
 rotate_left
 ·rintro s h3 ⟨rfl,bW,H3⟩;rw[iQ bW]at hJ;refine qi omQ<|bQ (l.length-(i+1)) _ _ omQ ⟨i+1,rfl,by omega,rfl,hJ,H3⟩
 intro j hj;clear bQ;refine xV (S.sl H.drop) aw omQ iC<|qP H rfl λb h4 H4=>?_;refine qm H4 .here rfl aS rfl λh5 H5=>?_;have H5:HS g h5 (qw b [.int .i64 op,.int .i64 xa,.int .i64 xb,.int .i64 c,.int .u64 q]::qw b0 [sv]::R):=H5;clear H H4;refine qQ (qZ ‹_› .here rfl ?_);refine qG (qw2 omQ) ?_;rintro _ h5 ⟨rfl,rfl⟩;by_cases lh:op=12∨op=13
 rotate_left
 ·rw[iV lh];refine jo (qX ?_);exact hj _ _ ⟨rfl,λh=>lh h.1,H5.drop⟩
 rw[iG lh];have hc:=qxb hmx lh;dsimp only at hc;obtain⟨p,rfl⟩:∃p:Nat,c=(p:Int):=⟨c.toNat,by omega⟩;have sB:∀k:Nat,k<l.length→(a.map (AV.int .i64))[k]? =some (.int .i64 (qC a (k:Int))):=by intro k hk;unfold qC;grind
 have Ta:Sl (λ_=>True) h5 1 a.length av (a.map (.int .i64)):=T.sl H5.drop.drop;by_cases c1:l.length<p
 ·rw[iJ ⟨lh,.inl (by grind)⟩]at hJ;rw[hJ];refine jd (qJ (qQ (qZ ‹_› .here rfl ?_)));refine qQ (qZ ‹_› e_1 rfl ?_);refine vX ‹_›<|vr omQ<|qY<|jC<|qY<|xJ<|qY<|jC<|qE (qY ?_);refine jC<|qY<|xJ<|qY<|jC<|qE (qX (qx ?_))
  exact qW ⟨rfl,H5.drop.drop⟩
 by_cases c2:p=l.length
 ·subst c2;refine jd (qJ (qQ (qZ ‹_› .here rfl ?_)));refine qQ (qZ ‹_› e_1 rfl ?_);refine vX ‹_›<|vE omQ<|qY<|qo<|qQ (qZ ‹_› .here rfl ?_);refine qQ (qZ ‹_› e_1 rfl ?_);refine vX ‹_›<|qk omQ<|qY<|qd ?_;(try dsimp only)
  refine zj Ta (sB i aw) ?_;by_cases c3:qC a i= -1
  ·refine jI (by grind)<|qY<|qo<|qE (qI (qY ?_));refine qo<|qQ (qZ ‹_› .here rfl ?_);refine qQ (qZ ‹_› e_1 rfl ?_);refine vX ‹_›<|jP omQ<|qY<|qb<|qY<|qo<|qI (qI (qJ ?_))
   exact hj _ _ ⟨rfl,λh=>by
    rcases h.2 with h |h |h
    all_goals grind,H5.drop⟩
  ·refine jH (λh=>c3 (by grind)) ?_;rw[iJ ⟨lh,.inr (.inl ⟨rfl,c3⟩)⟩]at hJ;rw[hJ];refine qY<|qo<|qE (qI (qY ?_));refine jC<|qY<|xJ<|qY<|jC<|qE (qX (qx ?_))
   exact qW ⟨rfl,H5.drop.drop⟩
 ·refine jd (qJ (qQ (qZ ‹_› .here rfl ?_)));refine qQ (qZ ‹_› e_1 rfl ?_);refine vX ‹_›<|vE omQ<|qY<|qo<|qQ (qZ ‹_› .here rfl ?_);refine qQ (qZ ‹_› e_1 rfl ?_);refine vX ‹_›<|qj omQ<|qY<|qb<|qY<|qo<|qI (qI (qY ?_));refine qo<|qQ (qZ ‹_› .here rfl ?_);refine qQ (qZ ‹_› e_1 rfl ?_);refine vX ‹_›<|jt omQ<|qY<|qd<|qQ (qZ ‹_› .here rfl ?_)
  refine zj Ta (sB p omQ)<|zj Ta (sB i aw) ?_;by_cases c3:qC a p=qC a i
  ·refine jI c3<|qY<|qo<|qE (qI (qJ ?_))
   exact hj _ _ ⟨rfl,λh=>by
    rcases h.2 with h |h |h
    all_goals grind,H5.drop⟩
  ·refine jH c3 ?_;rw[iJ ⟨lh,.inr (.inr ⟨by grind,c3⟩)⟩]at hJ;rw[hJ];refine qY<|qo<|qE (qI (qX (qx ?_)))
   exact qW ⟨rfl,H5.drop.drop⟩
theorem jJL {l:List qa}:∀{r:List qa} {i:Nat} {st st':List Int},l9 l r i st=.inr st'→∀x∈r,Xg x=true:=by
 intro r
 induction r with
 |nil=>simp
 |cons y r ih=>
  intro i st st' h x hx;rw[Kg]at h
  split at h
  ·rename_i hw;rcases List.mem_cons.1 hx with rfl |hx
   ·exact(yN hw).1
   grind
  grind
theorem qyo {l:List qa}:∀{r:List qa} {i:Nat} {st:List Int} {q:Int×Int},l9 l r i st=.inl q→q.2≠0:=by
 intro r
 induction r with
 |nil=>nofun
 |cons y r ih=>
  grind[Kg]
theorem Ml {l:List qa} (h:(zi l).2=0):l9 l l 0 []=.inr []:=by
 grind[zi,l9,absurd,qyo]
theorem ZD {n:Nat} (hn:6≤n) {l:List qa} {sv:AV} (H:HS g h R) (S:Rd g R 5 l.length sv (l.flatMap xW)) (hl:l.length≤100) :
  aE n 119 [.agg [sv]] h λv h'=>v=.bV [.int .i64 (zi l).1,.int .i64 (zi l).2]∧HS g h' R:=by
 refine aF (S:=S119) rfl omQ λk hk=>?_;unfold S119;try simp only[iZ]
 refine qP H (gY (JO (S.sl H))) λb0 h1 H1=>?_;have IJ:=(S.sl H).ul;clear H;have hC:zi l=if l.length=0∨40<l.length then(0,4)else match l9 l l 0 []with
  | .inl r=>r
  | .inr st=>if st=[]then Xr l (gi l 0 []) l 0 else(jc st,12):=rfl
 generalize zi l=C at*;refine qQ (qZ ‹_› .here rfl ?_);refine vX ‹_› ?_;by_cases c0:l.length=0
 ·rw[iJ (.inl c0)]at hC;subst hC;refine qk omQ<|qY<|jC<|qE (qX ?_)
  exact qW ⟨rfl,H1.drop⟩
 by_cases c1:40<l.length
 ·rw[iJ (.inr c1)]at hC;subst hC;refine qj omQ<|qY<|qo<|qQ (qZ ‹_› .here rfl ?_);refine vX ‹_›<|vr omQ<|qI (qX ?_)
  exact qW ⟨rfl,H1.drop⟩
 rw[iQ omQ]at hC;refine qj omQ<|qY<|qo<|qQ (qZ ‹_› .here rfl ?_);refine vX ‹_›<|vE omQ<|qI (qJ (qQ (qZ ‹_› .here rfl ?_)));refine vX ‹_› ?_
 generalize hG:l9 l l 0 []=G at hC;refine zQ (λm s h'=>∃(i:Nat) (st:List Int) (tv:AV),s=(.int .i64 (i:Int),.int .i64 (l.length:Int),sv,tv,.ptr b0 0,())∧i≤l.length∧m=l.length-i∧cB i st∧st.length≤i∧l9 l (l.drop i) i st=G∧HS g h' (sA tv st::qw b0 [sv]::R))
  ?_ (m:=l.length) (by grind) ⟨0,[],.ak,rfl,by omega,by rfl,cB.nil,by simp,hG,H1.ak (e:=3) (sz:=1)⟩
 clear H1;rintro m ih s h2 bQ ⟨i,st,tv,rfl,hi,rfl,hs,nO,fI,H⟩;by_cases aw:i<l.length
 ·rw[MC aw]at fI;have iC:=Gy aw;generalize l[i]=x at*;refine jt omQ<|qX (xV (S.sl H.drop.drop) aw omQ iC ?_);refine qP H rfl λb h4 H4=>?_;refine qm H4 (b:=b) .here rfl (by simp) rfl λh5 H5=>?_;have H5:HS g h5 (qw b (xW x)::sA tv st::qw b0 [sv]::R):=H5;clear H H4;refine qF H5 (b:=b0) (off:=0) e_2 rfl omQ rfl<|qF H5 (b:=b) (off:=0) .here rfl omQ rfl<|qG (qY0 omQ H5 S.more.more.more (Rd.own e_1) (λy hy=>by have:=hs y hy;omega) omQ) ?_;rintro _ h6 ⟨rfl,H6⟩;by_cases hw:xv l st x=0
  ·rw[iJ hw]at fI;have ho:=yN hw;refine jI hw ?_;unfold xW at H6;refine qJ (qQ (qZ ‹_› .here rfl ?_));refine qG (Mt omQ (H6.aM e_1) (λh=>ho.2.1 (.inl h)) omQ) ?_;intro Rv h8 H8;have Rw:=V2 st i x.1;refine qi omQ<|bQ (l.length-(i+1)) _ _ omQ ⟨i+1,jU st i x.1,Rv,rfl,by omega,rfl,hs.behind,by omega,fI,H8.pk [0] 1⟩
  ·rw[iQ hw]at fI;subst fI;rw[hC];refine jH hw<|qX (qx ?_);exact qW ⟨rfl,H6.drop.drop.drop⟩
 ·obtain rfl:i=l.length:=by omega
  rw[List.drop_length]at fI;have fI:(Sum.inr st:(Int×Int) ⊕ List Int)=G:=fI;subst fI;dsimp only at hC;refine jP omQ (qJ ?_);refine vQ (H.sl .here) ?_;by_cases h0:st=[]
  ·subst h0;rw[iJ rfl]at hC;rw[show([]:List Int).length=0 from rfl];refine vE omQ<|qJ (qY ?_);(try dsimp only)
   refine qF H e_1 rfl omQ rfl<|qF H e_1 rfl omQ rfl<|qG (Ut omQ H S.more.more hG hl) ?_;intro av h3 H3;refine qG (qYE omQ H3 S.more.more.more (by rw[Vf];exact Rd.own .here) Vf (jJL hG) hl) ?_;rintro _ h4 ⟨rfl,H4⟩;rw[← hC];refine qD rfl<|qD rfl<|xy H e_1 rfl H3 e_2 rfl rfl omQ (HS.lt H e_1)<|qx<|qW ⟨rfl,H4.drop.drop.drop⟩
  ·rw[iQ h0]at hC;subst hC;have mV:st.length≠0:=λh=>h0 (iA h);refine vr omQ<|qX (qG (Gs omQ (H.sl .here) omQ) ?_);rintro _ h3 ⟨rfl,rfl⟩;refine qx<|qW ⟨rfl,H.drop.drop⟩
theorem jVL {l:List qa} {st':List Int} (hg:l9 l l 0 []=.inr st') {i:Nat} (hi:i<l.length) (ho:0<zU l[i].1∨l[i].1=16):∃p:Nat,(gi l 0 [])[i]? =some (p:Int)∧p<l.length:=by
 obtain⟨s,h1,h2⟩:=qkd hi;obtain⟨h3,h4⟩:=h2 hg cB.nil;have hw:=h4 l[i] (iW hi);have cg:=(yN hw).2.1 ho;have eI:=h3.eu cg;refine⟨(jc s).toNat,?_,by omega⟩;grind
end
section
variable {g h:AH} {L R:List SP}
theorem bi.iM {A A':List SP} {P:SP} (s:bi A P A') (R:List SP):bi (A++R) P (A'++R):=by
 induction s with
 |here=>exact .here
 |there s ih=>exact .there ih
theorem HS.oy {A A':List SP} {P:SP} (s:bi A P A') (H:HS g h (.all A::R)):HS g h (P:: .all A'::R):=by have H1:=(H.cG).aM (bi.iM s R);have H2:=HS.allI (HS.back (A:=A') H1);exact H2.pk [1] 0
theorem HS.oZ {A A':List SP} {P:SP} (s:bi A P A') (H:HS g h (P:: .all A'::R)):HS g h (.all A::R):=by have H1:HS g h (.all A'::P::R):=H.pk [1] 0;have H2:=(H1.cG).aM (bi.skip A' .here);exact HS.allI (HS.cF (bi.iM s R) H2)
def IK (p:AV×AV) (x:bH):SP:=.all [qB 170 2 x.1.length p.1 (x.1.flatMap zz),qB 3 1 x.2.length p.2 (x.2.map (.int .i64))]
theorem IK.E {p:AV×AV} {x:bH} (H:HS g h (IK p x::R)):HS g h (qB 170 2 x.1.length p.1 (x.1.flatMap zz)::qB 3 1 x.2.length p.2 (x.2.map (.int .i64))::R):=H.cG
theorem IK.I {p:AV×AV} {x:bH} (H:HS g h (qB 170 2 x.1.length p.1 (x.1.flatMap zz)::qB 3 1 x.2.length p.2 (x.2.map (.int .i64))::R)):HS g h (IK p x::R):=H.allI
def Zf (ps:List (AV×AV)):List AV:=ps.reverse.flatMap λp=>[p.1,p.2]
end
section
variable {g h:AH} {L R:List SP}
def bO (lv:List bH):Nat:=(lv.map λx=>x.2.length).sum
theorem Jq (x:bH) (r:List bH):bO (x::r)=x.2.length+bO r:=by rfl
theorem qxS {x y:bH} {r:List bH}:bO (XW (x::y::r)).2=bO (x::y::r):=by grind[bO,XW]
end
end Go.Proofs.YtolpbdncppeohaaGreatDoor
