/- Lemmas for 'quietus/quietuslaw28.MachineGoes': What a transaction knows and writes, as plain data: cells, levels, views;Write sets: by the program;Levels of cells and frees: by the program;Views: by the ... No condition. -/
import Derived.Test.YtemjbhdofokbhaaGreatDoorMachineGoesAe7
import Derived.Test.YtemjbhdofokbhaaGreatDoorMachineGoesT
import Derived.KernelRfl
namespace Go.Proofs.YtemjbhdofokbhaaGreatDoor
open Go Go.Ae
set_option maxRecDepth 100000
variable {A A' R2:List SP} {D:Nat→Prop} {K:AV→Go.Ae.R} {P:SP} {Q:AV→AH→Prop} {a i m most n q sz v w:Nat} {b op p x:Int} {c sv tv:AV} {e:TypeId} {ps:List Nat} {st st':List Int} {xs:List AV} {α:Type}
section
abbrev Cl:Type:=Int×Int
def jn (c:Int×Int):List AV:=[.int .i64 c.1,.int .u64 c.2]
def Ky (p:Int):List Cl→Option Nat
 |[]=>none
 |c::l=>if c.1=p then some 0 else(Ky p l).map (· +1)
def zk (p:Int):List Cl→Option Int
 |[]=>none
 |c::l=>if c.1=p then some c.2 else zk p l
def gJ (p v:Int):List Cl→List Cl
 |[]=>[(p,v)]
 |c::l=>if c.1=p then(p,v)::l else c::gJ p v l
def vN (l cs:List Cl):List Cl:=cs.foldl (λl c=>gJ c.1 c.2 l) l
theorem ZP {l:List Cl}:Ky p l=none↔zk p l=none:=by
 induction l with
 |nil=>simp[Ky,zk]
 |cons c l ih=>
  unfold Ky zk
  split<;>simp_all
theorem Zm:∀{l:List Cl} {i:Nat},Ky p l=some i→i<l.length∧(∃x,l[i]? =some (p,x)∧zk p l=some x)∧∀v,gJ p v l=l.set i (p,v):=by
 intro l
 induction l with
 |nil=>nofun
 |cons c l ih=>
  intro i h;unfold Ky at h;unfold zk
  split at h
  ·rename_i hc;cases h;rw[iJ hc];refine⟨by simp,⟨c.2,by grind,rfl⟩,λv=>?_⟩;simp_all[gJ]
  ·rename_i hc;rw[iQ hc];cases hi:Ky p l with
   |none=>grind
   |some j=>rw[hi]at h;cases h;obtain⟨h1,⟨x,h2,Fq⟩,h3⟩:=ih hi;simp_all[gJ]
theorem GK {v:Int} {l:List Cl} (h:zk p l=none):gJ p v l=l++[(p,v)]:=by
 induction l with
 |nil=>rfl
 |cons c l ih=>
  unfold zk at h
  split at h
  all_goals simp_all[gJ]
theorem qK3:∀{l:List Cl} {i:Nat},i<l.length→(∀j,j<i→∀c,l[j]? =some c→c.1≠p)→(∃x,l[i]? =some (p,x))→Ky p l=some i:=by
 intro l
 induction l with
 |nil=>simp
 |cons c l ih=>
  intro i hi h1 ⟨x,h2⟩;unfold Ky;cases i with
  |zero=>grind
  |succ i=>rw[iQ (h1 0 omQ c rfl),ih (by simpa using hi) (λj hj c' bH=>h1 (j+1) omQ c' (by grind)) ⟨x,by grind⟩];rfl
theorem qxL:∀{l:List Cl},(∀c∈l,c.1≠p)→Ky p l=none:=by
 intro l
 induction l with
 |nil=>intro _;rfl
 |cons c l ih=>intro h;simp_all[Ky]
theorem UX {v:Int} {l:List Cl}:(gJ p v l).length=if zk p l=none then l.length+1 else l.length:=by
 induction l with
 |nil=>rfl
 |cons c l ih=>
  grind[gJ,zk,List.length_cons]
theorem qZR {q v:Int} {l:List Cl}:zk q (gJ p v l)=if q=p then some v else zk q l:=by
 induction l with
 |nil=>
  simp only[gJ,zk];grind
 |cons c l ih=>
  unfold gJ
  split
  ·rename_i hc;simp only[zk];grind
  ·rename_i hc;simp only[zk,ih];grind
def ry (l:List Cl):Prop:=∀c∈l,1≤c.1∧c.1<256
theorem ry.put {l:List Cl} {v:Int} (h:ry l) (hp:1≤p∧p<256):ry (gJ p v l):=by
 induction l with
 |nil=>intro c hc;grind[gJ]
 |cons a l ih=>
  unfold gJ
  split
  ·intro c hc;rcases List.mem_cons.1 hc with rfl |hc
   ·grind
   ·exact h c (iX _ hc)
  ·intro c hc;rcases List.mem_cons.1 hc with rfl |hc
   ·exact h _ (iK ..)
   ·exact ih (λc hc=>h c (iX _ hc)) c hc
def l6 (l:List Cl):Prop:=(l.map (·.1)).Nodup
theorem qZO {l:List Cl}:zk p l=none↔p∉l.map (·.1):=by
 induction l with
 |nil=>simp[zk]
 |cons c l ih=>
  unfold zk
  grind
theorem qzs {v:Int} {l:List Cl}:(gJ p v l).map (·.1)=if zk p l=none then l.map (·.1)++[p]else l.map (·.1):=by
 induction l with
 |nil=>rfl
 |cons c l ih=>
  unfold gJ zk
  grind
theorem l6.put {l:List Cl} {v:Int} (h:l6 l):l6 (gJ p v l):=by
 grind[l6,qzs,qZO,List.nodup_append,List.mem_singleton]
theorem qx4 {l:List Cl}:∀{cs:List Cl},l6 cs→(∀c∈cs,zk c.1 l=none)→vN l cs=l++cs:=by
 intro cs
 induction cs generalizing l with
 |nil=>simp[vN]
 |cons c cs ih=>
  intro hu hn;have CZ:l6 cs:=(List.nodup_cons.1 hu).2;have hc:c.1∉cs.map (·.1):=(List.nodup_cons.1 hu).1;show vN (gJ c.1 c.2 l) cs=_
  rw[ih CZ (λd hd=>by
   rw[qZR,iQ (by grind)]
   grind),GK (hn c (iK ..)),List.append_assoc]
  rfl
theorem ZV {cs:List Cl} (h:l6 cs):vN [] cs=cs:=by rw[qx4 h (λ_ _=>rfl),List.nil_append]
def GR (m:Nat) (l:List Cl) (p v:Int):Int×List Cl :=
 if p<1∨256≤p then(2,l)else if zk p l=none∧m≤l.length then(5,l)else(0,gJ p v l)
def Yu (m:Nat) (l:List Cl):List Cl→Int×List Cl
 |[]=>(0,l)
 |c::cs=>if(GR m l c.1 c.2).1=0 then Yu m (GR m l c.1 c.2).2 cs else GR m l c.1 c.2
theorem qGt {l:List Cl} {c:Cl} {cs:List Cl}:Yu m l (c::cs)=if(GR m l c.1 c.2).1=0 then Yu m (GR m l c.1 c.2).2 cs else GR m l c.1 c.2:=rfl
theorem Kc:∀{cs l:List Cl},ry cs→l.length+cs.length≤m→Yu m l cs=(0,vN l cs):=by
 intro cs
 induction cs with
 |nil=>intro l _ _;rfl
 |cons c cs ih=>
  intro l hi hl;have hc:=hi c (iK ..);have hp:GR m l c.1 c.2=(0,gJ c.1 c.2 l):=by unfold GR;grind
  unfold Yu
  rw[hp,iJ rfl,ih (λd hd=>hi d (iX _ hd)) (by
   grind[UX,gJ])]
  rfl
abbrev bM:Type:=List Cl×List Int
def UQ (p:Int):List bM→Option Int
 |[]=>none
 |x::r=>match zk p x.1 with |some v=>some v |none=>UQ p r
def gZ (lv:List bM):Nat:=(lv.map λx=>x.1.length).sum
def jk (lv:List bM):List Cl:=lv.foldl (λout x=>vN x.1 out) []
def wN (lv:List bM):List Int:=lv.reverse.flatMap (·.2)
structure fT (most:Nat) (lv:List bM):Prop where
  held:gZ lv≤most
  le:most≤96
  ins:∀x∈lv,ry x.1
  un:∀x∈lv,l6 x.1
  one:1≤lv.length
  deep:lv.length≤6
def wM (most:Nat) (lv:List bM) (p v:Int):Int×List bM :=
 match lv with
 |[]=>(0,[])
 |x::r=>if p<1∨256≤p then(2,lv)else if zk p x.1=none∧most≤gZ lv then(5,lv)else(0,(gJ p v x.1,x.2)::r)
def wV (most:Nat) (aw lv:List bM):List Cl→Int×List bM
 |[]=>(0,lv)
 |c::cs=>if(wM most lv c.1 c.2).1=0 then wV most aw (wM most lv c.1 c.2).2 cs else((wM most lv c.1 c.2).1,aw)
def JF (lv:List bM):Int×List bM:=if 6≤lv.length then(9,lv)else(0,([],[])::lv)
def JE (lv:List bM):Int×List bM:=if lv.length=1 then(10,lv)else(0,lv.tail)
def Xx (lv:List bM):Int×List bM:=match lv with
 |x::y::r=>(0,(vN y.1 x.1,y.2++x.2)::r)
 |_=>(10,lv)
def YN (lv:List bM) (b:Int):List bM:=match lv with
 |x::r=>(x.1,x.2++[b])::r
 |[]=>[]
theorem wP {aw lv:List bM} {c:Cl} {cs:List Cl}:wV most aw lv (c::cs)=if(wM most lv c.1 c.2).1=0 then wV most aw (wM most lv c.1 c.2).2 cs else((wM most lv c.1 c.2).1,aw):=rfl
theorem xh {x:bM} {r:List bM}:gZ (x::r)=x.1.length+gZ r:=by rfl
theorem Z6 {lv:List bM} {v:Int} (O:fT most lv):fT most (wM most lv p v).2∧(wM most lv p v).2.length=lv.length:=by
 cases lv with
 |nil=>trivial
 |cons x r=>
  unfold wM;dsimp only
  split
  ·grind
  ·rename_i hp
   split
   ·grind
   ·rename_i h1;have hh:=O.held;rw[xh]at hh;refine⟨⟨?_,O.le,?_,?_,by simp,O.deep⟩,rfl⟩
    ·grind[gZ,gJ,xh,UX]
    ·intro y hy;rcases List.mem_cons.1 hy with rfl |hy
     ·exact(O.ins x (iK ..)).put omQ
     ·exact O.ins y (iX _ hy)
    ·intro y hy;rcases List.mem_cons.1 hy with rfl |hy
     ·exact(O.un x (iK ..)).put
     ·exact O.un y (iX _ hy)
theorem qZm {aw:List bM} (W:fT most aw):∀{cs:List Cl} {lv:List bM},fT most lv→lv.length=aw.length→fT most (wV most aw lv cs).2∧(wV most aw lv cs).2.length=aw.length:=by
 intro cs
 induction cs with
 |nil=>intro lv O hl;trivial
 |cons c cs ih=>
  intro lv O hl;unfold wV
  split
  ·grind[Z6,trans]
  grind
theorem qwo {lv:List bM} (O:fT most lv):fT most (JF lv).2:=by
 unfold JF
 split
 ·grind
 ·refine⟨by rw[xh];have:=O.held;grind,O.le,?_,?_,by simp,by grind⟩
  ·intro y hy;rcases List.mem_cons.1 hy with rfl |hy
   ·nofun
   ·exact O.ins y hy
  ·intro y hy;rcases List.mem_cons.1 hy with rfl |hy
   ·exact List.nodup_nil
   ·exact O.un y hy
theorem qgS {lv:List bM} (O:fT most lv):fT most (JE lv).2:=by
 unfold JE
 split
 ·grind
 ·rename_i h1;cases lv with
  |nil=>grind
  |cons x r=>
   have hh:=O.held;have h2:=O.deep;rw[xh]at hh;simp at h1 h2;refine⟨by grind,O.le,λy hy=>O.ins y (iX _ hy),λy hy=>O.un y (iX _ hy),?_,by grind⟩;grind
theorem MY:∀{cs l:List Cl},(vN l cs).length≤l.length+cs.length:=by
 intro cs
 induction cs with
 |nil=>intro l;exact Nat.le_refl _
 |cons c cs ih=>
  grind[gJ,UX,vN,List.length_cons]
theorem ry.oR:∀{cs l:List Cl},ry l→ry cs→ry (vN l cs):=by
 intro cs
 induction cs with
 |nil=>intro l h _;exact h
 |cons c cs ih=>intro l h hc;exact ih (h.put (hc c (iK ..))) λd hd=>hc d (iX _ hd)
theorem l6.oR:∀{cs l:List Cl},l6 l→l6 (vN l cs):=by
 intro cs
 induction cs with
 |nil=>intro l h;exact h
 |cons c cs ih=>intro l h;exact ih h.put
theorem qwU {lv:List bM} (O:fT most lv):fT most (Xx lv).2:=by
 match lv,O with
 |[],O=>exact O
 |[x],O=>exact O
 |x::y::r,O=>
  have hh:=O.held;have h2:=O.deep;rw[xh,xh]at hh;have:=MY (cs:=x.1) (l:=y.1);refine⟨by show gZ ((vN y.1 x.1,y.2++x.2)::r)≤most;grind[xh],O.le,?_,?_,by simp[Xx],by grind[Xx]⟩
  ·intro z hz;rcases List.mem_cons.1 hz with rfl |hz
   ·exact(O.ins y aW).oR (O.ins x aW)
   ·exact O.ins z (by grind)
  ·intro z hz;rcases List.mem_cons.1 hz with rfl |hz
   ·exact(O.un y aW).oR
   ·exact O.un z (by grind)
theorem qvE {lv:List bM} (O:fT most lv):fT most (YN lv b):=by
 cases lv with
 |nil=>exact O
 |cons x r=>
  refine⟨O.held,O.le,?_,?_,by simp[YN],O.deep⟩
  ·intro z hz;rcases List.mem_cons.1 hz with rfl |hz
   ·exact O.ins x aW
   ·exact O.ins z (by grind)
  ·intro z hz;rcases List.mem_cons.1 hz with rfl |hz
   ·exact O.un x aW
   ·exact O.un z (by grind)
end
section
variable {g h:AH} {L R:List SP}
def dL (w m:Nat) (l:List Cl):SP:=.ex λv=>.all [qk w [.int .i64 (m:Int),v],aa 177 2 l.length v (l.flatMap jn)]
theorem dL.E {l:List Cl} (H:HS g h (dL w m l::R)):∃v,HS g h (qk w [.int .i64 (m:Int),v]::aa 177 2 l.length v (l.flatMap jn)::R):=by obtain⟨v,H⟩:=H.fh;exact⟨v,H.cI⟩
theorem dL.I {l:List Cl} {v:AV} (H:HS g h (qk w [.int .i64 (m:Int),v]::aa 177 2 l.length v (l.flatMap jn)::R)):HS g h (dL w m l::R) :=
 HS.fH v (HS.allI H)
theorem qKP (l:List Cl):qt (l.flatMap jn)=true:=by unfold qt;rw[List.all_eq_true];intro v hv;obtain⟨c,_,hc⟩:=List.mem_flatMap.1 hv;simp[jn]at hc;rcases hc with rfl |rfl<;>rfl
theorem UO {l:List Cl} {c:Cl} (h:l[i]? =some c):((l.flatMap jn).drop (i*2)).take 2=jn c:=by obtain⟨hi,e⟩:=List.getElem?_eq_some_iff.1 h;rw[Y4 jn (λ_=>rfl),List.drop_eq_getElem_cons hi,e,List.flatMap_cons];rfl
theorem qg0 {l:List Cl} {v:Int} (h:l[i]? =some (p,x)):(l.flatMap jn).set (i*2+1) (.int .u64 v)=(l.set i (p,v)).flatMap jn:=by
 have hi:=(List.getElem?_eq_some_iff.1 h).1;apply List.ext_getElem?;intro j;have hd:j=j/2*2+j%2:=by omega
 have hm:j%2<2:=by omega
 rw[List.getElem?_set,Kn (sz:=2) jn (λ_=>rfl)];have e1:=Yf (sz:=2) jn (λ_=>rfl) l (j/2) (j%2) hm;have e2:=Yf (sz:=2) jn (λ_=>rfl) (l.set i (p,v)) (j/2) (j%2) hm;rw[← hd]at e1 e2;rw[e1,e2,List.getElem?_set];by_cases h1:i*2+1=j
 ·have:j/2=i:=by omega
  have h3:j%2=1:=by omega
  rw[iJ h1,iJ omQ,iJ this.symm,iJ hi,h3];rfl
 ·rw[iQ h1];by_cases h2:i=j/2
  ·have h3:j%2=0:=by omega
   rw[iJ h2,iJ hi,h3,← h2,h];rfl
  grind
def zI (o:Option Nat):Int:=match o with |some i=>(i:Int) |none=>-1
theorem Sk (hn:1≤n) (hm:m≤96) (H:HS g h R):aH n 172 [.int .i64 (m:Int)] h λv h'=>∃w,v=.ptr w 0∧HS g h' (dL w m []::R):=by
 refine aG rfl omQ λk hk=>?_;unfold S172;try simp only[iZ]
 refine zi (xR (qI rfl (qM H rfl λw h2 H2=>qY ⟨w,rfl,?_⟩)));rw[show max ((0:Nat):Int) (min (m:Int) ((96:Nat):Int))=(m:Int) by omega]at H2;exact dL.I ((H2.ap).aM e_1 :)
theorem qjF (hn:2≤n) {v:AV} {c0:Nat} {l:List Cl} (H:HS g h L) (S:Rd g L 2 l.length v (l.flatMap jn)) (s:bp L (qk c0 [.int .i64 p]) R) (hl:l.length<1000000) :
  aH n 308 [v,.fn 309 [] [.ptr c0 0]] h λv h'=>v=.int .i64 (zI (Ky p l))∧HS g h' L:=by
 refine bw rfl omQ λk hk=>?_;unfold S308;try simp only[iZ]
 refine yy (S.sl H) ?_
 refine(jS (λm s h'=>∃i:Nat,s=(.int .i64 (i:Int),.int .i64 (l.length:Int),.fn 309 [] [.ptr c0 0],v,())∧i≤l.length∧m=l.length-i∧HS g h' L∧
  (∀j,j<i→∀c,l[j]? =some c→c.1≠p)) ?_ (m:=l.length) (by grind) ⟨0,rfl,by omega,by rfl,H,λj hj=>by omega⟩)
 rintro m ih s' h' bN ⟨i,rfl,h1,rfl,H,h2⟩;refine xp (λax=>qZ ?_) λeY=>qJ (qx (qY ⟨?_,H⟩))
 ·have hi:i<l.length:=by omega
  have hc:l[i]? =some l[i]:=iW hi;refine xQ (S.sl H) hi omQ (UO hc)<|qW (Q':=λv h2=>v=.bool (decide (l[i].1=p))∧HS g h2 L) (jX2 rfl omQ λk hk=>?_) ?_
  ·show wp (S309 (callT tab qj k) _ _ _).1 _;unfold S309;try simp only[]
   refine qM H rfl λb h3 H3=>?_;refine qQ (qK ‹_› .here rfl ?_);refine qK H3 (.there s) rfl (Yi (qY ⟨rfl,H3.drop⟩))
  ·rintro _ h3 ⟨rfl,H3⟩;refine jZN (λhe=>qx (qY ⟨?_,H3⟩)) λbJ=>qa omQ ?_
   ·rw[qK3 hi h2 ⟨l[i].2,by grind⟩];rfl
   ·refine bN (l.length-(i+1)) _ _ omQ ⟨i+1,rfl,by omega,rfl,H3,λj hj c bH=>?_⟩;grind
 ·rw[qxL λc hc=>?_]
  ·rfl
  grind[List.getElem?_of_mem,List.getElem?_eq_some_iff]
theorem qKN (hn:3≤n) {l:List Cl} (H:HS g h (dL w m l::R)) (hl:l.length<1000000) :
  aH n 243 [.ptr w 0,.int .i64 p] h λv h'=>v=.int .i64 (zI (Ky p l))∧HS g h' (dL w m l::R):=by
 refine bw rfl omQ λk hk=>?_;unfold S243;try simp only
 obtain⟨v,H⟩:=dL.E H;refine GX H ⟨rfl,rfl⟩ λc0 h2 H2=>?_;refine qG (qQ (qK ‹_› e_1 rfl ?_));refine qW (qjF omQ H2 (H2.rd e_2) .here hl) ?_;rintro _ h3 ⟨rfl,H3⟩;exact qY ⟨rfl,dL.I H3.drop⟩
theorem qYb (hn:4≤n) {l:List Cl} (H:HS g h (dL w m l::R)) (hl:l.length<1000000) :
  aH n 240 [.ptr w 0,.int .i64 p] h λv h'=>v=.cn [.int .u64 ((zk p l).getD 0),.bool (zk p l).isSome]∧HS g h' (dL w m l::R):=by
 refine bw rfl omQ λk hk=>?_;unfold S240;try simp only[iZ]
 refine qW (qKN omQ H hl) ?_;rintro _ h3 ⟨rfl,H3⟩;cases hi:Ky p l with
 |none=>refine z7 (by nofun)<|qJ<|qY ⟨by grind[ZP],H3⟩
 |some i=>obtain⟨h1,⟨x,h2,Fq⟩,_⟩:=Zm hi;refine z8 (by show((0:Nat):Int)≤(i:Int);omega) ?_;obtain⟨v,H4⟩:=dL.E H3;refine qZ (qG (qQ (qK ‹_› .here rfl ?_)));refine yo (x:=.int .u64 x) (H4.sl e_1) omQ h1 ?_ (qY ⟨by grind,H3⟩);rw[Yf jn (λ_=>rfl) _ _ _ omQ,h2];rfl
theorem qWR (hn:4≤n) {l:List Cl} (H:HS g h (dL w m l::R)) (hl:l.length<1000000) :
  aH n 205 [.ptr w 0,.int .i64 p,.int .u64 x] h λv h'=>v=.int .i64 (GR m l p x).1∧HS g h' (dL w m (GR m l p x).2::R):=by
 refine cY rfl omQ λk hk=>?_;unfold S205;try simp only[iZ]
 unfold GR;by_cases hp:p<1∨256≤p
 ·rw[iJ hp]
  repeat' (first |refine qZ ?_ |refine qJ ?_ |(refine qb ?_;try dsimp only) |(refine jG ?_;try dsimp only) |(refine qS ?_;try dsimp only) |(refine qp ?_;try dsimp only) |(refine ze ?_;try dsimp only) |refine qB ?_ |refine qH ?_ |(with_reducible refine qX ?_;try dsimp only) |with_reducible refine qx ?_ |with_reducible refine jR ?_ |with_reducible refine je ?_ |with_reducible refine qa omQ ?_ |with_reducible refine zL omQ ?_ |with_reducible refine gK omQ ?_ |with_reducible refine wC omQ ?_ |with_reducible refine zi ?_ |with_reducible refine xR ?_ |with_reducible refine qz omQ ?_ |with_reducible refine qV omQ ?_ |with_reducible refine jg omQ ?_ |with_reducible refine jB omQ ?_ |with_reducible refine jc omQ ?_ |with_reducible refine jH omQ ?_ |with_reducible refine Jr omQ ?_ |with_reducible refine Xc omQ ?_ |with_reducible refine yc omQ ?_ |with_reducible refine yj omQ ?_ |with_reducible refine z8 omQ ?_ |with_reducible refine z7 omQ ?_ |with_reducible refine xp (λhc=>?_) (λhc=>?_) |with_reducible refine km (λhc=>?_) (λhc=>?_) |with_reducible refine QQ (λhc=>?_) (λhc=>?_) |with_reducible refine vW (λhc=>?_) (λhc=>?_) |with_reducible refine wE (λhc=>?_) (λhc=>?_) |with_reducible refine gP (λhc=>?_) (λhc=>?_) |with_reducible refine kV (λhc=>?_) (λhc=>?_))
  all_goals exact qY ⟨rfl,H⟩
 rw[iQ hp];refine jH omQ<|qX<|qp<|z7 omQ<|qH (qJ ?_)
 refine qW (qKN omQ H hl) ?_;rintro _ h3 ⟨rfl,H3⟩;cases hi:Ky p l with
 |none=>
  refine z7 (by nofun) ?_;have hg:=ZP.1 hi;obtain⟨v,H4⟩:=dL.E H3;refine qJ (qG (qQ (qK ‹_› .here rfl ?_)));refine qu ‹_› e_1<|qG (qQ (qK ‹_› .here rfl ?_));by_cases hf:m≤l.length
  ·rw[iJ ⟨hg,hf⟩];refine z8 omQ<|qZ<|qY ⟨rfl,H3⟩
  ·rw[iQ (λh=>hf h.2)];refine z7 omQ<|qJ (qG (qQ (qK ‹_› .here rfl ?_)));refine qI rfl<|qh H4 rfl rfl rfl rfl λv5 h5 H5=>?_;refine zX (H5.aM e_2) (H5.sl .here) omQ omQ rfl λv6 h6 H6=>?_;refine qG (qQ (qw H6 e_2 (H6.one .here) aW λh7 H7=>qY ⟨rfl,dL.I (v:=v6) ?_⟩));rw[GK hg,List.flatMap_append,List.length_append];exact H7.pk [0,0] 1
 |some i=>obtain⟨h1,⟨y,h2,Fq⟩,h5⟩:=Zm hi;refine z8 (by show((0:Nat):Int)≤(i:Int);omega) ?_;obtain⟨v,H4⟩:=dL.E H3;refine qZ (qG (qQ (qK ‹_› .here rfl ?_)));rw[iQ (λh=>by grind)];refine jVu (H4.aM e_1) h1 omQ ⟨rfl,rfl⟩ λh6 H6=>qY ⟨rfl,dL.I (v:=v) ?_⟩;rw[qg0 h2]at H6;rw[h5,List.length_set];exact H6.pk [1] 0
theorem qKU (hn:1≤n) {v:AV} {l:List Cl} (H:HS g h L) (s:bp L (aa 177 2 l.length v (l.flatMap jn)) R) (hl:l.length<1000000) :
  aH n 103 [v] h λv' h'=>HS g h' (aa 177 2 l.length v' (l.flatMap jn)::L):=by
 refine aG rfl omQ λk hk=>?_;unfold S103;try simp only[iZ]
 refine K8 H s (λ_ h0=>qZ (qY ?_)) (qJ ?_)
 ·have:=iA h0;subst this;exact H.ap
 ·refine qh (l:=[]) H rfl rfl rfl rfl λv2 h2 H2=>?_;refine zX H2 (H2.sl (.there s)) omQ omQ (qKP l) λv3 h3 H3=>qY ?_;grind
theorem Ks (hn:2≤n) {l:List Cl} (H:HS g h (dL w m l::R)) (hl:l.length<1000000) :
  aH n 174 [.ptr w 0] h λv h'=>HS g h' (aa 177 2 l.length v (l.flatMap jn)::dL w m l::R):=by
 refine aG rfl omQ λk hk=>?_;unfold S174;try simp only
 obtain⟨v,H⟩:=dL.E H;refine qG (qQ (qK ‹_› .here rfl ?_));refine qW (qKU omQ H e_1 hl) λv3 h3 H3=>qY ?_;have:=dL.I (H3.sub (L':=_::_::aa 177 2 l.length v3 (l.flatMap jn)::R) (.cons e_1 (.cons e_1 .refl)));exact this.pk [1] 0
theorem jZ3 (hn:1≤n) {l:List Cl} (H:HS g h (dL w m l::R)) :
  aH n 339 [.ptr w 0] h λv h'=>v=.int .i64 (l.length:Int)∧h'=h:=by
 refine aG rfl omQ λk hk=>?_;unfold S339;try simp only
 obtain⟨v,H⟩:=dL.E H;refine qG (qQ (qK ‹_› .here rfl ?_));refine qu ‹_› e_1<|qY ⟨rfl,rfl⟩
def QM (m:Nat) (l cs:List Cl):Int×List Cl:=if(Yu m l cs).1=0 then Yu m l cs else((Yu m l cs).1,l)
theorem KS (hn:5≤n) {l cs:List Cl} (H:HS g h (dL w m l::R)) (S:Rd g R 2 cs.length c (cs.flatMap jn)) (hl:l.length<100000) (hc:cs.length<100000) :
  aH n 173 [.ptr w 0,c] h λv h'=>v=.int .i64 (QM m l cs).1∧HS g h' (dL w m (QM m l cs).2::R):=by
 refine bw rfl omQ λk hk=>?_;unfold S173;try simp only[iZ]
 refine qW (Ks omQ H omQ) λv0 h1 H1=>?_;refine yy (S.sl H1.drop.drop)<|jS (λk s h'=>∃(i:Nat) (l':List Cl),s=(.int .i64 (i:Int),.int .i64 (cs.length:Int),c,v0,.ptr w 0,())∧i≤cs.length∧k=cs.length-i∧l'.length≤l.length+i∧
  HS g h' (dL w m l'::aa 177 2 l.length v0 (l.flatMap jn)::R)∧Yu m l cs=Yu m l' (cs.drop i)) ?_ (m:=cs.length) (by grind) ⟨0,l,rfl,by omega,by rfl,by omega,H1.pk [1] 0,rfl⟩
 rintro k ih s h2 bN ⟨i,l',rfl,h1,rfl,dW,H,hT⟩;refine xp (λax=>qZ ?_) λeY=>qJ (qx (qY ?_))
 ·have hi:i<cs.length:=by omega
  have tY:cs[i]? =some cs[i]:=iW hi;refine xQ (S.sl H.drop.drop) hi omQ (UO tY)<|qM H rfl λb h3 H3=>qe H3 .here rfl (by simp) rfl λh4 H4=>?_;have H5:HS g h4 (qk b (jn cs[i])::dL w m l'::aa 177 2 l.length v0 (l.flatMap jn)::R):=H4;unfold jn at H5;refine qQ (qK ‹_› .here rfl ?_);refine qQ (qK ‹_› .here rfl ?_);refine qW (qWR omQ H5.drop omQ) ?_;rintro _ h6 ⟨rfl,H6⟩;rw[List.drop_eq_getElem_cons hi,qGt]at hT;refine gP (λbJ=>qZ ?_) λhe=>qJ (qa omQ ?_)
  ·have bJ:¬(GR m l' cs[i].1 cs[i].2).1=0:=by grind
   rw[iQ bJ]at hT;obtain⟨v7,H7⟩:=dL.E H6;refine qG (qQ (qw H7 .here (H7.one e_2) aW λh8 H8=>qx (qY ?_)));unfold QM;rw[hT,iQ bJ];exact⟨rfl,dL.I (H8.pk [0,1] 1)⟩
  ·have B4:(GR m l' cs[i].1 cs[i].2).1=0:=by grind
   rw[iJ B4]at hT;refine bN (cs.length-(i+1)) _ _ omQ ⟨i+1,_,rfl,by omega,rfl,?_,H6,hT⟩;grind[UX,GR]
 ·rw[List.drop_of_length_le omQ]at hT;have hT:Yu m l cs=(0,l'):=hT;unfold QM;rw[hT,iJ rfl];exact⟨rfl,H.pk [0] 1⟩
end
section
variable {g h:AH} {L R:List SP}
def dz (a:Nat) (x:bM):SP:=.ex λw=>.ex λfv=>.all [qk a [.ptr w 0,fv],dL w 96 x.1,aa 3 1 x.2.length fv (x.2.map (.int .i64))]
theorem dz.E {x:bM} (H:HS g h (dz a x::R)):∃w fv,HS g h (qk a [.ptr w 0,fv]::dL w 96 x.1::aa 3 1 x.2.length fv (x.2.map (.int .i64))::R):=by obtain⟨w,H⟩:=H.fh;obtain⟨fv,H⟩:=H.fh;exact⟨w,fv,H.cI⟩
theorem dz.I {fv:AV} {x:bM} (H:HS g h (qk a [.ptr w 0,fv]::dL w 96 x.1::aa 3 1 x.2.length fv (x.2.map (.int .i64))::R)):HS g h (dz a x::R) :=
 HS.fH w (HS.fH fv (HS.allI H))
def yd (ps:List Nat):List AV:=ps.reverse.map λa=>.ptr a 0
def cy (q most:Nat) (lv:List bM):SP:=.ex λv=>.ex λps:List Nat=>.all (.iq (ps.length=lv.length)::qk q [.int .i64 (most:Int),v]::aa 245 1 lv.length v (yd ps)::List.zipWith dz ps lv)
theorem cy.E {lv:List bM} (H:HS g h (cy q most lv::R)):∃v ps,ps.length=lv.length∧HS g h (qk q [.int .i64 (most:Int),v]::aa 245 1 lv.length v (yd ps)::(List.zipWith dz ps lv++R)):=by obtain⟨v,H⟩:=H.fh;obtain⟨ps,H⟩:=H.fh;obtain⟨e,H⟩:=HS.fo (H.cI);exact⟨v,ps,e,H⟩
theorem cy.I {lv:List bM} {v:AV} (e:ps.length=lv.length) (H:HS g h (qk q [.int .i64 (most:Int),v]::aa 245 1 lv.length v (yd ps)::(List.zipWith dz ps lv++R))):HS g h (cy q most lv::R) :=
 HS.fH v (HS.fH ps (HS.allI (HS.fR e H)))
theorem cy.E1 {x:bM} {r:List bM} (H:HS g h (cy q most (x::r)::R)):∃v a ps,ps.length=r.length∧HS g h (qk q [.int .i64 (most:Int),v]::aa 245 1 (r.length+1) v (yd (a::ps))::dz a x::(List.zipWith dz ps r++R)):=by
 obtain⟨v,ps,e,H⟩:=cy.E H;cases ps with
 |nil=>grind
 |cons a ps=>exact⟨v,a,ps,by grind,H⟩
theorem cy.I1 {x:bM} {r:List bM} {v:AV} (e:ps.length=r.length) (H:HS g h (qk q [.int .i64 (most:Int),v]::aa 245 1 (r.length+1) v (yd (a::ps))::dz a x::(List.zipWith dz ps r++R))):HS g h (cy q most (x::r)::R) :=
 cy.I (ps:=a::ps) (by grind) H
theorem qKu (a:Nat) (ps:List Nat):(yd (a::ps))[ps.length]? =some (.ptr a 0):=by simp[yd,List.reverse_cons,List.map_append,aW]
theorem UR (hi:i<ps.length):(yd ps)[i]? =(ps[ps.length-1-i]?).map λa=>.ptr a 0:=by unfold yd;grind
theorem Vr:∀{lv:List bM} {i a:Nat} {x:bM},ps[i]? =some a→lv[i]? =some x→∃T,bp (List.zipWith dz ps lv++R) (dz a x) T:=by
 induction ps with
 |nil=>simp
 |cons b ps ih=>
  intro lv i a x h1 h2;cases lv with
  |nil=>grind
  |cons y lv=>
   cases i with
   |zero=>simp at h1 h2;subst h1;subst h2;exact⟨_,.here⟩
   |succ i=>obtain⟨T,s⟩:=ih (by simpa using h1) (by simpa using h2);exact⟨_,.there s⟩
theorem Kj (hn:1≤n) {m v:AV} {R1:List SP} (H:HS g h L) (s1:bp L (qk q [m,v]) R1) (s2:bp L (aa e 1 (ps.length+1) v (yd (a::ps))) R2) (hl:ps.length<1000000) :
  aH n 241 [.ptr q 0] h λr h'=>r=.ptr a 0∧h'=h:=by
 refine aG rfl omQ λk hk=>?_;unfold S241;try simp only[iZ]
 refine qG (qQ (qK H s1 rfl (qG (qQ (qK H s1 rfl (qu H s2 (zL omQ ?_)))))));rw[show((ps.length+1:Nat):Int)-((1:Nat):Int)=((ps.length:Nat):Int) by omega];exact zY (H.sl s2) (qKu a ps) (qY ⟨rfl,rfl⟩)
theorem Zn (hn:2≤n) (H:HS g h R):aH n 189 [] h λv h'=>∃a,v=.ptr a 0∧HS g h' (dz a ([],[])::R):=by
 refine BV rfl omQ λk hk=>?_;unfold S189;try simp only[iZ]
 refine qW (Sk omQ omQ H) ?_;rintro _ h2 ⟨w,rfl,H2⟩;refine qI rfl (qM H2 rfl λa h3 H3=>qY ⟨a,rfl,?_⟩);exact dz.I (fv:=.ap) ((H3.ap).pk [1,1,0] 0)
theorem jQ4 (hn:3≤n) {m:Int} (H:HS g h R):aH n 158 [.int .i64 m] h λv h'=>∃q,v=.ptr q 0∧HS g h' (cy q (max 0 (min m 96)).toNat [([],[])]::R):=by
 refine aG rfl omQ λk hk=>?_;unfold S158;try simp only[iZ]
 refine zi (xR (qW (Zn omQ H) ?_));rintro _ h2 ⟨a,rfl,H2⟩;refine qh H2 rfl rfl rfl rfl λv h3 H3=>?_;have h1:=H3.one .here;refine qI (by simp only[vL,h1.1];rfl)<|qM H3 (by show(true&&(v.one&&true))=true;rw[h1.2];rfl) λq h4 H4=>qY ⟨q,rfl,?_⟩;refine cy.I1 (v:=v) (a:=a) (ps:=[]) rfl ?_;rw[show(((max 0 (min m 96)).toNat:Nat):Int)=max ((0:Nat):Int) (min m ((96:Nat):Int)) by omega];exact H4
theorem qxT (hn:2≤n) {lv:List bM} (H:HS g h (cy q most lv::R)) (O:fT most lv) (hf:∀x∈lv,x.2.length<1000000) :
  aH n 337 [.ptr q 0,.int .i64 b] h λ_ h'=>HS g h' (cy q most (YN lv b)::R):=by
 cases lv with
 |nil=>have:=O.one;grind
 |cons x r=>
 refine bw rfl omQ λk hk=>?_;unfold S337;try simp only[iZ]
 obtain⟨v,a,ps,e,H⟩:=cy.E1 H;rw[← e]at H;refine qW (Kj omQ H .here e_1 (by have:=O.deep;grind)) ?_;rintro _ _ ⟨rfl,rfl⟩;obtain⟨w,fv,H2⟩:=dz.E (H.aM e_2);refine qG (qQ (qK ‹_› .here rfl ?_));refine qh H2 rfl rfl rfl rfl λv3 h3 H3=>?_;have:=hf x (iK ..);refine zX (H3.aM e_3) (H3.sl .here) omQ omQ rfl λv4 h4 H4=>?_;refine qG (qQ (qw H4 e_2 (H4.one .here) aW λh5 H5=>qY ?_));refine cy.I1 (v:=v) (a:=a) (ps:=ps) e ?_;rw[← e];have:=dz.I (fv:=v4) (x:=(x.1,x.2++[b]))
  (by rw[List.map_append,List.length_append];exact H5.pk [0,2,0,1,1] 1)
 exact this.pk [1,1] 0
theorem qzp (hn:1≤n) {lv:List bM} (H:HS g h (cy q most lv::R)) (O:fT most lv) (hf:(wN lv).length<1000000) :
  aH n 155 [.ptr q 0] h λv h'=>HS g h' (aa 3 1 (wN lv).length v ((wN lv).map (.int .i64))::cy q most lv::R):=by
 refine aG rfl omQ λk hk=>?_;unfold S155;try simp only[iZ]
 have hd:=O.deep;obtain⟨v,ps,e,H⟩:=cy.E H;refine qG (qQ (qK ‹_› .here rfl ?_));refine qu ‹_› e_1<|jS (λm s h'=>∃(i:Nat) (acc:AV),s=(.int .i64 (i:Int),.int .i64 (lv.length:Int),v,acc,())∧i≤lv.length∧m=lv.length-i∧
  HS g h' (aa 3 1 ((lv.reverse.take i).flatMap (·.2)).length acc (((lv.reverse.take i).flatMap (·.2)).map (.int .i64))::qk q [.int .i64 (most:Int),v]::aa 245 1 lv.length v (yd ps)::(List.zipWith dz ps lv++R)))
  ?_ (m:=lv.length) (by grind) ⟨0,.ap,rfl,by omega,by rfl,H.ap⟩
 rintro m ih s h' bN ⟨i,acc,rfl,h1,rfl,H⟩;refine xp (λax=>qZ ?_) λeY=>qJ (qx (qY ?_))
 ·have hi:i<lv.length:=by omega
  have ha:ps[ps.length-1-i]? =some (ps[ps.length-1-i]'omQ):=iW _;have hx:lv[ps.length-1-i]? =some (lv[ps.length-1-i]'omQ):=iW _;generalize ps[ps.length-1-i]'omQ=a at ha;have tV:lv.reverse[i]? =some (lv[ps.length-1-i]'omQ):=by grind
  generalize lv[ps.length-1-i]'omQ=x at hx tV;refine zY (H.sl e_2) (by rw[UR omQ,ha];rfl) ?_;obtain⟨T,s⟩:=Vr (R:=R) ha hx;have H2:=H.aM (.there (.there (.there s)));obtain⟨w,fv,H3⟩:=dz.E H2;refine qG (qQ (qK ‹_› .here rfl ?_));have hlen:((lv.reverse.take i).flatMap (·.2)).length+x.2.length≤(wN lv).length:=by
   have e1:lv.reverse.flatMap (·.2)=(lv.reverse.take (i+1)).flatMap (·.2)++(lv.reverse.drop (i+1)).flatMap (·.2):=by rw[← List.flatMap_append,List.take_append_drop]
   grind[wN,List.take_add_one]
  refine zX (H3.aM e_3) (H3.sl e_2) omQ omQ ?_ λv4 h4 H4=>qa omQ ?_
  ·simp[qt,AV.one]
  refine bN (lv.length-(i+1)) _ _ omQ ⟨i+1,v4,rfl,by omega,rfl,?_⟩;rw[List.take_add_one,tV,Option.toList_some,List.flatMap_append,List.map_append,List.length_append,List.flatMap_cons,List.flatMap_nil,List.append_nil];have H5:=dz.I (a:=a) (w:=w) (fv:=fv) (x:=x) (H4.sub (.cons e_1 (.cons e_1 (.cons e_1 .refl))));exact HS.cG (.there (.there (.there s))) (H5.sub (.refl))
 ·obtain rfl:i=lv.length:=by omega
  rw[List.take_of_length_le aW]at H;exact(cy.I (v:=v) (ps:=ps) e (HS.back (A:=_::_::List.zipWith dz ps lv) H)).pk [1] 0
theorem Fs (l:List Nat):l.reverse.sum=l.sum:=by
 simp
theorem qgM (hn:2≤n) {lv:List bM} (H:HS g h (cy q most lv::R)) (O:fT most lv) :
  aH n 307 [.ptr q 0] h λv h'=>v=.int .i64 ((most:Int)-(gZ lv:Int))∧h'=h:=by
 refine aG rfl omQ λk hk=>?_;unfold S307;try simp only[iZ]
 obtain⟨v,ps,e,H⟩:=cy.E H;have hh:=O.held;have hl:=O.le;have hd:=O.deep;refine qG (qQ (qK ‹_› .here rfl ?_));refine qG (qQ (qK ‹_› .here rfl ?_));refine qu ‹_› e_1<|jS (λm s h'=>∃(i:Nat),s=(.int .i64 (i:Int),.int .i64 (lv.length:Int),v,.int .i64 ((most:Int)-(((lv.reverse.take i).map λx=>x.1.length).sum:Nat)),())∧i≤lv.length∧m=lv.length-i∧h'=h)
  ?_ (m:=lv.length) (by grind) ⟨0,by simp,by omega,by rfl,rfl⟩
 rintro m ih s h' bN ⟨i,rfl,h1,rfl,rfl⟩;have B5:∀j,((lv.reverse.take j).map λx=>x.1.length).sum+((lv.reverse.drop j).map λx=>x.1.length).sum=gZ lv:=by intro j;rw[← List.sum_append,← List.map_append,List.take_append_drop,List.map_reverse,Fs];rfl
 refine xp (λax=>qZ ?_) λeY=>qJ (qx (qY ⟨?_,rfl⟩))
 ·have hi:i<lv.length:=by omega
  have ha:ps[ps.length-1-i]? =some (ps[ps.length-1-i]'omQ):=iW _;have hx:lv[ps.length-1-i]? =some (lv[ps.length-1-i]'omQ):=iW _;generalize ps[ps.length-1-i]'omQ=a at ha;have tV:lv.reverse[i]? =some (lv[ps.length-1-i]'omQ):=by grind
  generalize lv[ps.length-1-i]'omQ=x at hx tV;refine zY (H.sl e_1) (by rw[UR omQ,ha];rfl) ?_;obtain⟨T,s⟩:=Vr ha hx;obtain⟨w,fv,H3⟩:=dz.E (H.aM (.there (.there s)));refine qG (qQ (qK ‹_› .here rfl ?_));refine qW (jZ3 omQ (H3.aM e_1)) ?_;rintro _ _ ⟨rfl,rfl⟩;have h3:=B5 (i+1);have h4:((lv.reverse.take (i+1)).map λx=>x.1.length).sum=((lv.reverse.take i).map λx=>x.1.length).sum+x.1.length:=by rw[List.take_add_one,tV,Option.toList_some,List.map_append,List.sum_append];simp
  refine zL omQ (qa omQ (bN (lv.length-(i+1)) _ _ omQ ⟨i+1,?_,by omega,rfl,rfl⟩));grind
 grind[List.drop_of_length_le,gZ]
theorem qWI {k b0 l:Nat} {v:AV} {Inv:Nat→AH→Prop} {Fin:AH→Prop}
  (hrd:∀i h,Inv i h→h.at b0 0=some v∧Sl (λ_=>True) h 1 ps.length v (yd ps))
  (hy:∀i a h,ps[i]? =some a→Inv i h→wp (callT tab qj k (.yield l) [.int .i64 ((ps.length-1-i:Nat):Int),.ptr a 0] h) λr h'=>(r=.bool true∧Inv (i+1) h')∨(r=.bool false∧Fin h'))
  (hl:ps.length<1000000) (h0:Inv 0 h):wp (callT tab qj (k+1) (.fn 204 [] [.ptr b0 0]) [.yield l] h) λ_ h'=>Inv ps.length h'∨Fin h':=by
 refine jX2 rfl omQ λk' hk=>?_;obtain rfl:k'=k:=by omega
 unfold S204
 try simp only[iZ]
 obtain⟨r1,r2⟩:=hrd 0 h h0;refine Xy r1 (yy r2 (zL omQ ?_));refine jS (λm s h'=>∃i:Nat,s=(.int .i64 ((ps.length:Int)-((1:Nat):Int)-(i:Int)),.ptr b0 0,.yield l,())∧i≤ps.length∧m=ps.length-i∧Inv i h') ?_ (m:=ps.length) (by grind) ⟨0,by simp,by omega,by rfl,h0⟩;rintro m ih s h' bN ⟨i,rfl,h1,rfl,hI⟩;obtain⟨r1,r2⟩:=hrd i h' hI;refine vW (λax=>qZ ?_) λeY=>qJ (qx (qY (.inl ?_)))
 ·have hi:i<ps.length:=by omega
  have ha:ps[i]? =some ps[i]:=iW hi;rw[show(ps.length:Int)-((1:Nat):Int)-(i:Int)=((ps.length-1-i:Nat):Int) by omega];refine Xy r1 (zY r2 (by rw[UR omQ,show ps.length-1-(ps.length-1-i)=i by omega,ha];rfl) ?_);refine qW (hy i _ h' ha hI) ?_;rintro _ h2 (⟨rfl,hI2⟩ |⟨rfl,hF⟩)
  ·refine jR (qJ (zL omQ (bN (ps.length-(i+1)) _ _ omQ ⟨i+1,?_,by omega,rfl,hI2⟩)));grind
  ·exact je (qZ (qx (qY (.inr hF))))
 grind
theorem qYs:∀{lv:List bM},(∀(j:Nat) x,lv[j]? =some x→zk p x.1=none)→UQ p lv=none:=by
 intro lv
 induction lv with
 |nil=>intro _;rfl
 |cons x r ih=>intro h;unfold UQ;rw[h 0 x rfl];exact ih λj y hy=>h (j+1) y (by grind)
theorem qzb {v:Int}:∀{lv:List bM} {i:Nat} {x:bM},(∀j,j<i→∀x,lv[j]? =some x→zk p x.1=none)→lv[i]? =some x→zk p x.1=some v→UQ p lv=some v:=by
 intro lv
 induction lv with
 |nil=>simp
 |cons y r ih=>
  intro i x h1 h2 h3;unfold UQ;cases i with
  |zero=>grind
  |succ i=>rw[h1 0 omQ y rfl];grind
theorem fT.len {lv:List bM} (O:fT most lv) {x:bM} (hx:x∈lv):x.1.length≤96:=by
 have h1:=O.held;have h2:=O.le;have:x.1.length≤gZ lv:=by
  clear h1 O
  induction lv with
  |nil=>grind
  |cons y r ih=>
   rw[xh];grind
 omega
theorem VX (hn:1≤n) {v:AV} (h1:One v) (H:HS g h L):aH n 171 [v] h λr h'=>∃b,r=.fn 204 [] [.ptr b 0]∧HS g h' (qk b [v]::L):=by
 refine aG rfl omQ λk hk=>?_;unfold S171;try simp only
 exact GX H h1 λb h2 H2=>qY ⟨b,rfl,H2⟩
theorem jJu (hn:8≤n) {lv:List bM} (H:HS g h (cy q most lv::R)) (O:fT most lv) :
  aH n 202 [.ptr q 0,.int .i64 p] h λv h'=>v=.cn [.int .u64 ((UQ p lv).getD 0),.bool (UQ p lv).isSome]∧HS g h' (cy q most lv::R):=by
 (refine qA rfl omQ λk hk=>?_;show wp (S202 (callT tab qj k) _ _ _) _;unfold S202;try simp only[uU,iZ])
 obtain⟨v,ps,e,H⟩:=cy.E H;have hd:=O.deep;refine GX H ⟨rfl,rfl⟩ λb1 h1 H=>GX H ⟨rfl,rfl⟩ λb2 h2 H=>GX H ⟨rfl,rfl⟩ λb3 h3 H=>?_;refine qG (qQ (qK ‹_› e_3 rfl ?_));refine qW (VX omQ (H.one e_4) H) ?_;rintro _ h4 ⟨b4,rfl,H⟩;have H5:=(H.mO .lT).mO (.loop .ready none 202 [1,0,1,0] [5,4,3] [.ptr b3 0,.ptr b2 0,.ptr b1 0] h4.nx);generalize(h4.new .lT).nx=l at H5 ⊢;generalize h4.nx=d at H5 ⊢;obtain⟨k2,rfl⟩:∃k2,k=k2+1:=⟨k-1,by omega⟩
 refine qXT (qWI (b0:=b4) (v:=v) (ps:=ps)
  (Inv:=λi h'=>HS g h' (Qe l (.loop .ready none 202 [1,0,1,0] [5,4,3] [.ptr b3 0,.ptr b2 0,.ptr b1 0] d)::Qe d .lT::qk b4 [v]::qk b3 [.bool false]::qk b2 [.int .u64 ((0:Nat):Int)]::qk b1 [.int .i64 p]::
   qk q [.int .i64 (most:Int),v]::aa 245 1 lv.length v (yd ps)::(List.zipWith dz ps lv++R))∧∀j,j<i→∀x,lv[j]? =some x→zk p x.1=none)
  (Fin:=λh'=>∃x,UQ p lv=some x∧HS g h' (Qe l (.loop .done (some .ret) 202 [1,0,1,0] [5,4,3] [.ptr b3 0,.ptr b2 0,.ptr b1 0] d)::Qe d .lT::qk b4 [v]::qk b3 [.bool true]::qk b2 [.int .u64 x]::qk b1 [.int .i64 p]::
   qk q [.int .i64 (most:Int),v]::aa 245 1 lv.length v (yd ps)::(List.zipWith dz ps lv++R)))
  ?_ ?_ omQ ⟨H5,λj hj=>by omega⟩) ?_
 ·rintro i h' ⟨H,_⟩;obtain⟨et,A⟩:=H.obj e_2;exact⟨A.at 0,e▸H.sl e_7⟩
 ·rintro i a h' ha ⟨H,bQ⟩;have hi:=(List.getElem?_eq_some_iff.1 ha).1;have hx:lv[i]? =some (lv[i]'omQ):=iW _;have hm:lv[i]'omQ∈lv:=List.getElem_mem _;generalize lv[i]'omQ=x at hx hm;have uu:=O.len hm;refine qXN (H.bG .here) rfl omQ λk3 Li=>?_;show wp (B1 _ _ _ _ _ (.int .i64 ((ps.length-1-i:Nat):Int)) _ _) _;unfold B1
  try simp only[iI,uU,iZ]
  refine qZo H .here λh6 H=>?_;obtain⟨T,s⟩:=Vr ha hx;obtain⟨w,fv,H7⟩:=dz.E (H.aM (.there (.there (.there (.there (.there (.there (.there (.there s)))))))));refine qG (qQ (qK ‹_› .here rfl ?_));refine qK ‹_› e_8 rfl<|qW (qYb omQ (H7.aM e_1) omQ) ?_;rintro _ h8 ⟨rfl,H8⟩;refine qy rfl<|qy rfl ?_;cases hg:zk p x.1 with
  |none=>
   refine qJ (qW9 H8 e_3 λh9 H9=>.inl ⟨rfl,?_,λj hj y hy=>?_⟩)
   ·have fw:=dz.I (a:=a) (w:=w) (fv:=fv) (x:=x) (H9.sub (.cons e_2 (.cons e_1 (.cons e_1 .refl))));exact HS.cG (.there (.there (.there (.there (.there (.there (.there (.there s)))))))) (fw.sub (.refl))
   grind
  |some z=>refine qZ (qw H8 e_7 ⟨rfl,rfl⟩ aW λh9 H9=>qw H9 e_7 ⟨rfl,rfl⟩ aW λeM fw=>jZr fw e_5 λdO mA=>.inr ⟨rfl,z,qzb bQ hx hg,?_⟩);have cw:=dz.I (a:=a) (w:=w) (fv:=fv) (x:=x) (mA.sub (.cons e_4 (.cons e_3 (.cons e_3 .refl))));exact HS.cG (.there (.there (.there (.there (.there (.there (.there (.there s)))))))) (cw.pk [0,0,2,2,0,0] 0)
 ·rintro _ h6 (⟨H,bQ⟩ |⟨x,hx,H⟩)
  ·have hg:UQ p lv=none:=qYs λj x hj=>bQ j (by grind) x hj;refine RI H .here (λh=>by grind) λh7 H=>qZl (qw H e_4 ⟨rfl,rfl⟩ aW λh8 H=>qw H e_4 ⟨rfl,rfl⟩ aW λh9 H=>UU H e_3 λeM H=>?_);refine qK ‹_› e_2 rfl<|qK ‹_› e_1 rfl<|qY ⟨by grind,?_⟩;exact cy.I (ps:=ps) e (H.pk [6,6] 6)
  ·refine RI H .here (λh=>by grind) λh7 H=>qwa (jVa rfl (UU H e_1 λh8 H=>?_));refine qK ‹_› e_4 rfl<|qK ‹_› e_3 rfl<|qY ⟨by grind,?_⟩;exact cy.I (ps:=ps) e (H.pk [6,6] 6)
theorem jVD {x:bM} {r:List bM} {v:Int} (O:fT most (x::r)) (hp:¬(p<1∨256≤p)) (hf:¬(zk p x.1=none∧most≤gZ (x::r))):GR 96 x.1 p v=(0,gJ p v x.1):=by have h1:=O.held;have h2:=O.le;rw[xh]at h1 hf;unfold GR;grind
theorem qWM (hn:5≤n) {lv:List bM} {v:Int} (H:HS g h (cy q most lv::R)) (O:fT most lv) :
  aH n 242 [.ptr q 0,.int .i64 p,.int .u64 v] h λr h'=>r=.int .i64 (wM most lv p v).1∧HS g h' (cy q most (wM most lv p v).2::R):=by
 cases lv with
 |nil=>have:=O.one;grind
 |cons x r=>
 have uu:=O.len (x:=x) (iK ..);refine cY rfl omQ λk hk=>?_;unfold S242;try simp only[iZ]
 unfold wM;by_cases hp:p<1∨256≤p
 ·simp only[iJ hp]
  repeat' (first |with_reducible refine qZ ?_ |with_reducible refine qJ ?_ |(with_reducible refine qb ?_;try dsimp only) |(with_reducible refine jG ?_;try dsimp only) |(with_reducible refine qS ?_;try dsimp only) |(with_reducible refine qp ?_;try dsimp only) |(with_reducible refine ze ?_;try dsimp only) |with_reducible refine qB ?_ |with_reducible refine qH ?_ |(with_reducible refine qX ?_;try dsimp only) |with_reducible refine qx ?_ |with_reducible refine jR ?_ |with_reducible refine je ?_ |with_reducible refine qa omQ ?_ |with_reducible refine zL omQ ?_ |with_reducible refine gK omQ ?_ |with_reducible refine wC omQ ?_ |with_reducible refine zi ?_ |with_reducible refine xR ?_ |with_reducible refine qz omQ ?_ |with_reducible refine qV omQ ?_ |with_reducible refine jg omQ ?_ |with_reducible refine jB omQ ?_ |with_reducible refine jc omQ ?_ |with_reducible refine jH omQ ?_ |with_reducible refine Jr omQ ?_ |with_reducible refine Xc omQ ?_ |with_reducible refine yc omQ ?_ |with_reducible refine yj omQ ?_ |with_reducible refine z8 omQ ?_ |with_reducible refine z7 omQ ?_ |with_reducible refine xp (λhc=>?_) (λhc=>?_) |with_reducible refine km (λhc=>?_) (λhc=>?_) |with_reducible refine QQ (λhc=>?_) (λhc=>?_) |with_reducible refine vW (λhc=>?_) (λhc=>?_) |with_reducible refine wE (λhc=>?_) (λhc=>?_) |with_reducible refine gP (λhc=>?_) (λhc=>?_) |with_reducible refine kV (λhc=>?_) (λhc=>?_))
  all_goals exact qY ⟨rfl,H⟩
 simp only[iQ hp];refine jH omQ<|qX<|qp<|z7 omQ<|qH (qJ ?_)
 have hH:=H;obtain⟨sv,a,ps,e,H⟩:=cy.E1 H;rw[← e]at H;refine qW (Kj omQ H .here e_1 (by have:=O.deep;grind)) ?_;rintro _ _ ⟨rfl,rfl⟩;obtain⟨w,fv,H2⟩:=dz.E (H.aM e_2);refine qG (qQ (qK ‹_› .here rfl ?_));refine qW (qYb omQ (H2.aM e_1) omQ) ?_;rintro _ h3 ⟨rfl,H3⟩;refine qy rfl<|qy rfl ?_;have H4:HS g h3 (cy q most (x::r)::R):=by have H4:=dz.I (a:=a) (w:=w) (fv:=fv) (x:=x) (H3.sub (.cons e_1 (.cons .here .refl)));refine cy.I1 (v:=sv) (a:=a) (ps:=ps) e ?_;rw[← e];exact H4.pk [1,1] 0
 have fin:¬(zk p x.1=none∧most≤gZ (x::r))→∀h5,HS g h5 (dL w 96 x.1::qk a [.ptr w 0,fv]::aa 3 1 x.2.length fv (x.2.map (.int .i64))::qk q [.int .i64 (most:Int),sv]::aa 245 1 (ps.length+1) sv (yd (a::ps))::(List.zipWith dz ps r++R))→
   aH k 205 [.ptr w 0,.int .i64 p,.int .u64 v] h5 λr' h'=>r'=.int .i64 0∧HS g h' (cy q most ((gJ p v x.1,x.2)::r)::R):=by
  intro hf h5 H5;refine(qWR omQ H5 omQ).mono ?_;rintro _ h6 ⟨rfl,H6⟩;rw[jVD O hp hf]at H6 ⊢;refine⟨rfl,cy.I1 (v:=sv) (a:=a) (ps:=ps) e ?_⟩;rw[← e];have H7:=dz.I (a:=a) (w:=w) (fv:=fv) (x:=(gJ p v x.1,x.2)) (H6.sub (.cons e_1 (.cons .here .refl)));exact H7.pk [1,1] 0
 cases hg:zk p x.1 with
 |some z=>
  simp only[Option.isSome_some];refine jR (qX ?_);refine qS<|qH (qJ ?_)
  rw[iQ (λh=>by grind)];refine qW (fin (λh=>by grind) h3 (H3.sub (.refl))) ?_;rintro _ h6 ⟨rfl,H6⟩;exact qY ⟨rfl,H6⟩
 |none=>
  simp only[Option.isSome_none];refine je (qX ?_);refine qb ?_;(try dsimp only)
  refine qW (qgM omQ H4 O) ?_;rintro _ _ ⟨rfl,rfl⟩;have hh:=O.held;refine wE (λh0=>?_) λh0=>?_
  ·refine qB (qZ ?_);rw[iJ ⟨by simp,by omega⟩];exact qY ⟨rfl,H4⟩
  ·refine qB (qJ ?_);rw[iQ (λh=>h0 omQ)];refine qW (fin (λh=>h0 omQ) _ (H3.sub (.refl))) ?_;rintro _ h6 ⟨rfl,H6⟩;exact qY ⟨rfl,H6⟩
theorem Uo {x:bM} {r:List bM} {v:Int}:∃c,(wM most (x::r) p v).2=(c,x.2)::r:=by
 unfold wM;grind
theorem qvh (hn:7≤n) {lv:List bM} {cs:List Cl} (H:HS g h (cy q most lv::R)) (O:fT most lv) (S:Rd g R 2 cs.length c (cs.flatMap jn)) (hc:cs.length<100000) :
  aH n 203 [.ptr q 0,c] h λr h'=>r=.int .i64 (wV most lv lv cs).1∧HS g h' (cy q most (wV most lv lv cs).2::R):=by
 cases lv with
 |nil=>have:=O.one;grind
 |cons x r=>
 have uu:=O.len (x:=x) (iK ..);have Ft:=O.ins x (iK ..);have Sm:=O.un x (iK ..);refine bw rfl omQ λk hk=>?_;unfold S203;try simp only[iZ]
 refine qW (Sk omQ omQ H) ?_;rintro _ h1 ⟨w0,rfl,H1⟩;obtain⟨sv,a,ps,e,H2⟩:=cy.E1 (H1.aM e_1);rw[← e]at H2;refine qW (Kj omQ H2 .here e_1 (by have:=O.deep;grind)) ?_;rintro _ _ ⟨rfl,rfl⟩;obtain⟨w,fv,H3⟩:=dz.E (H2.aM e_2);refine qG (qQ (qK ‹_› .here rfl ?_));refine qW (Ks omQ (H3.aM e_1) omQ) λva h4 H4=>?_;refine qW (KS (l:=[]) (m:=96) (w:=w0) omQ (H4.aM (.there (.there (.there (.there (.there (.there (bp.skip _ .here))))))))  (.own .here) aW omQ) ?_;rintro _ h5 ⟨_,H5⟩;have ht:QM 96 [] x.1=(0,x.1):=by unfold QM;rw[Kc Ft (by grind),ZV Sm,iJ rfl]
 rw[ht]at H5;have H6:HS g h5 (cy q most (x::r)::dL w0 96 x.1::R):=by have H7:=dz.I (a:=a) (w:=w) (fv:=fv) (x:=x) (H5.sub (.cons e_3 (.cons e_2 (.cons e_2 .refl))));refine cy.I1 (v:=sv) (a:=a) (ps:=ps) e ?_;rw[← e];have H8:HS g h5 (dL w0 96 x.1::(qk q [.int .i64 (most:Int),sv]::aa 245 1 (ps.length+1) sv (yd (a::ps))::dz a x::List.zipWith dz ps r)++R):=H7.pk [1,2,2,0] 1;grind[HS.back]
 clear H1 H2 H3 H4 H5;refine yy (S.sl H6.drop.drop)<|jS (λk s h'=>∃(i:Nat) (c':List Cl),s=(.int .i64 (i:Int),.int .i64 (cs.length:Int),c,.ptr w0 0,.ptr q 0,())∧i≤cs.length∧k=cs.length-i∧fT most ((c',x.2)::r)∧
  HS g h' (cy q most ((c',x.2)::r)::dL w0 96 x.1::R)∧wV most (x::r) (x::r) cs=wV most (x::r) ((c',x.2)::r) (cs.drop i)) ?_ (m:=cs.length) (by grind) ⟨0,x.1,rfl,by omega,by rfl,O,H6,rfl⟩
 rintro k2 ih s h2 bN ⟨i,c',rfl,h1,rfl,O',H,hT⟩;refine xp (λax=>qZ ?_) λeY=>qJ (qx (qY ?_))
 ·have hi:i<cs.length:=by omega
  have tY:cs[i]? =some cs[i]:=iW hi;refine xQ (l:=jn cs[i]) (S.sl H.drop.drop) hi omQ (UO tY)<|qM H rfl λb h3 H3=>qe H3 .here rfl (by simp) rfl λh4 H4=>?_;have H5:HS g h4 (qk b (jn cs[i])::cy q most ((c',x.2)::r)::dL w0 96 x.1::R):=H4;unfold jn at H5;refine qQ (qK ‹_› .here rfl ?_);refine qQ (qK ‹_› .here rfl ?_);refine qW (qWM omQ H5.drop O') ?_;rintro _ h6 ⟨rfl,H6⟩;rw[List.drop_eq_getElem_cons hi,wP]at hT;have O2:=(Z6 (p:=cs[i].1) (v:=cs[i].2) O').1;obtain⟨c2,nD⟩:=Uo (most:=most) (x:=(c',x.2)) (r:=r) (p:=cs[i].1) (v:=cs[i].2);refine gP (λbJ=>qZ ?_) λhe=>qJ (qa omQ ?_)
  ·have bJ:¬(wM most ((c',x.2)::r) cs[i].1 cs[i].2).1=0:=by grind
   rw[iQ bJ]at hT;rw[nD]at H6;obtain⟨sv,a,ps,e,H7⟩:=cy.E1 H6;rw[← e]at H7;refine qW (Kj omQ H7 .here e_1 (by have:=O.deep;grind)) ?_;rintro _ _ ⟨rfl,rfl⟩;obtain⟨w,fv,H8⟩:=dz.E (H7.aM e_2);refine qG (qQ (qw H8 .here ⟨rfl,rfl⟩ aW λh9 H9=>qx (qY ?_)));rw[hT];refine⟨rfl,cy.I1 (v:=sv) (a:=a) (ps:=ps) e ?_⟩;rw[← e];obtain⟨T,sT,uT⟩:∃T,bp (List.zipWith dz ps r++dL w0 96 x.1::R) (dL w0 96 x.1) T∧T=List.zipWith dz ps r++R:=⟨_,bp.skip _ .here,rfl⟩;subst uT;have fw:=dz.I (a:=a) (w:=w0) (fv:=fv) (x:=x) (H9.sub (.cons .here (.cons (.there (.there (.there (.there sT)))) (.cons e_1 (.drop .refl)))));exact fw.pk [1,1] 0
  ·have B4:(wM most ((c',x.2)::r) cs[i].1 cs[i].2).1=0:=by grind
   rw[iJ B4,nD]at hT;rw[nD]at H6 O2;exact bN (cs.length-(i+1)) _ _ omQ ⟨i+1,c2,rfl,by omega,rfl,O2,H6,hT⟩
 ·rw[List.drop_of_length_le omQ]at hT;have hT:wV most (x::r) (x::r) cs=(0,(c',x.2)::r):=hT;rw[hT];exact⟨rfl,H.pk [0] 1⟩
theorem M6 (a:Nat) (ps:List Nat):yd (a::ps)=yd ps++[.ptr a 0]:=by simp[yd,List.reverse_cons,List.map_append]
theorem On (ps:List Nat):(yd ps).length=ps.length:=by simp[yd]
theorem qv7 (hn:3≤n) {lv:List bM} (H:HS g h (cy q most lv::R)) (_:fT most lv) :
  aH n 338 [.ptr q 0] h λv h'=>v=.int .i64 (JF lv).1∧HS g h' (cy q most (JF lv).2::R):=by
 refine aG rfl omQ λk hk=>?_;unfold S338;try simp only[iZ]
 have hH:=H;obtain⟨v,ps,e,H⟩:=cy.E H;unfold JF;by_cases h6:6≤lv.length
 ·rw[iJ h6];refine qG (qQ (qK ‹_› .here rfl ?_));refine qu ‹_› e_1<|z8 omQ<|qZ<|qY ⟨rfl,hH⟩
 ·rw[iQ h6];refine qG (qQ (qK ‹_› .here rfl ?_));refine qu ‹_› e_1<|z7 omQ<|qJ (qX ?_);refine qG (qQ (qK ‹_› .here rfl ?_))
  refine qW (Zn omQ H) ?_;rintro _ h2 ⟨a,rfl,H2⟩;refine qh H2 rfl rfl rfl rfl λv3 h3 H3=>?_;refine zX (H3.aM e_3) (H3.sl .here) omQ omQ rfl λv4 h4 H4=>?_;refine qG (qQ (qw H4 e_3 (H4.one .here) aW λh5 H5=>?_));refine qT ‹_› .here rfl ‹_› e_1 rfl (HS.lt ‹_› .here)<|qY ⟨rfl,cy.I1 (v:=v4) (a:=a) (ps:=ps) e ?_⟩;rw[M6];exact H5.pk [0,0,1] 1
theorem qKO (hn:1≤n) {m v:AV} (h1:1≤ps.length) (hl:ps.length<1000) (H:HS g h (qk q [m,v]::aa 245 1 (ps.length+1) v (yd (a::ps))::R)) :
  aH n 306 [.ptr q 0] h λr h'=>r=.int .i64 0∧∃v',HS g h' (qk q [m,v']::aa 245 1 ps.length v' (yd ps)::R):=by
 refine aG rfl omQ λk hk=>?_;unfold S306;try simp only[iZ]
 refine qG (qQ (qK ‹_› .here rfl ?_));refine qu ‹_› e_1<|qV omQ<|qJ (qG (qQ (qK ‹_› .here rfl ?_)));refine qG (qQ (qK ‹_› .here rfl ?_));refine qu ‹_› e_1<|zL omQ ?_;rw[show((ps.length+1:Nat):Int)-((1:Nat):Int)=((ps.length:Nat):Int) by omega];refine Y8 (H.aM e_1) omQ omQ λv' H2=>?_;refine qG (qQ (qw H2 e_1 (H2.one .here) aW λh3 H3=>qY ⟨rfl,v',?_⟩));simp_all[M6,Nat.mul_one,On]
theorem qZT (hn:1≤n) {lv:List bM} (H:HS g h (cy q most lv::R)) (O:fT most lv) :
  aH n 306 [.ptr q 0] h λv h'=>v=.int .i64 (JE lv).1∧HS g h' (cy q most (JE lv).2::R):=by
 unfold JE;by_cases h1:lv.length=1
 ·rw[iJ h1];refine aG rfl omQ λk hk=>?_;unfold S306;try simp only[iZ]
  have hH:=H;obtain⟨v,ps,e,H⟩:=cy.E H;refine qG (qQ (qK ‹_› .here rfl ?_));refine qu ‹_› e_1<|qz omQ<|qZ<|qY ⟨rfl,hH⟩
 ·rw[iQ h1];cases lv with
  |nil=>have:=O.one;grind
  |cons x r=>
  have hd:=O.deep;simp at h1 hd;have h1':1≤r.length:=by grind
  obtain⟨v,a,ps,e,H⟩:=cy.E1 H;rw[← e]at H;refine(qKO hn omQ omQ H).mono ?_;rintro _ h2 ⟨rfl,v',H2⟩;refine⟨rfl,cy.I (v:=v') (ps:=ps) e ?_⟩;show HS g h2 (_::aa 245 1 r.length v' _::(List.zipWith dz ps r++R));rw[← e];exact H2.pk [0,0] 1
theorem qg6 (hn:6≤n) {lv:List bM} (H:HS g h (cy q most lv::R)) (O:fT most lv) (hf:∀x∈lv,x.2.length<1000000) :
  aH n 304 [.ptr q 0] h λv h'=>v=.int .i64 (Xx lv).1∧HS g h' (cy q most (Xx lv).2::R):=by
 rcases lv with _ |⟨x,_ |⟨y,r⟩⟩
 ·have:=O.one;grind
 ·
  refine aG rfl omQ λk hk=>?_;unfold S304;try simp only[iZ]
  obtain⟨v,a,ps,e,H2⟩:=cy.E1 H;rw[← e]at H2;refine qW (Kj omQ H2 .here e_1 (by grind)) ?_;rintro _ _ ⟨rfl,rfl⟩;refine qW (qZT omQ H O) ?_;rintro _ h3 ⟨rfl,H3⟩;rw[show JE [x]=(10,[x])from rfl]at H3 ⊢;refine jg omQ<|qZ<|qY ⟨rfl,H3⟩
 ·
  have hx:=hf x aW;have hy:=hf y aW;have Ft:=O.ins x aW;have hd:=O.deep;have hh:=O.held;have hle:=O.le;rw[xh,xh]at hh;simp at hd;refine aG rfl omQ λk hk=>?_;unfold S304;try simp only[iZ]
  obtain⟨v,a,ps,e,H2⟩:=cy.E1 H;rw[← e]at H2;refine qW (Kj omQ H2 .here e_1 (by grind)) ?_;rintro _ _ ⟨rfl,rfl⟩;simp at e;refine qW (qKO omQ omQ omQ H2) ?_;rintro _ h3 ⟨rfl,v',H3⟩;cases ps with
  |nil=>simp at e
  |cons b ps=>
  simp at e;refine jB omQ<|qJ (qW (Kj omQ H3 .here e_1 omQ) ?_);rintro _ _ ⟨rfl,rfl⟩;have H4:HS g _ (dz b y::dz a x::qk q [.int .i64 (most:Int),v']::aa 245 1 (ps.length+1) v' (yd (b::ps))::(List.zipWith dz ps r++R)):=H3.pk [3,2,0,0] 0;obtain⟨w1,f1,H4⟩:=dz.E H4;obtain⟨w2,f2,H5⟩:=dz.E (H4.aM e_3);refine qG (qQ (qK ‹_› e_3 rfl ?_));refine qG (qQ (qK ‹_› .here rfl ?_));refine zX (H5.aM e_5) (H5.sl e_2) omQ omQ ?_ λv6 h6 H6=>?_
  ·simp[qt,AV.one]
  refine qG (qQ (qw H6 e_4 (H6.one .here) aW λh7 H7=>?_));simp only[List.set_cons_zero,List.set_cons_succ]at H7;refine qX<|qG (qQ (qK ‹_› .here rfl ?_));refine qG (qQ (qK ‹_› e_2 rfl ?_))
  refine qW (Ks omQ (H7.aM e_3) omQ) λv8 h8 H8=>?_;refine qW (KS (w:=w1) omQ (H8.aM (P:=dL w1 96 y.1) e_6) (.own .here) omQ omQ) ?_;rintro _ h9 ⟨rfl,H9⟩;have ht:QM 96 y.1 x.1=(0,vN y.1 x.1):=by unfold QM;rw[Kc Ft omQ,iJ rfl]
  rw[ht]at H9 ⊢;refine qT ‹_› .here rfl ‹_› e_2 rfl (HS.lt ‹_› .here)<|qY ⟨rfl,cy.I1 (v:=v') (a:=b) (ps:=ps) omQ ?_⟩;show HS g h9 (_::aa 245 1 (r.length+1) v' _::_);rw[← e];have fw:=dz.I (a:=b) (w:=w1) (fv:=v6) (x:=(vN y.1 x.1,y.2++x.2)) (R:=qk q [.int .i64 (most:Int),v']::aa 245 1 (ps.length+1) v' (yd (b::ps))::(List.zipWith dz ps r++R))
   (by rw[List.map_append,List.length_append];exact H9.pk [3,0,2,4,4] 4)
  exact fw.pk [1,1] 0
theorem M4:∀(lv:List bM) (out:List Cl),(lv.foldl (λout x=>vN x.1 out) out).length≤out.length+gZ lv:=by
 intro lv
 induction lv with
 |nil=>simp
 |cons x r ih=>intro out;have h1:=ih (vN x.1 out);have h2:=MY (cs:=out) (l:=x.1);rw[List.foldl_cons,xh];omega
theorem Ow:∀(lv:List bM) (out:List Cl),ry out→(∀x∈lv,ry x.1)→ry (lv.foldl (λout x=>vN x.1 out) out):=by
 intro lv
 induction lv with
 |nil=>simp
 |cons x r ih=>intro out h hx;exact ih _ ((hx x (iK ..)).oR h) λy hy=>hx y (iX _ hy)
theorem qj0 (l1 l2:List bM):gZ (l1++l2)=gZ l1+gZ l2:=by simp[gZ]
theorem qqc (hn:9≤n) {lv:List bM} (H:HS g h (cy q most lv::R)) (O:fT most lv) :
  aH n 145 [.ptr q 0] h λv h'=>HS g h' (aa 177 2 (jk lv).length v ((jk lv).flatMap jn)::cy q most lv::R):=by
 (refine qA (g:=W145) rfl omQ λk hk=>?_;show wp (S145 (callT tab qj k) _ _) _;unfold S145;try simp only[iI,uU,iZ])
 obtain⟨v,ps,e,H⟩:=cy.E H;have hd:=O.deep;have hle:=O.le;have hhe:=O.held;refine GX (H.ap (e:=177) (sz:=2)) ⟨rfl,rfl⟩ λb1 h1 H=>?_;refine qG (qQ (qK ‹_› e_2 rfl ?_));refine qW (VX omQ (H.one e_3) H) ?_;rintro _ h4 ⟨b4,rfl,H⟩;have H5:=(H.mO .lT).mO (.loop .ready none 145 [1,1,0,1,0] [3] [.ptr b1 0] h4.nx);generalize(h4.new .lT).nx=l at H5 ⊢;generalize h4.nx=d at H5 ⊢;obtain⟨k2,rfl⟩:∃k2,k=k2+1:=⟨k-1,by omega⟩
 refine qXT (qWI (b0:=b4) (v:=v) (ps:=ps)
  (Inv:=λi h'=>∃ov,HS g h' (Qe l (.loop .ready none 145 [1,1,0,1,0] [3] [.ptr b1 0] d)::Qe d .lT::qk b4 [v]::qk b1 [ov]::aa 177 2 (jk (lv.take i)).length ov ((jk (lv.take i)).flatMap jn)::
   qk q [.int .i64 (most:Int),v]::aa 245 1 lv.length v (yd ps)::(List.zipWith dz ps lv++R)))
  (Fin:=λ_=>False) ?_ ?_ omQ ⟨.ap,H5⟩) ?_
 ·rintro i h' ⟨ov,H⟩;obtain⟨et,A⟩:=H.obj (b:=b4) e_2;exact⟨A.at 0,e▸H.sl e_6⟩
 ·rintro i a h' ha ⟨ov,H⟩;have hi:=(List.getElem?_eq_some_iff.1 ha).1;have hx:lv[i]? =some (lv[i]'omQ):=iW _;have hm:lv[i]'omQ∈lv:=List.getElem_mem _;generalize lv[i]'omQ=x at hx hm;have uu:=O.len hm;have Ft:=O.ins x hm;have Sm:=O.un x hm;have oe:(jk (lv.take i)).length+x.1.length≤96:=by
   have h1:=M4 (lv.take i) [];have h2:gZ lv=gZ (lv.take i)+(x.1.length+gZ (lv.drop (i+1))):=by
    rw[← xh,← qj0]
    congr 1
    have h3:lv.drop i=x::lv.drop (i+1):=by
     have mq:i<lv.length:=by omega
     rw[List.drop_eq_getElem_cons mq];grind
    grind[List.take_append_drop]
   grind[jk]
  have hmi:ry (jk (lv.take i)):=Ow _ _ (λc hc=>by grind) λy hy=>O.ins y (List.mem_of_mem_take hy);have Ea:jk (lv.take (i+1))=vN x.1 (jk (lv.take i)):=by simp_all[jk,List.take_add_one,Option.toList_some,List.foldl_append]
  refine qXN (H.bG .here) rfl omQ λk3 Li=>?_;show wp (B0 _ _ _ (.int .i64 ((ps.length-1-i:Nat):Int)) _ _) _;unfold B0
  try simp only[iI,iZ]
  refine qZo H .here λh6 H=>?_;refine qW (Sk omQ omQ H) ?_;rintro _ h7 ⟨w0,rfl,H⟩;obtain⟨T,s⟩:=Vr ha hx;obtain⟨w,fv,H7⟩:=dz.E (H.aM (.there (.there (.there (.there (.there (.there (.there (.there s)))))))));refine qG (qQ (qK ‹_› .here rfl ?_));refine qW (Ks omQ (H7.aM e_1) omQ) λva h8 H8=>?_;refine qW (KS omQ (H8.aM e_4) (.own .here) aW omQ) ?_;rintro _ h9 ⟨_,H9⟩;have ht:QM 96 [] x.1=(0,x.1):=by unfold QM;rw[Kc Ft (by grind),ZV Sm,iJ rfl]
  rw[ht]at H9;dsimp only at H9;refine qK ‹_› e_8 rfl ?_;have Fu:QM 96 x.1 (jk (lv.take i))=(0,vN x.1 (jk (lv.take i))):=by unfold QM;rw[Kc hmi omQ,iJ rfl]
  have S2:Rd g _ 2 (jk (lv.take i)).length ov ((jk (lv.take i)).flatMap jn):=H9.drop.rd e_8
  refine qW (KS omQ H9 S2 omQ omQ) ?_;rintro _ eM ⟨_,fw⟩;rw[Fu]at fw;dsimp only at fw;have pf:=MY (cs:=jk (lv.take i)) (l:=x.1);refine qW (Ks omQ fw omQ) λvb dO mA=>?_;refine qw mA e_9 (mA.one .here) aW λmP cw=>qW9 cw e_7 λh13 Di=>.inl ⟨rfl,vb,?_⟩;rw[Ea]
  have H14:=dz.I (a:=a) (w:=w) (fv:=fv) (x:=x) (R:=Qe l (.loop .ready none 145 [1,1,0,1,0] [3] [.ptr b1 0] d)::Qe d .lT::qk b4 [v]::qk b1 [vb]::
   aa 177 2 (vN x.1 (jk (lv.take i))).length vb ((vN x.1 (jk (lv.take i))).flatMap jn)::qk q [.int .i64 (most:Int),v]::aa 245 1 lv.length v (yd ps)::T) (Di.pk [6,5,5,0,4,4,0,0,3,3] 3)
  exact HS.cG (.there (.there (.there (.there (.there (.there (.there s))))))) H14
 ·rintro _ h6 (⟨ov,H⟩ |hF)
  ·rw[List.take_of_length_le omQ]at H;refine RI H .here (λh=>by grind) λh7 H=>qZl<|qK ‹_› e_3 rfl<|UU H e_1 λeM H=>qY ?_
   exact(cy.I (v:=v) (ps:=ps) e (HS.back (A:=_::_::List.zipWith dz ps lv) (H.sub (L':=aa 177 2 (jk lv).length ov ((jk lv).flatMap jn)::qk q [.int .i64 (most:Int),v]::
    aa 245 1 lv.length v (yd ps)::(List.zipWith dz ps lv++R)) (.cons e_4 (.cons e_4 (.cons e_4 (.drop (.drop (.drop (.drop (.refl))))))))))).pk [1] 0
  ·exact hF.elim
end
section
variable {g h:AH} {L R:List SP}
structure VM where
  sz:Nat
  K:List Cl
  most:Nat
  lv:List bM
  aC:Int
structure dT (M:VM):Prop where
  lo:32≤M.sz
  hi:M.sz≤256
  lm:fT M.most M.lv
  ins:∀c∈M.K,1≤c.1∧c.1<M.sz
  un:l6 M.K
  fr:∀x∈M.lv,x.2.length<100000
def xz (M:VM) (p x:Int):Int×VM :=
 if 1≤p∧p<M.sz then match zk p M.K with
  |some y=>(if y=x then 0 else 14,M)
  |none=>(0,{ M with K:=M.K++[(p,x)] })
 else(2,M)
def qs (M:VM) (p:Int):(Int×Int)×VM :=
 if 1≤p∧p<M.sz then match UQ p M.lv with
  |some x=>((x,0),M)
  |none=>match zk p M.K with
   |some x=>((x,0),M)
   |none=>((0,11),{ M with aC:=p })
 else((0,2),M)
def zf (M:VM) (cs:List Cl):Int×VM :=
 if∀c∈cs,1≤c.1∧c.1<M.sz then((wV M.most M.lv M.lv cs).1,{ M with lv:=(wV M.most M.lv M.lv cs).2 })else(2,M)
def fU (M:VM) (b:Int):VM:={ M with lv:=YN M.lv b }
def gG (M:VM):Int×VM:=((JF M.lv).1,{ M with lv:=(JF M.lv).2 })
def yA (M:VM):Int×VM:=((JE M.lv).1,{ M with lv:=(JE M.lv).2 })
def gi (M:VM):Int×VM:=((Xx M.lv).1,{ M with lv:=(Xx M.lv).2 })
theorem Ke:∀(n:Nat) (l:List Int),l.Nodup→(∀x∈l,0≤x∧x<n)→l.length≤n:=by
 intro n
 induction n with
 |zero=>
  intro l _ h;cases l with
  |nil=>simp
  |cons x l=>simp_all;omega
 |succ n ih=>
  intro l hd h;by_cases hx:(n:Int)∈l
  ·have:=ih (l.erase n) (hd.erase _) (λx rJ=>by
    grind)
   grind
  grind
theorem dT.B6 {M:VM} (O:dT M):M.K.length≤256:=by
 have hu:(M.K.map (·.1)).Nodup:=O.un
 have:=Ke M.sz _ hu (λx hx=>by
  obtain⟨c,hc,rfl⟩:=List.mem_map.1 hx;have:=O.ins c hc
  omega)
 rw[List.length_map]at this;have:=O.hi;omega
def J6 (f:Int×Bool):List AV:=[.int .u64 f.1,.bool f.2]
def wo (K:List Cl) (i:Nat):Int×Bool:=match zk (i:Int) K with |some x=>(x,true) |none=>(0,false)
def vS (sz:Nat) (K:List Cl):List (Int×Bool):=(List.range sz).map (wo K)
theorem X6 (sz:Nat) (K:List Cl):(vS sz K).length=sz:=by simp[vS]
theorem JI {K:List Cl} (hi:i<sz):(vS sz K)[i]? =some (wo K i):=by grind[vS,List.getElem?_range]
theorem vP {enc:α→List AV} (he:∀a,(enc a).length=sz) {l:List α} {a:α} (h:l[i]? =some a):((l.flatMap enc).drop (i*sz)).take sz=enc a:=by obtain⟨hi,e⟩:=List.getElem?_eq_some_iff.1 h;simp_all[Y4,List.drop_eq_getElem_cons,List.flatMap_cons]
theorem Z8 {enc:α→List AV} (he:∀a,(enc a).length=sz) {l:List α} {a:α} (hi:i<l.length):Jz (l.flatMap enc) (i*sz) (enc a)=(l.set i a).flatMap enc:=by
 have h1:(l.flatMap enc).take (i*sz)=(l.take i).flatMap enc:=by
  have e1:l.flatMap enc=(l.take i).flatMap enc++(l.drop i).flatMap enc:=by rw[← List.flatMap_append,List.take_append_drop]
  have e2:((l.take i).flatMap enc).length=i*sz:=by rw[Kn enc he,List.length_take,Nat.min_eq_left omQ]
  grind
 have h2:(l.flatMap enc).drop (i*sz+sz)=(l.drop (i+1)).flatMap enc:=by rw[show i*sz+sz=(i+1)*sz by grind,Y4 enc he]
 simp_all[Jz,List.set_eq_take_append_cons_drop,List.flatMap_append,List.flatMap_cons]
theorem qjh {enc:α→List AV} {a:α}:∀n,gH (enc a) n=(List.replicate n a).flatMap enc:=by
 intro n
 induction n with
 |zero=>rfl
 |succ n ih=>rw[gH,ih,List.replicate_succ,List.flatMap_cons]
theorem qGb (sz:Nat):vS sz []=List.replicate sz (0,false):=by unfold vS;rw[show wo []=λ_=>((0,false):Int×Bool)from rfl,List.map_const',List.length_range]
theorem qG1 {K:List Cl} (hi:i<sz) (hn:zk (i:Int) K=none):vS sz (K++[((i:Int),x)])=(vS sz K).set i (x,true):=by
 have e:∀j:Nat,zk (j:Int) (K++[((i:Int),x)])=if j=i then some x else zk (j:Int) K:=by
  intro j;rw[← GK hn,qZR];grind
 apply List.ext_getElem?;intro j;rw[List.getElem?_set,X6];by_cases hj:j<sz
 ·rw[JI hj];by_cases h:i=j
  ·subst h;rw[iJ rfl,iJ hi];unfold wo;grind
  ·rw[iQ h,JI hj];unfold wo;grind
 simp_all[X6,iQ,omQ]
def aj (v:Nat) (M:VM):SP:=.ex λfv=>.ex λov=>.ex λq=>.ex λe=>.all [qk v [fv,ov,.ptr q 0,.int .i64 M.aC],aa e 2 M.sz fv ((vS M.sz M.K).flatMap J6),
 aa 3 1 M.K.length ov (M.K.map λc=>.int .i64 c.1),cy q M.most M.lv]
theorem aj.E {M:VM} (H:HS g h (aj v M::R)):∃fv ov q e,HS g h (qk v [fv,ov,.ptr q 0,.int .i64 M.aC]::aa e 2 M.sz fv ((vS M.sz M.K).flatMap J6)::
  aa 3 1 M.K.length ov (M.K.map λc=>.int .i64 c.1)::cy q M.most M.lv::R):=by
 obtain⟨fv,H⟩:=H.fh;obtain⟨ov,H⟩:=H.fh;obtain⟨q,H⟩:=H.fh;obtain⟨e,H⟩:=H.fh;exact⟨fv,ov,q,e,H.cI⟩
theorem aj.I {M:VM} {fv ov:AV} (H:HS g h (qk v [fv,ov,.ptr q 0,.int .i64 M.aC]::aa e 2 M.sz fv ((vS M.sz M.K).flatMap J6)::
  aa 3 1 M.K.length ov (M.K.map λc=>.int .i64 c.1)::cy q M.most M.lv::R)):HS g h (aj v M::R) :=
 HS.fH fv (HS.fH ov (HS.fH q (HS.fH e (HS.allI H))))
def fV (n:Int):Nat:=(max 32 (min n 256)).toNat
theorem Fv (n:Int):32≤fV n∧fV n≤256:=by grind[fV]
def uP (words most:Int):VM:=⟨fV words,[],(max 0 (min most 96)).toNat,[([],[])],0⟩
theorem qYf (hm:m≤96):fT m [([],[])]:=⟨by simp[gZ],hm,by intro x hx;simp at hx;subst hx;nofun,by intro x hx;simp at hx;subst hx;exact List.nodup_nil,by simp,by simp⟩
theorem jQi (words most:Int):dT (uP words most) :=
 ⟨(Fv _).1,(Fv _).2,qYf (by show(max 0 (min most 96)).toNat≤96;omega),by nofun,List.nodup_nil,by simp[uP]⟩
theorem jXI (hn:4≤n) {w m:Int} (H:HS g h R):aH n 134 [.int .i64 w,.int .i64 m] h λr h'=>∃v,r=.ptr v 0∧HS g h' (aj v (uP w m)::R):=by
 refine bw rfl omQ λk hk=>?_;unfold S134;try simp only[iZ]
 refine zi (xR ?_);have hb:=Fv w;rw[show max ((32:Nat):Int) (min w ((256:Nat):Int))=((fV w:Nat):Int) by grind[fV]];refine Km H rfl (Nat.le_refl _) omQ λfv h2 H2=>?_;refine qW (jQ4 omQ H2) ?_;rintro _ h3 ⟨q,rfl,H3⟩;have h1:=H3.one e_1;refine qI (by unfold vL;rw[h1.1];rfl)<|qM H3 (by show(fv.one&&(true&&(true&&(true&&true))))=true;rw[h1.2];rfl) λv h4 H4=>qY ⟨v,rfl,?_⟩;rw[List.take_of_length_le (by simp[Qg]),show gH [AV.int .u64 ((0:Nat):Int),AV.bool false] (fV w)=(vS (fV w) []).flatMap J6 by rw[qGb,← qjh];rfl]at H4;exact aj.I ((H4.ap).pk [1,2,0,0] 0)
theorem Mo (hn:1≤n) {M:VM} (H:HS g h (aj v M::R)):aH n 199 [.ptr v 0] h λr h'=>r=.int .i64 (M.sz:Int)∧h'=h:=by
 refine aG rfl omQ λk hk=>?_;unfold S199;try simp only
 obtain⟨fv,ov,q,e,H⟩:=aj.E H;refine qG (qQ (qK ‹_› .here rfl ?_));refine qu ‹_› e_1<|qY ⟨rfl,rfl⟩
theorem Lj (hn:1≤n) {M:VM} (H:HS g h (aj v M::R)):aH n 201 [.ptr v 0,.int .i64 p] h λr h'=>r=.bool (decide (1≤p∧p<M.sz))∧h'=h:=by
 refine bw rfl omQ λk hk=>?_;unfold S201;try simp only[iZ]
 obtain⟨fv,ov,q,e,H⟩:=aj.E H;by_cases h1:1≤p
 ·refine z8 omQ<|qX<|qb<|qG (qQ (qK ‹_› .here rfl ?_));refine qu ‹_› e_1 ?_
  refine JQ (qB (qY ⟨?_,rfl⟩))
  grind
 ·refine z7 omQ<|qX<|qS<|qH ?_
  exact qY ⟨by grind,rfl⟩
theorem qKa {M:VM} (O:dT M):dT (xz M p x).2:=by
 unfold xz
 split
 ·rename_i hp
  split
  ·grind
  ·rename_i hn;refine⟨O.lo,O.hi,O.lm,?_,?_,O.fr⟩
   ·intro c hc;rcases List.mem_append.1 hc with hc |hc
    ·exact O.ins c hc
    grind
   ·have:=O.un.put (p:=p) (v:=x);grind[GK]
 grind
theorem qga (hn:2≤n) {M:VM} (H:HS g h (aj v M::R)) (O:dT M) :
  aH n 180 [.ptr v 0,.int .i64 p,.int .u64 x] h λr h'=>r=.int .i64 (xz M p x).1∧HS g h' (aj v (xz M p x).2::R):=by
 refine cY rfl omQ λk hk=>?_;unfold S180;try simp only[iZ]
 refine qW (Lj omQ H) ?_;rintro _ _ ⟨rfl,rfl⟩;unfold xz;by_cases hp:1≤p∧p<M.sz
 ·rw[iJ hp,iG hp];obtain⟨i,rfl⟩:∃i:Nat,p=(i:Int):=⟨p.toNat,by omega⟩;have hi:i<M.sz:=by omega
  obtain⟨fv,ov,q,e,H⟩:=aj.E H;refine jR (qJ (qG (qQ (qK ‹_› .here rfl ?_))));refine xQ (H.sl e_1) hi omQ (vP (sz:=2) (λ_=>rfl) (JI hi))<|qM H rfl λb h3 H3=>qe H3 .here rfl (by simp) rfl λh4 H4=>?_
  have H5:HS g h4 (qk b (J6 (wo M.K i))::qk v [fv,ov,.ptr q 0,.int .i64 M.aC]::aa e 2 M.sz fv ((vS M.sz M.K).flatMap J6)::
   aa 3 1 M.K.length ov (M.K.map λc=>.int .i64 c.1)::cy q M.most M.lv::R):=H4
  unfold J6 at H5;cases hg:zk (i:Int) M.K with
  |some y=>
   rw[show wo M.K i=(y,true) by grind[wo]]at H5;refine qQ (qK ‹_› .here rfl ?_);refine qZ (qQ (qK ‹_› .here rfl ?_));have H6:=aj.I (H5.drop);by_cases hy:y=x
   ·refine jB omQ<|qJ (qY ⟨by grind,H6⟩)
   ·refine jg omQ<|qZ (qY ⟨by grind,H6⟩)
  |none=>
   rw[show wo M.K i=(0,false) by grind[wo]]at H5;have l7:=O.B6;refine qQ (qK ‹_› .here rfl ?_);refine qJ (qG (qQ (qK ‹_› e_1 rfl ?_)));refine qI rfl<|RG (l:=[.int .u64 x,.bool true]) (H5.drop.aM (P:=aa e 2 M.sz fv ((vS M.sz M.K).flatMap J6)) e_1) hi rfl rfl λh6 H6=>?_
   rw[show Jz ((vS M.sz M.K).flatMap J6) (i*2) [AV.int .u64 x,AV.bool true]=(vS M.sz (M.K++[((i:Int),x)])).flatMap J6 by
    rw[qG1 hi hg,← Z8 (enc:=J6) (sz:=2) (λ_=>rfl) (by grind[X6])];rfl]at H6
   refine qG (qQ (qK ‹_› e_1 rfl ?_));refine qh (n:=1) (l:=[.int .i64 (i:Int)]) (sz:=1) H6 rfl rfl rfl rfl λv7 h7 H7=>?_;refine zX (H7.aM (P:=aa 3 1 M.K.length ov (M.K.map λc=>.int .i64 c.1)) e_3) (H7.sl .here) omQ omQ rfl λv8 h8 H8=>?_;refine qG (qQ (qw H8 e_3 (H8.one .here) aW λh9 H9=>qY ⟨rfl,aj.I (M:={ M with K:=M.K++[((i:Int),x)] }) (fv:=fv) (ov:=v8) (q:=q) (e:=e) ?_⟩));rw[List.map_append,List.length_append];exact H9.pk [0,2,0,1] 1
 ·rw[iQ hp,iV hp];refine je (qZ ?_);exact qY ⟨rfl,H⟩
theorem yT {M:VM} (O:dT M):dT (qs M p).2:=by
 unfold qs
 repeat' split
 all_goals exact⟨O.lo,O.hi,O.lm,O.ins,O.un,O.fr⟩
theorem XH (hn:9≤n) {M:VM} (H:HS g h (aj v M::R)) (O:dT M) :
  aH n 168 [.ptr v 0,.int .i64 p] h λr h'=>r=.cn [.int .u64 (qs M p).1.1,.int .i64 (qs M p).1.2]∧HS g h' (aj v (qs M p).2::R):=by
 refine bw rfl omQ λk hk=>?_;unfold S168;try simp only[iZ]
 refine qW (Lj omQ H) ?_;rintro _ _ ⟨rfl,rfl⟩;unfold qs;by_cases hp:1≤p∧p<M.sz
 ·rw[iJ hp,iG hp];obtain⟨i,rfl⟩:∃i:Nat,p=(i:Int):=⟨p.toNat,by omega⟩;have hi:i<M.sz:=by omega
  obtain⟨fv,ov,q,e,H⟩:=aj.E H;refine jR (qJ (qG (qQ (qK ‹_› .here rfl ?_))));refine qW (jJu omQ (H.aM e_3) O.lm) ?_;rintro _ h2 ⟨rfl,H2⟩;refine qy rfl<|qy rfl ?_;cases hl:UQ (i:Int) M.lv with
  |some y=>simp;refine qZ<|qY ⟨rfl,aj.I (H2.pk [1,1,1] 0)⟩
  |none=>
   simp;refine qJ (qG (qQ (qK ‹_› e_1 rfl ?_)));refine xQ (H2.sl e_2) hi omQ (vP (sz:=2) (λ_=>rfl) (JI hi))<|qM H2 rfl λb h3 H3=>qe H3 .here rfl (by simp) rfl λh4 H4=>?_
   have H5:HS g h4 (qk b (J6 (wo M.K i))::cy q M.most M.lv::qk v [fv,ov,.ptr q 0,.int .i64 M.aC]::aa e 2 M.sz fv ((vS M.sz M.K).flatMap J6)::
    aa 3 1 M.K.length ov (M.K.map λc=>.int .i64 c.1)::R):=H4
   unfold J6 at H5;cases hg:zk (i:Int) M.K with
   |some y=>rw[show wo M.K i=(y,true) by grind[wo]]at H5;refine qQ (qK ‹_› .here rfl ?_);refine qZ (qQ (qK ‹_› .here rfl ?_));exact qY ⟨rfl,aj.I (H5.drop.pk [1,1,1] 0)⟩
   |none=>rw[show wo M.K i=(0,false) by grind[wo]]at H5;refine qQ (qK ‹_› .here rfl ?_);refine qJ (qG (qQ ?_));refine qw H5 e_2 ⟨rfl,rfl⟩ aW λh9 H9=>qY ⟨rfl,aj.I (fv:=fv) (ov:=ov) (H9.pk [0,2,2,1] 1)⟩
 ·rw[iQ hp,iV hp];refine je (qZ ?_);exact qY ⟨rfl,H⟩
theorem jJc {lv:List bM} {v:Int} (h:∀x∈lv,x.2.length<n):∀x∈(wM most lv p v).2,x.2.length<n:=by
 cases lv with
 |nil=>nofun
 |cons y r=>
  obtain⟨c,hc⟩:=Uo (most:=most) (x:=y) (r:=r) (p:=p) (v:=v);grind
theorem qkf {aw:List bM} (hw:∀x∈aw,x.2.length<n):∀{cs:List Cl} {lv:List bM},(∀x∈lv,x.2.length<n)→∀x∈(wV most aw lv cs).2,x.2.length<n:=by
 intro cs
 induction cs with
 |nil=>intro lv h;exact h
 |cons c cs ih=>
  intro lv h;rw[wP]
  split
  ·exact ih (jJc h)
  grind
theorem qZB {M:VM} {cs:List Cl} (O:dT M):dT (zf M cs).2:=by
 unfold zf
 split
 ·exact⟨O.lo,O.hi,(qZm O.lm O.lm rfl).1,O.ins,O.un,qkf O.fr O.fr⟩
 grind
theorem Uw (hn:8≤n) {M:VM} {cs:List Cl} (H:HS g h (aj v M::R)) (O:dT M) (S:Rd g R 2 cs.length c (cs.flatMap jn)) (hc:cs.length<100000) :
  aH n 170 [.ptr v 0,c] h λr h'=>r=.int .i64 (zf M cs).1∧HS g h' (aj v (zf M cs).2::R):=by
 refine bw rfl omQ λk hk=>?_;unfold S170;try simp only[iZ]
 refine yy (S.sl H.drop)<|jS (λk s h'=>∃i:Nat,s=(.int .i64 (i:Int),.int .i64 (cs.length:Int),c,c,.ptr v 0,())∧i≤cs.length∧k=cs.length-i∧HS g h' (aj v M::R)∧∀j,j<i→∀d,cs[j]? =some d→1≤d.1∧d.1<M.sz)
  ?_ (m:=cs.length) (by grind) ⟨0,rfl,by omega,by rfl,H,λj hj=>by omega⟩
 rintro k2 ih s h2 bN ⟨i,rfl,h1,rfl,H,bQ⟩;refine xp (λax=>qZ ?_) λeY=>qJ ?_
 ·have hi:i<cs.length:=by omega
  have tY:cs[i]? =some cs[i]:=iW hi;refine xQ (S.sl H.drop) hi omQ (UO tY)<|qM H rfl λb h3 H3=>qe H3 .here rfl (by simp) rfl λh4 H4=>?_;have H5:HS g h4 (qk b (jn cs[i])::aj v M::R):=H4;unfold jn at H5;refine qQ (qK ‹_› .here rfl ?_);refine qW (Lj omQ H5.drop) ?_;rintro _ _ ⟨rfl,rfl⟩;by_cases dY:1≤cs[i].1∧cs[i].1<M.sz
  ·rw[iG dY];refine jR (qJ (qa omQ ?_));refine bN (cs.length-(i+1)) _ _ omQ ⟨i+1,rfl,by omega,rfl,H5.drop,λj hj d hd=>?_⟩;grind
  ·rw[iV dY];refine je (qZ (qx ?_));unfold zf;rw[iQ (λh=>dY (h _ (List.getElem_mem hi)))];exact qY ⟨rfl,H5.drop⟩
 ·have cX:∀d∈cs,1≤d.1∧d.1<M.sz:=by
   grind[List.getElem?_of_mem,List.getElem?_eq_some_iff]
  obtain⟨fv,ov,q,e,H⟩:=aj.E H;refine qG (qQ (qK ‹_› .here rfl ?_));refine qW (qvh omQ (H.aM e_3) O.lm (S.more.more.more) hc) ?_;rintro _ h4 ⟨rfl,H4⟩;unfold zf;rw[iJ cX];exact qx (qY ⟨rfl,aj.I (fv:=fv) (ov:=ov) (H4.pk [1,1,1] 0)⟩)
theorem qvR (hn:4≤n) {M:VM} (H:HS g h (aj v M::R)) (O:dT M) :
  aH n 302 [.ptr v 0] h λr h'=>r=.int .i64 (gG M).1∧HS g h' (aj v (gG M).2::R):=by
 refine aG rfl omQ λk hk=>?_;unfold S302;try simp only
 obtain⟨fv,ov,q,e,H⟩:=aj.E H;refine qG (qQ (qK ‹_› .here rfl ?_));refine qW (qv7 omQ (H.aM e_3) O.lm) ?_;rintro _ h2 ⟨rfl,H2⟩;exact qY ⟨rfl,aj.I (fv:=fv) (ov:=ov) (H2.pk [1,1,1,0] 0)⟩
theorem qJc (hn:2≤n) {M:VM} (H:HS g h (aj v M::R)) (O:dT M) :
  aH n 238 [.ptr v 0] h λr h'=>r=.int .i64 (yA M).1∧HS g h' (aj v (yA M).2::R):=by
 refine aG rfl omQ λk hk=>?_;unfold S238;try simp only
 obtain⟨fv,ov,q,e,H⟩:=aj.E H;refine qG (qQ (qK ‹_› .here rfl ?_));refine qW (qZT omQ (H.aM e_3) O.lm) ?_;rintro _ h2 ⟨rfl,H2⟩;exact qY ⟨rfl,aj.I (fv:=fv) (ov:=ov) (H2.pk [1,1,1,0] 0)⟩
theorem qKM (hn:7≤n) {M:VM} (H:HS g h (aj v M::R)) (O:dT M) :
  aH n 236 [.ptr v 0] h λr h'=>r=.int .i64 (gi M).1∧HS g h' (aj v (gi M).2::R):=by
 refine aG rfl omQ λk hk=>?_;unfold S236;try simp only
 obtain⟨fv,ov,q,e,H⟩:=aj.E H;refine qG (qQ (qK ‹_› .here rfl ?_));refine qW (qg6 omQ (H.aM e_3) O.lm λx hx=>Nat.lt_trans (O.fr x hx) omQ) ?_;rintro _ h2 ⟨rfl,H2⟩;exact qY ⟨rfl,aj.I (fv:=fv) (ov:=ov) (H2.pk [1,1,1,0] 0)⟩
theorem qvA (hn:3≤n) {M:VM} (H:HS g h (aj v M::R)) (O:dT M) :
  aH n 301 [.ptr v 0,.int .i64 b] h λ_ h'=>HS g h' (aj v (fU M b)::R):=by
 refine bw rfl omQ λk hk=>?_;unfold S301;try simp only
 obtain⟨fv,ov,q,e,H⟩:=aj.E H;refine qG (qQ (qK ‹_› .here rfl ?_));refine qW (qxT omQ (H.aM e_3) O.lm λx hx=>Nat.lt_trans (O.fr x hx) omQ) ?_;intro _ h2 H2;exact qY (aj.I (fv:=fv) (ov:=ov) (H2.pk [1,1,1,0] 0))
theorem Nh (hn:1≤n) {M:VM} (H:HS g h (aj v M::R)) :
  aH n 117 [.ptr v 0] h λr h'=>r=.int .i64 M.aC∧h'=h:=by
 refine aG rfl omQ λk hk=>?_;unfold S117;try simp only
 obtain⟨fv,ov,q,e,H⟩:=aj.E H;refine qG (qQ (qK ‹_› .here rfl ?_));exact qY ⟨rfl,rfl⟩
theorem O7 (hn:10≤n) {M:VM} (H:HS g h (aj v M::R)) (O:dT M) :
  aH n 119 [.ptr v 0] h λr h'=>HS g h' (aa 177 2 (jk M.lv).length r ((jk M.lv).flatMap jn)::aj v M::R):=by
 refine aG rfl omQ λk hk=>?_;unfold S119;try simp only
 obtain⟨fv,ov,q,e,H⟩:=aj.E H;refine qG (qQ (qK ‹_› .here rfl ?_));refine qW (qqc omQ (H.aM e_3) O.lm) ?_;intro r h2 H2;refine qY ?_;have H3:=aj.I (v:=v) (M:=M) (fv:=fv) (ov:=ov) (q:=q) (e:=e) (R:=aa 177 2 (jk M.lv).length r ((jk M.lv).flatMap jn)::R) (H2.sub (.cons e_2 (.cons e_2 (.cons e_2 (.cons e_1 (.refl))))));exact H3.pk [1] 0
theorem qzr:∀{l:List bM},(∀x∈l,x.2.length<n)→(l.flatMap (·.2)).length≤l.length*n:=by
 intro l h
 induction l with
 |nil=>simp
 |cons x r ih=>have h1:=h x (iK ..);have h2:=ih λy hy=>h y (iX _ hy);rw[List.flatMap_cons,List.length_append,List.length_cons,Nat.add_mul,Nat.one_mul];omega
theorem qVm {lv:List bM} (h:∀x∈lv,x.2.length<n):(wN lv).length≤lv.length*n:=by have:=qzr λx hx=>h x (List.mem_reverse.1 hx);rw[List.length_reverse]at this;trivial
theorem qqs (hn:2≤n) {M:VM} (H:HS g h (aj v M::R)) (O:dT M) :
  aH n 127 [.ptr v 0] h λr h'=>HS g h' (aa 3 1 (wN M.lv).length r ((wN M.lv).map (.int .i64))::aj v M::R):=by
 refine aG rfl omQ λk hk=>?_;unfold S127;try simp only
 obtain⟨fv,ov,q,e,H⟩:=aj.E H;refine qG (qQ (qK ‹_› .here rfl ?_));have Lk:=qVm O.fr;have hd:=O.lm.deep;refine qW (qzp omQ (H.aM e_3) O.lm omQ) ?_;intro r h2 H2;refine qY ?_;have H3:=aj.I (v:=v) (M:=M) (fv:=fv) (ov:=ov) (q:=q) (e:=e) (R:=aa 3 1 (wN M.lv).length r ((wN M.lv).map (.int .i64))::R) (H2.sub (.cons e_2 (.cons e_2 (.cons e_2 (.cons e_1 (.refl))))));exact H3.pk [1] 0
def Jw (zs:List Int) (i:Nat):Int:=zs[i]?.getD 0
def kW (zs:List Int):List Cl:=(List.range (fV zs.length-1)).map λi=>(((i+1:Nat):Int),Jw zs (i+1))
def QU (zs:List Int) (most:Int):VM:=⟨fV zs.length,kW zs,(max 0 (min most 96)).toNat,[([],[])],0⟩
end
section
abbrev qR:Type:=Int×Int×Int×Int×Int
def jM (x:qR):List AV:=[.int .i64 x.1,.int .i64 x.2.1,.int .i64 x.2.2.1,.int .i64 x.2.2.2.1,.int .u64 x.2.2.2.2]
theorem VY (l:List qR):qt (l.flatMap jM)=true:=by unfold qt;rw[List.all_eq_true];intro v hv;obtain⟨c,_,hc⟩:=List.mem_flatMap.1 hv;simp[jM]at hc;rcases hc with rfl |rfl |rfl |rfl |rfl<;>rfl
def zJ (op:Int):(Int×Int)×(Int×Int)×(Int×Int) :=
 if op=1∨op=11∨op=21 then((0,7),(0,0),(0,0))
 else if op=2∨op=10 then((0,7),(0,7),(0,0))
 else if op=3∨op=4∨op=5∨op=6∨op=7 then((0,7),(0,7),(0,7))
 else if op=8∨op=9 then((0,7),(0,7),(0,15))
 else if op=12 then((0,0),(0,0),(0,40))
 else if op=13 then((0,7),(0,0),(0,40))
 else if op=23 then((1,12),(0,7),(0,6))
 else((0,0),(0,0),(0,0))
def wW (f:Int×Int) (n:Int):Bool:=decide (f.1≤n∧n≤f.2)
def wq (x:qR):Bool:=decide (1≤x.1∧x.1≤23)&&wW (zJ x.1).1 x.2.1&&wW (zJ x.1).2.1 x.2.2.1&&wW (zJ x.1).2.2 x.2.2.2.1&&decide (x.2.2.2.2=0∨x.1=1)
def xf (op:Int):Bool:=decide (op=14∨op=17)
def zA (op:Int):Int:=if op=15 then 14 else if op=18 then 17 else if op=19 then 18 else 0
def jq (st:List Int):Int:=st.getLast?.getD (-1)
def qO (l:List qR) (i:Int):qR:=(l[i.toNat]?).getD (0,0,0,0,0)
def cU (l:List qR) (st:List Int):Int:=if st=[]then 0 else(qO l (jq st)).1
def xW (l:List qR) (st:List Int) (x:qR):Int :=
 if wq x=false then 8
 else if 0<zA x.1∧cU l st≠zA x.1 then 12
 else if x.1=16∧cU l st≠14 then 12
 else if xf x.1=true∧5≤st.length then 9
 else 0
def jE (st:List Int) (i op:Int):List Int :=
 if xf op=true∨op=18 then(if 0<zA op then st.dropLast else st)++[i]else(if 0<zA op then st.dropLast else st)
def mB (l:List qR):List qR→Nat→List Int→(Int×Int) ⊕ List Int
 |[],_,st=>.inr st
 |x::r,i,st=>if xW l st x=0 then mB l r (i+1) (jE st i x.1)else .inl (i,xW l st x)
def gr:List qR→Nat→List Int→List Int
 |[],_,_=>[]
 |x::r,i,st=>jq st::gr r (i+1) (jE st i x.1)
def qg (a:List Int) (i:Int):Int:=(a[i.toNat]?).getD 0
def YE (l:List qR) (a:List Int) (i:Nat) (x:qR):Prop :=
 (x.1=12∨x.1=13)∧((l.length:Int)<x.2.2.2.1∨(x.2.2.2.1=l.length∧qg a i≠ -1)∨(x.2.2.2.1<l.length∧qg a x.2.2.2.1≠qg a i))
instance {l:List qR} {a:List Int} {i:Nat} {x:qR}:Decidable (YE l a i x):=by unfold YE;infer_instance
def YM (l:List qR) (a:List Int):List qR→Nat→Int×Int
 |[],_=>(0,0)
 |x::r,i=>if YE l a i x then((i:Int),2)else YM l a r (i+1)
def xO (l:List qR):Int×Int :=
 if l.length=0∨40<l.length then(0,4)
 else match mB l l 0 []with
  | .inl r=>r
  | .inr st=>if st=[]then YM l (gr l 0 []) l 0 else(jq st,12)
def cL (i:Nat) (st:List Int):Prop:=∀y∈st,0≤y∧y<(i:Int)
theorem cL.nil:cL i []:=λ_ h=>by grind
theorem cL.dropLast {i:Nat} {st:List Int} (h:cL i st):cL i st.dropLast:=λy hy=>h y ((List.dropLast_sublist st).subset hy)
theorem cL.behind (h:cL i st):cL (i+1) (jE st i op):=by
 have h1:∀s,cL i s→cL (i+1) s:=λs hs y hy=>by have:=hs y hy;omega
 have h2:∀s,cL i s→cL (i+1) (s++[(i:Int)]):=by
  intro s hs y hy;rcases List.mem_append.1 hy with hy |hy
  ·exact h1 s hs y hy
  grind
 unfold jE
 repeat' split
 ·exact h2 _ h.dropLast
 ·grind
 ·exact h1 _ h.dropLast
 grind
theorem cL.eP (h:cL i st) (hn:st≠[]):0≤jq st∧jq st<(i:Int):=by refine h _ ?_;grind[jq,List.getLast?_eq_some_getLast,List.getLast_mem]
theorem My (st:List Int) (i op:Int):(jE st i op).length≤st.length+1:=by
 grind[jE]
theorem KW:jq []= -1:=rfl
theorem x9 {l:List qR} {x:qR} (h:xW l st x=0):wq x=true∧(0<zA x.1∨x.1=16→st≠[])∧(xf x.1=true→st.length<5):=by
 unfold xW at h
 split at h
 ·grind
 ·rename_i h1
  split at h
  ·grind
  ·rename_i h2
   split at h
   ·grind
   ·rename_i h3
    split at h
    ·grind
    ·rename_i h4
     refine⟨by grind,?_,λhb=>by
      grind⟩
     rintro ho rfl;have h0:cU l []=0:=rfl;grind
theorem KU {l r:List qR} {x:qR}:mB l (x::r) i st=if xW l st x=0 then mB l r (i+1) (jE st i x.1)else .inl (i,xW l st x):=rfl
theorem MV:∀{r:List qR} {i:Nat} {st:List Int},(gr r i st).length=r.length:=by
 intro r
 induction r with
 |nil=>intro i st;rfl
 |cons x r ih=>grind[gr]
theorem qk6:∀{r:List qR} {i j:Nat} {st:List Int},j<r.length→∃s,(gr r i st)[j]? =some (jq s)∧(∀{l:List qR} {st':List Int},mB l r i st=.inr st'→cL i st→cL (i+j) s∧∀x,r[j]? =some x→xW l s x=0):=by
 intro r
 induction r with
 |nil=>simp
 |cons x r ih=>
  intro i j st h;cases j with
  |zero=>
   refine⟨st,rfl,λ{l st'} hg hs=>⟨hs,?_⟩⟩;grind[KU]
  |succ j=>
   obtain⟨s,h1,h2⟩:=ih (j:=j) (by grind);refine⟨s,h1,λ{l st'} hg hs=>?_⟩;rw[KU]at hg
   split at hg
   ·have:=h2 hg hs.behind;grind
   grind
end
section
variable {g h:AH} {L R:List SP}
theorem Jh {v:AV} (S:Sl D h sz n v xs):One v:=by cases S<;>exact⟨rfl,rfl⟩
theorem gw {v:AV} (o:One v):qt [v]=true:=by simp[qt,o.2]
theorem xG {g' ha:AH} {b off nx:Nat} {ys l:List AV} {L2:List SP} {K0:Go.Ae.R} (H:HS g h L) (s:bp L (qk b xs) R) (hx:(xs.drop off).take n=l) (H2:HS g' ha L2) (s2:bp L2 (qk b ys) R2) (tV:(ys.drop off).take n=l) (hl:l.length=n) (h0:0<n) (ax:b<nx)
  (w:wp K0 Q):wp (Xz (.ptr b off) (some n) (.agg l) h ha nx K0) Q:=by
 obtain⟨e,A⟩:=H.obj s;obtain⟨e2,A2⟩:=H2.obj s2;exact jQa hl h0 (λi hi=>by rw[A.at,← hx,List.getElem?_take_of_lt hi,List.getElem?_drop]) (λi hi=>by rw[A2.at,← tV,List.getElem?_take_of_lt hi,List.getElem?_drop]) ax w
theorem qXt {u x:Bool} {r:AV} (hr:u=true→r=.bool x) (w:wp (K (.bool (u&&x))) Q):wp (QW (.bool u) r (.bool false) K) Q:=by
 cases u
 ·exact w
 ·rw[hr rfl];exact w
end
section
variable {g h:AH} {L R:List SP}
theorem jXU {s:List UInt8} {t:Bool} (ht:Ao .neq s []=some (.bool t)) (w:wp (K (.bool t)) Q):wp (ug .neq (.str s) (.str []) K) Q:=by show wp (ob (Ao .neq s []) K) Q;rw[ht];exact w
theorem Uk (hn:1≤n):aH n 164 [.int .i64 x] h λv h'=>v=.int .i64 (zA x)∧h'=h:=by
 refine aG rfl omQ λk hk=>?_;unfold S164;try simp only[iZ]
 repeat' (first |refine qZ ?_ |refine qJ ?_ |(refine qb ?_;try dsimp only) |(refine jG ?_;try dsimp only) |(refine qS ?_;try dsimp only) |(refine qp ?_;try dsimp only) |(refine ze ?_;try dsimp only) |refine qB ?_ |refine qH ?_ |(with_reducible refine qX ?_;try dsimp only) |refine qx ?_ |refine jR ?_ |refine je ?_ |refine qa omQ ?_ |refine zL omQ ?_ |refine gK omQ ?_ |refine wC omQ ?_ |refine zi ?_ |refine xR ?_ |refine xp (λhc=>?_) (λhc=>?_) |refine km (λhc=>?_) (λhc=>?_) |refine QQ (λhc=>?_) (λhc=>?_) |refine vW (λhc=>?_) (λhc=>?_) |refine wE (λhc=>?_) (λhc=>?_) |refine gP (λhc=>?_) (λhc=>?_) |refine kV (λhc=>?_) (λhc=>?_))
 all_goals refine qY ⟨?_,rfl⟩
 all_goals grind[zA]
theorem Mg (hn:1≤n):aH n 192 [.int .i64 x] h λv h'=>v=.bool (xf x)∧h'=h:=by
 refine aG rfl omQ λk hk=>?_;unfold S192;try simp only[iZ]
 unfold xf;by_cases h1:x=14
 ·refine qz omQ<|qX<|jG<|qB ?_
  exact qY ⟨by grind,rfl⟩
 ·refine qV omQ<|qX<|qp ?_;(try dsimp only)
  refine Yi (qH ?_);exact qY ⟨by grind,rfl⟩
theorem qyH (hn:1≤n):aH n 193 [.int .i64 x] h λv h'=>v=.bool (decide (x=12∨x=13))∧h'=h:=by
 refine aG rfl omQ λk hk=>?_;unfold S193;try simp only[iZ]
 by_cases h1:x=12
 ·refine qz omQ<|qX<|jG<|qB ?_
  exact qY ⟨by grind,rfl⟩
 ·refine qV omQ<|qX<|qp ?_;(try dsimp only)
  refine Yi (qH ?_);exact qY ⟨by grind,rfl⟩
theorem KG (hn:1≤n) {v:AV} (S:Sl D h 1 st.length v (st.map (.int .i64))) (hl:st.length<1000) :
  aH n 161 [v] h λr h'=>r=.int .i64 (jq st)∧h'=h:=by
 refine aG rfl omQ λk hk=>?_;unfold S161;try simp only[iZ]
 refine yy S ?_;by_cases h0:st.length=0
 ·obtain rfl:=iA h0;refine qz omQ<|qZ<|qY ⟨rfl,rfl⟩
 ·refine qV omQ<|qJ (yy S ?_);refine zL omQ ?_;rw[show(st.length:Int)-((1:Nat):Int)=((st.length-1:Nat):Int) by omega];have bJ:st≠[]:=by grind
  refine zY S ?_ (qY ⟨rfl,rfl⟩);unfold jq;grind
theorem MB (hn:1≤n) {f:Int×Int} (H:HS g h R):aH n 214 [.agg [.int .i64 f.1,.int .i64 f.2],.int .i64 x] h λv h'=>v=.bool (wW f x)∧HS g h' R:=by
 refine bw rfl omQ λk hk=>?_;unfold S214;try simp only
 refine qM H rfl λb h1 H1=>?_;unfold wW;by_cases c1:f.1≤x
 ·refine qQ (qK ‹_› .here rfl ?_);refine z8 omQ<|qX<|qb<|qQ (qK ‹_› .here rfl ?_)
  refine Zt (qB ?_);exact qY ⟨by grind,H1.drop⟩
 ·refine qQ (qK ‹_› .here rfl ?_);refine z7 omQ<|qX<|qS<|qH ?_
  exact qY ⟨by grind,H1.drop⟩
def gn (f:Int×Int):List AV:=[.int .i64 f.1,.int .i64 f.2]
theorem qK0 (hn:1≤n) (H:HS g h R):aH n 212 [.int .i64 x] h λv h'=>v=.cn [.agg (gn (zJ x).1),.agg (gn (zJ x).2.1),.agg (gn (zJ x).2.2)]∧HS g h' R:=by
 refine aG rfl omQ λk hk=>?_;unfold S212;try simp only[iZ]
 refine qM H rfl λb0 h1 H1=>?_;refine qM H1 rfl λb2 h2 H2=>?_;refine qM H2 rfl λb4 h3 H3=>?_;refine qI rfl<|qM H3 rfl λb7 h4 H4=>?_;refine qe H4 .here rfl aW rfl λh5 H5=>?_;refine zv [] (λs h'=>s=(.ptr b4 0,.ptr b2 0,.ptr b0 0,())∧HS g h' (qk b0 (gn (zJ x).1)::qk b2 (gn (zJ x).2.1)::qk b4 (gn (zJ x).2.2)::R)) ?_ ?_
 ·intro j hj;by_cases ha:x=1∨x=11∨x=21
  ·have e:zJ x=((0,7),(0,0),(0,0)):=by simp_all[zJ]
   rw[e]at hj;rcases ha with rfl |rfl |rfl
   all_goals (first |(refine qX<|qV omQ<|qJ<|qV omQ<|qJ<|qz omQ<|qZ ?_) |(refine qX<|qV omQ<|qJ<|qz omQ<|qZ<|qZ ?_) |(refine qX<|qz omQ<|qZ<|qZ ?_))
   all_goals refine qD H5 .here rfl omQ rfl ?_
   all_goals refine qe H5 e_3 rfl (by simp) rfl λh6 H6=>?_
   all_goals exact hj _ _ ⟨rfl,H6.pk [0,2,1] 1⟩
  by_cases hb:x=2∨x=10
  ·have e:zJ x=((0,7),(0,7),(0,0)):=by simp_all[zJ]
   rw[e]at hj;rcases hb with rfl |rfl
   all_goals (first |(refine qX<|qV omQ<|qJ<|qV omQ<|qJ<|qV omQ<|qJ<|qX<|qV omQ<|qJ<|qz omQ<|qZ<|qX ?_;(try dsimp only)) |(refine qX<|qV omQ<|qJ<|qV omQ<|qJ<|qV omQ<|qJ<|qX<|qz omQ<|qZ<|qZ<|qX ?_;(try dsimp only)))
   all_goals refine qD H5 .here rfl omQ rfl ?_
   all_goals refine qD H5 .here rfl omQ rfl ?_
   all_goals refine qe H5 e_3 rfl (by simp) rfl λh6 H6=>?_
   all_goals refine qe H6 e_3 rfl (by simp) rfl λh7 H7=>?_
   all_goals refine xG H5 .here rfl H6 e_1 rfl rfl omQ (HS.lt H5 .here) ?_
   all_goals exact hj _ _ ⟨rfl,H7.pk [1,0,1] 1⟩
  by_cases hc:x=3∨x=4∨x=5∨x=6∨x=7
  ·have e:zJ x=((0,7),(0,7),(0,7)):=by simp_all[zJ]
   rw[e]at hj;rcases hc with rfl |rfl |rfl |rfl |rfl
   all_goals (first |(refine qX<|qV omQ<|qJ<|qV omQ<|qJ<|qV omQ<|qJ<|qX<|qV omQ<|qJ<|qV omQ<|qJ<|qX<|qV omQ<|qJ<|qV omQ<|qJ<|qV omQ<|qJ<|qV omQ<|qJ<|qz omQ<|qZ<|qX ?_;(try dsimp only)) |(refine qX<|qV omQ<|qJ<|qV omQ<|qJ<|qV omQ<|qJ<|qX<|qV omQ<|qJ<|qV omQ<|qJ<|qX<|qV omQ<|qJ<|qV omQ<|qJ<|qV omQ<|qJ<|qz omQ<|qZ<|qZ<|qX ?_;(try dsimp only)) |(refine qX<|qV omQ<|qJ<|qV omQ<|qJ<|qV omQ<|qJ<|qX<|qV omQ<|qJ<|qV omQ<|qJ<|qX<|qV omQ<|qJ<|qV omQ<|qJ<|qz omQ<|qZ<|qZ<|qX ?_;(try dsimp only)) |(refine qX<|qV omQ<|qJ<|qV omQ<|qJ<|qV omQ<|qJ<|qX<|qV omQ<|qJ<|qV omQ<|qJ<|qX<|qV omQ<|qJ<|qz omQ<|qZ<|qZ<|qX ?_;(try dsimp only)) |(refine qX<|qV omQ<|qJ<|qV omQ<|qJ<|qV omQ<|qJ<|qX<|qV omQ<|qJ<|qV omQ<|qJ<|qX<|qz omQ<|qZ<|qZ<|qX ?_;(try dsimp only)))
   all_goals refine qD H5 .here rfl omQ rfl ?_
   all_goals refine qD H5 .here rfl omQ rfl ?_
   all_goals refine qD H5 .here rfl omQ rfl ?_
   all_goals refine qe H5 e_3 rfl (by simp) rfl λh6 H6=>?_
   all_goals refine qe H6 e_3 rfl (by simp) rfl λh7 H7=>?_
   all_goals refine qe H7 e_3 rfl (by simp) rfl λh8 H8=>?_
   all_goals refine xG H6 e_1 rfl H7 e_2 rfl rfl omQ (HS.lt H5 .here) ?_
   all_goals refine xG H5 .here rfl H6 e_1 rfl rfl omQ (HS.lt H5 .here) ?_
   all_goals refine xG H5 .here rfl H6 e_1 rfl rfl omQ (HS.lt H5 .here) ?_
   all_goals exact hj _ _ ⟨rfl,H8.pk [2,1,0] 1⟩
  by_cases hd:x=8∨x=9
  ·have e:zJ x=((0,7),(0,7),(0,15)):=by simp_all[zJ]
   rw[e]at hj;rcases hd with rfl |rfl
   all_goals (first |(refine qX<|qV omQ<|qJ<|qV omQ<|qJ<|qV omQ<|qJ<|qX<|qV omQ<|qJ<|qV omQ<|qJ<|qX<|qV omQ<|qJ<|qV omQ<|qJ<|qV omQ<|qJ<|qV omQ<|qJ<|qV omQ<|qJ<|qX<|qV omQ<|qJ<|qz omQ<|qZ<|qX ?_;(try dsimp only)) |(refine qX<|qV omQ<|qJ<|qV omQ<|qJ<|qV omQ<|qJ<|qX<|qV omQ<|qJ<|qV omQ<|qJ<|qX<|qV omQ<|qJ<|qV omQ<|qJ<|qV omQ<|qJ<|qV omQ<|qJ<|qV omQ<|qJ<|qX<|qz omQ<|qZ<|qZ<|qX ?_;(try dsimp only)))
   all_goals refine qD H5 .here rfl omQ rfl ?_
   all_goals refine qD H5 .here rfl omQ rfl ?_
   all_goals refine qI rfl ?_
   all_goals refine qe H5 e_3 rfl (by simp) rfl λh6 H6=>?_
   all_goals refine qe H6 e_3 rfl (by simp) rfl λh7 H7=>?_
   all_goals refine qe H7 e_3 rfl (by simp) rfl λh8 H8=>?_
   all_goals refine xG H5 .here rfl H6 e_1 rfl rfl omQ (HS.lt H5 .here) ?_
   all_goals exact hj _ _ ⟨rfl,H8.pk [2,1,0] 1⟩
  by_cases he:x=12
  ·have e:zJ x=((0,0),(0,0),(0,40)):=by simp_all[zJ]
   rw[e]at hj;subst he;refine qX<|qV omQ<|qJ (qV omQ ?_);refine qJ (qV omQ ?_);refine qJ (qX ?_);refine qV omQ<|qJ (qV omQ ?_);refine qJ (qX ?_);refine qV omQ<|qJ (qV omQ ?_);refine qJ (qV omQ ?_);refine qJ (qV omQ ?_);refine qJ (qV omQ ?_);refine qJ (qX ?_);refine qV omQ<|qJ (qV omQ ?_);refine qJ (qz omQ ?_);refine qZ (qI rfl ?_)
   refine qe H5 e_1 rfl (by simp) rfl λh6 H6=>?_;exact hj _ _ ⟨rfl,H6.pk [3,2,0] 1⟩
  by_cases hf:x=13
  ·have e:zJ x=((0,7),(0,0),(0,40)):=by simp_all[zJ]
   rw[e]at hj;subst hf;refine qX<|qV omQ<|qJ (qV omQ ?_);refine qJ (qV omQ ?_);refine qJ (qX ?_);refine qV omQ<|qJ (qV omQ ?_);refine qJ (qX ?_);refine qV omQ<|qJ (qV omQ ?_);refine qJ (qV omQ ?_);refine qJ (qV omQ ?_);refine qJ (qV omQ ?_);refine qJ (qX ?_);refine qV omQ<|qJ (qV omQ ?_);refine qJ (qV omQ ?_);refine qJ (qz omQ ?_);refine qZ<|qD H5 .here rfl omQ rfl<|qI rfl<|qe H5 e_3 rfl (by simp) rfl λh6 H6=>?_;refine qe H6 e_2 rfl (by simp) rfl λh7 H7=>?_;exact hj _ _ ⟨rfl,H7.pk [1,2,0] 1⟩
  by_cases hg:x=23
  ·have e:zJ x=((1,12),(0,7),(0,6)):=by simp_all[zJ]
   rw[e]at hj;subst hg;refine qX<|qV omQ<|qJ (qV omQ ?_);refine qJ (qV omQ ?_);refine qJ (qX ?_);refine qV omQ<|qJ (qV omQ ?_);refine qJ (qX ?_);refine qV omQ<|qJ (qV omQ ?_);refine qJ (qV omQ ?_);refine qJ (qV omQ ?_);refine qJ (qV omQ ?_);refine qJ (qX ?_);refine qV omQ<|qJ (qV omQ ?_);refine qJ (qV omQ ?_);refine qJ (qV omQ ?_);refine qJ (qz omQ ?_);refine qZ (qI rfl ?_);refine qI rfl<|qI rfl<|qe H5 e_3 rfl (by simp) rfl λh6 H6=>?_;refine qe H6 e_3 rfl (by simp) rfl λh7 H7=>?_;refine qe H7 e_3 rfl (by simp) rfl λh8 H8=>?_;exact hj _ _ ⟨rfl,H8.pk [2,1,0] 1⟩
  ·have e:zJ x=((0,0),(0,0),(0,0)):=by simp_all[zJ]
   rw[e]at hj ⊢;refine qX<|qV omQ<|qJ (qV omQ ?_);refine qJ (qV omQ ?_);refine qJ (qX ?_);refine qV omQ<|qJ (qV omQ ?_);refine qJ (qX ?_);refine qV omQ<|qJ (qV omQ ?_);refine qJ (qV omQ ?_);refine qJ (qV omQ ?_);refine qJ (qV omQ ?_);refine qJ (qX ?_);refine qV omQ<|qJ (qV omQ ?_);refine qJ (qV omQ ?_);refine qJ (qV omQ ?_);refine qJ (qV omQ ?_);refine qJ ?_
   exact hj _ _ ⟨rfl,H5.pk [3,2,1] 1⟩
 ·rintro s h6 ⟨rfl,H6⟩;generalize zJ x=F at*;refine qX (qD H6 .here rfl omQ rfl ?_);refine qD H6 e_1 rfl omQ rfl<|qD H6 e_2 rfl omQ rfl<|qe H6 .here rfl (by simp[gn]) rfl λh7 H7=>?_;refine qe H7 e_1 rfl (by simp[gn]) rfl λh8 H8=>?_;refine qe H8 e_2 rfl (by simp[gn]) rfl λh9 H9=>?_;refine xG H7 e_2 rfl H8 e_2 rfl rfl omQ (HS.lt H6 e_2)<|xG H6 e_2 rfl H7 e_2 rfl rfl omQ (HS.lt H6 e_2)<|xG H6 e_1 rfl H7 e_1 rfl rfl omQ (HS.lt H6 e_1)<|qx (qD H9 e_2 rfl omQ rfl ?_);refine qD H9 e_1 rfl omQ rfl<|qD H9 .here rfl omQ rfl<|qY ⟨rfl,H9.drop.drop.drop⟩
def ta:List (List UInt8):=[[],[115,101,116],[109,111,118,101],[97,100,100],[115,117,98],[109,117,108],[108,101,115,115],[101,113,117,97,108],[108,111,97,100],[115,116,111,114,101],[97,108,108,111,99],[102,114,101,101],[106,117,109,112],[122,101,114,111],[111,112,101,110],[99,108,111,115,101],[117,110,100,111],[101,105,116,104,101,114],[111,114],[100,111,110,101],[114,101,116,114,121],[101,109,105,116],[102,97,105,108],[99,97,108,108]]
theorem jQs {p:Nat} (hp:p<24):∃s,ta[p]? =some s∧Ao .neq s []=some (.bool (decide (1≤(p:Int)∧(p:Int)≤23))):=by
 match p,hp with
 | 0,_=>exact⟨_,rfl,rfl⟩
 | 1,_=>exact⟨_,rfl,rfl⟩
 | 2,_=>exact⟨_,rfl,rfl⟩
 | 3,_=>exact⟨_,rfl,rfl⟩
 | 4,_=>exact⟨_,rfl,rfl⟩
 | 5,_=>exact⟨_,rfl,rfl⟩
 | 6,_=>exact⟨_,rfl,rfl⟩
 | 7,_=>exact⟨_,rfl,rfl⟩
 | 8,_=>exact⟨_,rfl,rfl⟩
 | 9,_=>exact⟨_,rfl,rfl⟩
 | 10,_=>exact⟨_,rfl,rfl⟩
 | 11,_=>exact⟨_,rfl,rfl⟩
 | 12,_=>exact⟨_,rfl,rfl⟩
 | 13,_=>exact⟨_,rfl,rfl⟩
 | 14,_=>exact⟨_,rfl,rfl⟩
 | 15,_=>exact⟨_,rfl,rfl⟩
 | 16,_=>exact⟨_,rfl,rfl⟩
 | 17,_=>exact⟨_,rfl,rfl⟩
 | 18,_=>exact⟨_,rfl,rfl⟩
 | 19,_=>exact⟨_,rfl,rfl⟩
 | 20,_=>exact⟨_,rfl,rfl⟩
 | 21,_=>exact⟨_,rfl,rfl⟩
 | 22,_=>exact⟨_,rfl,rfl⟩
 | 23,_=>exact⟨_,rfl,rfl⟩
 |k+24,h=>grind
theorem qvO (hn:2≤n) (H:HS g h R):aH n 213 [.int .i64 x] h λv h'=>∃s,v=.str s∧Ao .neq s []=some (.bool (decide (1≤x∧x≤23)))∧HS g h' R:=by
 refine aG rfl omQ λk hk=>?_;unfold S213;try simp only
 refine qW (Q':=λv h'=>∃e,HS g h' (aa e 1 24 v (ta.map .str)::R)) ?_ ?_
 ·(refine qA rfl omQ λk hk=>?_;show wp (S262 (callT tab qj k) _) _;unfold S262;try simp only[iI,uU,iZ])
  exact qh H rfl rfl rfl rfl λv h1 H1=>qY ⟨_,H1⟩
 rintro v h1 ⟨e,H1⟩;refine qW (Q':=λw h'=>∃s,w=.str s∧Ao .neq s []=some (.bool (decide (1≤x∧x≤23)))∧h'=h1) ?_ ?_
 ·refine bw rfl omQ λk hk=>?_;unfold S261;try simp only[iZ]
  by_cases c0:x<0
  ·refine jc omQ<|qX<|jG<|qB (qZ ?_)
   exact qY ⟨[],rfl,by rw[iV omQ];rfl,rfl⟩
  ·refine jH omQ<|qX<|qp<|qu ‹_› .here ?_
   by_cases c1:x<24
   ·obtain⟨p,rfl⟩:∃p:Nat,x=(p:Int):=⟨x.toNat,by omega⟩;obtain⟨s,hs,ht⟩:=jQs (show p<24 by omega);refine z7 omQ<|qH (qJ (zY (H1.sl .here) (by grind) (qY ⟨s,rfl,ht,rfl⟩)))
   ·refine z8 omQ<|qH (qZ ?_);exact qY ⟨[],rfl,by rw[iV omQ];rfl,rfl⟩
 ·rintro _ h2 ⟨s,rfl,ht,rfl⟩;exact qY ⟨s,rfl,ht,H1.drop⟩
theorem qyf (hn:3≤n) {x:qR} (H:HS g h R):aH n 190 [.agg (jM x)] h λv h'=>v=.bool (wq x)∧HS g h' R:=by
 refine aG rfl omQ λk hk=>?_;unfold S190;try simp only[iZ]
 obtain⟨op,a,b,c,q⟩:=x;refine qM H rfl λb0 h1 H1=>?_;refine qQ (qK ‹_› .here rfl ?_);refine qW (qK0 omQ H1) ?_;rintro _ h2 ⟨rfl,H2⟩;have hM:wq (op,a,b,c,q)=(decide (1≤op∧op≤23)&&wW (zJ op).1 a&&wW (zJ op).2.1 b&&wW (zJ op).2.2 c&&decide (q=0∨op=1)):=rfl;rw[hM];generalize zJ op=F at*;obtain⟨f1,f2,f3⟩:=F;refine qy rfl<|qy rfl<|qy rfl<|qM H2 rfl λb1 h3 H3=>?_;refine qM H3 rfl λb2 h4 H4=>?_;refine qM H4 rfl λb3 h5 H5=>?_;refine qe H5 e_2 rfl aW rfl λh6 H6=>?_;refine qe H6 e_2 rfl aW rfl λh7 H7=>?_;refine qe H7 e_2 rfl aW rfl λh8 H8=>?_;refine qQ (qK ‹_› e_3 rfl ?_);refine qW (qvO omQ H8) ?_;rintro _ h9 ⟨s,rfl,ht,H⟩;refine jXU ht ?_;by_cases c1:1≤op∧op≤23
 rotate_left
 ·rw[iV c1];refine qX<|qS<|qH (qX ?_);refine qS<|qH (qX ?_);refine qS<|qH (qX ?_);refine qS<|qX<|ze<|qX<|qS<|qH ?_
  exact qY ⟨rfl,H.drop.drop.drop.drop⟩
 rw[iG c1];refine qX<|qb ?_;(try dsimp only)
 refine qD H e_2 rfl omQ rfl<|qQ (qK ‹_› e_3 rfl ?_);refine qW (MB omQ H) ?_;rintro _ eM ⟨rfl,fw⟩;cases hf1:wW f1 a
 ·refine qB (qX ?_);refine qS<|qH (qX ?_);refine qS<|qH (qX ?_);refine qS<|qX<|ze<|qX<|qS<|qH ?_
  exact qY ⟨rfl,fw.drop.drop.drop.drop⟩
 refine qB (qX ?_);refine qb ?_;(try dsimp only)
 refine qD fw e_1 rfl omQ rfl<|qQ (qK ‹_› e_3 rfl ?_);refine qW (MB omQ fw) ?_;rintro _ dO ⟨rfl,mA⟩;cases IJ:wW f2 b
 ·refine qB (qX ?_);refine qS<|qH (qX ?_);refine qS<|qX<|ze<|qX<|qS<|qH ?_
  exact qY ⟨rfl,mA.drop.drop.drop.drop⟩
 refine qB (qX ?_);refine qb ?_;(try dsimp only)
 refine qD mA .here rfl omQ rfl<|qQ (qK ‹_› e_3 rfl ?_);refine qW (MB omQ mA) ?_;rintro _ mP ⟨rfl,cw⟩;cases hf3:wW f3 c
 ·refine qB (qX ?_);refine qS<|qX<|ze<|qX<|qS<|qH ?_
  exact qY ⟨rfl,cw.drop.drop.drop.drop⟩
 by_cases c2:q=0
 ·refine qB (qX ?_);refine qb<|qQ (qK ‹_› e_3 rfl ?_);refine qz omQ<|qX<|jG<|qX<|qb<|qB (qB ?_)
  exact qY ⟨by grind,cw.drop.drop.drop.drop⟩
 by_cases c3:op=1
 ·refine qB (qX ?_);refine qb<|qQ (qK ‹_› e_3 rfl ?_);refine qV omQ<|qX<|qp<|qQ (qK ‹_› e_3 rfl ?_);refine qz omQ<|qX<|qb<|qH (qB ?_)
  exact qY ⟨by grind,cw.drop.drop.drop.drop⟩
 ·refine qB (qX ?_);refine qb<|qQ (qK ‹_› e_3 rfl ?_);refine qV omQ<|qX<|qp<|qQ (qK ‹_› e_3 rfl ?_);refine qV omQ<|qX<|qb<|qH (qB ?_)
  exact qY ⟨by grind,cw.drop.drop.drop.drop⟩
end
section
variable {g h:AH} {L R:List SP}
theorem jJd {l:List qR} (hi:i<l.length):qO l (i:Int)=l[i]:=by simp_all[qO]
theorem qg4 (hn:2≤n) {l:List qR} (H:HS g h R) (S:Rd g R 5 l.length sv (l.flatMap jM)) (T:Rd g R 1 st.length tv (st.map (.int .i64))) (hs:cL l.length st) (hl:st.length<1000) :
  aH n 191 [tv,.agg [sv]] h λv h'=>v=.int .i64 (cU l st)∧HS g h' R:=by
 refine bw rfl omQ λk hk=>?_;unfold S191;try simp only[iZ]
 refine qM H (gw (Jh (S.sl H))) λb h1 H1=>?_;refine yy (T.sl H1.drop) ?_;unfold cU;by_cases h0:st=[]
 ·subst h0;rw[iJ rfl]
  skip
  exact qY ⟨rfl,H1.drop⟩
 ·have l5:st.length≠0:=λh=>h0 (iA h);rw[iQ h0];refine qV omQ<|qJ (qX ?_);refine qQ (qK ‹_› .here rfl ?_)
  refine qW (KG omQ (T.sl H1.drop) hl) ?_;rintro _ h1 ⟨rfl,rfl⟩;have hi:=hs.eP h0;generalize jq st=p at*;obtain⟨p,rfl⟩:∃q:Nat,p=(q:Int):=⟨p.toNat,by omega⟩;have hp:p<l.length:=by omega
  refine yo (S.sl H1.drop) omQ hp (by rw[Yf jM (λ_=>rfl) _ _ _ omQ,iW hp];rfl)<|qT ‹_› .here rfl ‹_› .here rfl (HS.lt ‹_› .here)<|qY ⟨by rw[jJd hp],H1.drop⟩
theorem qqL (hn:4≤n) {l:List qR} {x:qR} (H:HS g h R) (S:Rd g R 5 l.length sv (l.flatMap jM)) (T:Rd g R 1 st.length tv (st.map (.int .i64))) (hs:cL l.length st) (hl:st.length<1000) :
  aH n 159 [.agg [sv],tv,.agg (jM x)] h λv h'=>v=.int .i64 (xW l st x)∧HS g h' R:=by
 refine cY rfl omQ λk hk=>?_;unfold S159;try simp only[iZ]
 refine qM H (gw (Jh (S.sl H))) λb0 h1 H1=>?_;refine qM H1 rfl λb2 h2 H2=>?_;refine qD H2 .here rfl omQ rfl<|qW (qyf omQ H2) ?_;rintro _ h3 ⟨rfl,H3⟩;obtain⟨op,a,b,c,q⟩:=x;have hW:xW l st (op,a,b,c,q)=if wq (op,a,b,c,q)=false then 8 else if 0<zA op∧cU l st≠zA op then 12 else if op=16∧cU l st≠14 then 12 else if xf op=true∧5≤st.length then 9 else 0:=rfl
 rw[hW];cases wq (op,a,b,c,q)
 ·refine je (qZ ?_);exact qY ⟨rfl,H3.drop.drop⟩
 rw[iQ aW]
 (first |refine qZ ?_ |with_reducible refine qJ ?_ |(with_reducible refine qb ?_;try dsimp only) |(refine jG ?_;try dsimp only) |(refine qS ?_;try dsimp only) |(refine qp ?_;try dsimp only) |(refine ze ?_;try dsimp only) |refine qB ?_ |refine qH ?_ |(refine qX ?_;try dsimp only) |refine qx ?_ |refine jR ?_ |refine je ?_ |refine qa omQ ?_ |refine zL omQ ?_ |refine gK omQ ?_ |refine wC omQ ?_ |refine zi ?_ |refine xR ?_)
 (first |refine qZ ?_ |refine qJ ?_ |(refine qb ?_;try dsimp only) |(refine jG ?_;try dsimp only) |(refine qS ?_;try dsimp only) |(refine qp ?_;try dsimp only) |(refine ze ?_;try dsimp only) |refine qB ?_ |refine qH ?_ |(refine qX ?_;try dsimp only) |refine qx ?_ |refine jR ?_ |refine je ?_ |refine qa omQ ?_ |refine zL omQ ?_ |refine gK omQ ?_ |refine wC omQ ?_ |refine zi ?_ |refine xR ?_)
 refine UI (λs h'=>s=(.bool (decide (0<zA op∧cU l st≠zA op)),.ptr b2 0,.ptr b0 0,tv,())∧HS g h' (qk b2 [.int .i64 op,.int .i64 a,.int .i64 b,.int .i64 c,.int .u64 q]::qk b0 [sv]::R)) ?_ ?_
 ·intro j hj;refine qQ (qK ‹_› .here rfl ?_);refine qW (Uk omQ) ?_;rintro _ h3 ⟨rfl,rfl⟩;by_cases h1:0<zA op
  ·refine yc omQ<|qb ?_;(try dsimp only)
   refine qD H3 e_1 rfl omQ rfl<|qW (qg4 omQ H3 S.more.more T.more.more hs hl) ?_;rintro _ h4 ⟨rfl,H4⟩;refine qQ (qK ‹_› .here rfl ?_);refine qW (Uk omQ) ?_;rintro _ h4 ⟨rfl,rfl⟩;refine NR (qB (qT ‹_› .here rfl ‹_› .here rfl (HS.lt ‹_› .here) ?_));refine hj _ _ ⟨?_,H4⟩
   simp;omega
  ·refine yj omQ<|qS<|qH ?_
   refine hj _ _ ⟨?_,H3⟩;grind
 rintro s h4 ⟨rfl,H⟩;by_cases hA:0<zA op∧cU l st≠zA op
 ·rw[iG hA,iJ hA];refine qZ<|qY ⟨rfl,H.drop.drop⟩
 rw[iV hA,iQ hA];refine qJ (qQ (qK ‹_› .here rfl ?_));refine Yi (UI (λs h'=>∃(r:AV) (u x:Bool),s=(r,.bool u,.ptr b2 0,tv,())∧(u=true→r=.bool x)∧((u&&x)=decide (op=16∧cU l st≠14))∧HS g h' (qk b2 [.int .i64 op,.int .i64 a,.int .i64 b,.int .i64 c,.int .u64 q]::qk b0 [sv]::R)) ?_ ?_)
 ·intro j hj;by_cases h1:op=16
  ·rw[iG (show op=((16:Nat):Int)from h1)];refine qb ?_;(try dsimp only)
   refine qD H e_1 rfl omQ rfl<|qW (qg4 omQ H S.more.more T.more.more hs hl) ?_;rintro _ h4 ⟨rfl,H4⟩;refine NR (hj _ _ ⟨_,true,decide (¬cU l st=14),rfl,λ_=>rfl,?_,H4⟩);grind
  ·rw[iV (show¬op=((16:Nat):Int)from h1)];refine qS ?_;(try dsimp only)
   refine hj _ _ ⟨_,false,false,rfl,(λh=>by grind),?_,H⟩;grind
 rintro s h4 ⟨r,u,y,rfl,hr,hu,H⟩;refine qXt hr ?_;rw[hu];by_cases hB:op=16∧cU l st≠14
 ·rw[iG hB,iJ hB];refine qZ<|qY ⟨rfl,H.drop.drop⟩
 rw[iV hB,iQ hB];refine qJ (qQ (qK ‹_› .here rfl ?_));refine qW (Mg omQ) ?_;rintro _ h4 ⟨rfl,rfl⟩;cases hb:xf op
 ·rw[iQ aW];refine qX<|qS<|qH (qJ ?_)
  exact qY ⟨rfl,H.drop.drop⟩
 ·refine qX<|qb ?_;(try dsimp only)
  refine yy (T.sl H.drop.drop) ?_;by_cases h5:5≤st.length
  ·rw[iJ ⟨rfl,h5⟩];refine z8 omQ<|qB (qZ ?_);exact qY ⟨rfl,H.drop.drop⟩
  ·rw[iQ (λh=>h5 h.2)];refine z7 omQ<|qB (qJ ?_);exact qY ⟨rfl,H.drop.drop⟩
def tc (v:AV) (st:List Int):SP:=aa 3 1 st.length v (st.map (.int .i64))
theorem Nj (hn:2≤n) {i:Int} (H:HS g h (tc tv st::R)) (hs:0<zA op→st≠[]) (hl:st.length<1000) :
  aH n 160 [tv,.int .i64 i,.int .i64 op] h λv h'=>HS g h' (tc v (jE st i op)::R):=by
 refine cY rfl omQ λk hk=>?_;unfold S160;try simp only[iZ]
 refine zv [] (λs h'=>∃v,s=(.int .i64 op,.int .i64 i,v,())∧HS g h' (tc v (if 0<zA op then st.dropLast else st)::R)) ?_ ?_
 ·intro j hj;refine qW (Uk omQ) ?_;rintro _ h ⟨rfl,rfl⟩;by_cases h1:0<zA op
  ·have bJ:=hs h1;have l5:st.length≠0:=λh=>bJ (iA h);rw[iJ h1]at hj;refine yc h1 (qZ ?_);refine yy (H.sl .here)<|zL omQ ?_;rw[show(st.length:Int)-((1:Nat):Int)=((st.length-1:Nat):Int) by omega];refine Y8 H omQ omQ λv H1=>?_;refine hj _ _ ⟨v,rfl,?_⟩;simp_all[tc,List.dropLast_eq_take,List.map_take,Nat.mul_one]
  ·rw[iQ h1]at hj;refine yj h1 (qJ ?_);exact hj _ _ ⟨tv,rfl,H⟩
 rintro s h1 ⟨v,rfl,H⟩;unfold jE;have n9:(if 0<zA op then st.dropLast else st).length<1000:=by
  grind
 generalize(if 0<zA op then st.dropLast else st)=st at*;refine qX ?_;(try dsimp only)
 refine qW (Mg omQ) ?_;rintro _ h1 ⟨rfl,rfl⟩;have push:∀{K:AV→AH→Go.Ae.R} {Q:AV→AH→Prop},(∀v' h',HS g h' (tc v' (st++[i])::R)→wp (K v' h') Q)→
   wp (xL h1 3 [.int .i64 ((0:Nat):Int)] 1 [(0,1,.int .i64 i)] λsY rq=>xk rq 3 1 v sY K) Q:=by
  intro K Q w;refine qh H rfl rfl rfl rfl λv5 h5 H5=>?_;refine zX (H5.aM e_1) (H5.sl .here) omQ omQ rfl λv6 h6 H6=>w v6 h6 ?_;unfold tc;rw[List.map_append,List.length_append];exact H6.pk [0] 1
 cases hb:xf op
 ·by_cases De:op=18
  ·rw[iJ (.inr De)];refine qX<|qp<|qz omQ<|qH (qZ ?_)
   exact push λv' h' H'=>qx (qY H')
  ·rw[iQ (by grind)];refine qX<|qp<|qV omQ<|qH (qJ (qx ?_))
   exact qY H
 ·rw[iJ (.inl rfl)];refine qX<|jG<|qB (qZ ?_)
  exact push λv' h' H'=>qx (qY H')
theorem Uz {l:List qR} (hi:i<l.length):mB l (l.drop i) i st=if xW l st l[i]=0 then mB l (l.drop (i+1)) (i+1) (jE st i l[i].1)else .inl ((i:Int),xW l st l[i]):=by rw[List.drop_eq_getElem_cons hi];rfl
theorem O0 {l:List qR} (hi:i<l.length):gr (l.drop i) i st=jq st::gr (l.drop (i+1)) (i+1) (jE st i l[i].1):=by rw[List.drop_eq_getElem_cons hi];rfl
theorem KV {l:List qR} {a:List Int} (hi:i<l.length):YM l a (l.drop i) i=if YE l a i l[i]then((i:Int),2)else YM l a (l.drop (i+1)) (i+1):=by rw[List.drop_eq_getElem_cons hi];rfl
theorem GP {l:List qR} (hi:i<l.length):((l.flatMap jM).drop (i*5)).take 5=jM l[i]:=vP (sz:=5) (λ_=>rfl) (iW hi)
theorem VW (hn:3≤n) {l:List qR} (H:HS g h R) (S:Rd g R 5 l.length sv (l.flatMap jM)) (hg:mB l l 0 []=.inr st') (hl:l.length≤100) :
  aH n 163 [.agg [sv]] h λv h'=>HS g h' (aa 3 1 l.length v ((gr l 0 []).map (.int .i64))::R):=by
 refine aG rfl omQ λk hk=>?_;unfold S163;try simp only[iZ]
 refine qM H (gw (Jh (S.sl H))) λb0 h1 H1=>?_;refine qQ (qK ‹_› .here rfl ?_);refine yy (S.sl H1.drop)<|Ye (n:=l.length) H1 omQ λov h2 H2=>?_;refine qQ (qK ‹_› e_1 rfl ?_);refine yy (S.sl H2.drop.drop)<|jS (λm s h'=>∃(i:Nat) (st A:List Int) (tv:AV),s=(.int .i64 (i:Int),.int .i64 (l.length:Int),sv,tv,ov,())∧i≤l.length∧m=l.length-i∧cL i st∧st.length≤i∧mB l (l.drop i) i st=.inr st'∧A.length=i∧gr l 0 []=A++gr (l.drop i) i st∧
  HS g h' (aa 3 1 l.length ov ((A++List.replicate (l.length-i) 0).map (.int .i64))::tc tv st::R))
  ?_ (m:=l.length) (by grind) ⟨0,[],[],.ap,rfl,by omega,by rfl,cL.nil,by simp,hg,rfl,rfl,by
   rw[List.nil_append,List.map_replicate]
   exact(H2.ap).pk [1,0] 1⟩
 rintro m ih s h3 bN ⟨i,st,A,tv,rfl,hi,rfl,hs,ng,fc,hA,hR,H⟩;by_cases ax:i<l.length
 ·rw[Uz ax]at fc;rw[O0 ax]at hR;have l8:=GP ax;generalize l[i]=x at*;by_cases hw:xW l st x=0
  rotate_left
  ·rw[iQ hw]at fc;cases fc
  rw[iJ hw]at fc;have ho:=x9 hw;refine jc omQ<|qZ (xQ (S.sl H.drop.drop) ax omQ l8 ?_);refine qM H rfl λb h4 H4=>?_;refine qe H4 .here rfl (by simp) rfl λh5 H5=>?_;unfold jM at H5;refine qW (KG omQ (H5.sl e_2) omQ) ?_;rintro _ h5 ⟨rfl,rfl⟩;refine G5 (H5.aM e_1) omQ ⟨rfl,rfl⟩ λh6 H6=>?_;have td:((A++List.replicate (l.length-i) 0).map (AV.int .i64)).set i (.int .i64 (jq st))=((A++[jq st])++List.replicate (l.length-(i+1)) 0).map (.int .i64):=by
   rw[← List.map_set]
   congr 1
   rw[List.set_append_right _ _ omQ,hA,Nat.sub_self,show l.length-i=(l.length-(i+1))+1 by omega,List.replicate_succ];simp
  rw[td]at H6;refine qQ (qK ‹_› e_1 rfl ?_);refine qW (Nj omQ (H6.sub (L':=tc tv st::qk b [.int .i64 x.1,.int .i64 x.2.1,.int .i64 x.2.2.1,.int .i64 x.2.2.2.1,.int .u64 x.2.2.2.2]::aa 3 1 l.length ov (((A++[jq st])++List.replicate (l.length-(i+1)) 0).map (.int .i64))::R) (.cons e_2 (.cons e_1 (.cons .here .refl)))) (λh=>ho.2.1 (.inl h)) omQ) ?_;intro Sp h8 H8;refine qa omQ ?_;have Sq:=My st i x.1;exact bN (l.length-(i+1)) _ _ omQ ⟨i+1,jE st i x.1,A++[jq st],Sp,rfl,by omega,rfl,hs.behind,by omega,fc,by grind,by grind,H8.pk [2,0] 1⟩
 ·obtain rfl:i=l.length:=by omega
  refine jH omQ<|qJ (qx (qY ?_));rw[hR];rw[Nat.sub_self,List.replicate_zero,List.append_nil]at H;rw[List.drop_length];show HS g h3 (aa _ 1 l.length ov ((A++[]).map _)::R);rw[List.append_nil];exact H.pk [0] 1
theorem qxs {x:qR} (h:wq x=true) (hj:x.1=12∨x.1=13):0≤x.2.2.2.1∧x.2.2.2.1≤40:=by
 have e:(zJ x.1).2.2=(0,40):=by
  rcases hj with e |e<;>rw[e]<;>rfl
 simp_all[wq,Bool.and_eq_true,wW,decide_eq_true_eq]
theorem qYh (hn:2≤n) {l:List qR} {a:List Int} {av:AV} (H:HS g h R) (S:Rd g R 5 l.length sv (l.flatMap jM)) (T:Rd g R 1 a.length av (a.map (.int .i64))) (ha:a.length=l.length) (hm:∀x∈l,wq x=true) (hl:l.length≤100) :
  aH n 162 [.agg [sv],av] h λv h'=>v=.cn [.int .i64 (YM l a l 0).1,.int .i64 (YM l a l 0).2]∧HS g h' R:=by
 refine bw rfl omQ λk hk=>?_;unfold S162;try simp only[iZ]
 refine qM H (gw (Jh (S.sl H))) λb0 h1 H1=>?_;have Ll:=(S.sl H).uG;clear H;refine qQ (qK ‹_› .here rfl ?_);refine vG ‹_›<|jS (λm s h'=>∃i:Nat,s=(.int .i64 (i:Int),.int .i64 (l.length:Int),sv,.ptr b0 0,av,())∧i≤l.length∧m=l.length-i∧YM l a l 0=YM l a (l.drop i) i∧HS g h' (qk b0 [sv]::R))
  ?_ (m:=l.length) (by grind) ⟨0,rfl,by omega,by rfl,rfl,H1⟩
 clear H1;rintro m ih s h2 bN ⟨i,rfl,hi,rfl,hJ,H⟩;by_cases ax:i<l.length
 rotate_left
 ·obtain rfl:i=l.length:=by omega
  rw[List.drop_length]at hJ;rw[hJ];refine jH omQ<|qJ (qx ?_);exact qY ⟨rfl,H.drop⟩
 rw[KV ax]at hJ;have l8:=GP ax;have hmx:=hm l[i] (List.getElem_mem ax);generalize l[i]=x at*;obtain⟨op,xa,xb,c,q⟩:=x;unfold jM at l8;refine jc omQ (qZ ?_);refine zv [] (λs h'=>s=(.int .i64 (i:Int),.int .i64 (l.length:Int),sv,.ptr b0 0,av,())∧¬YE l a i (op,xa,xb,c,q)∧HS g h' (qk b0 [sv]::R)) ?_ ?_
 rotate_left
 ·rintro s h3 ⟨rfl,bQ,H3⟩;rw[iQ bQ]at hJ;refine qa omQ<|bN (l.length-(i+1)) _ _ omQ ⟨i+1,rfl,by omega,rfl,hJ,H3⟩
 intro j hj;clear bN;refine xQ (S.sl H.drop) ax omQ l8<|qM H rfl λb h4 H4=>?_;refine qe H4 .here rfl aW rfl λh5 H5=>?_;have H5:HS g h5 (qk b [.int .i64 op,.int .i64 xa,.int .i64 xb,.int .i64 c,.int .u64 q]::qk b0 [sv]::R):=H5;clear H H4;refine qQ (qK ‹_› .here rfl ?_);refine qW (qyH omQ) ?_;rintro _ h5 ⟨rfl,rfl⟩;by_cases lA:op=12∨op=13
 rotate_left
 ·rw[iV lA];refine je (qZ ?_);exact hj _ _ ⟨rfl,λh=>lA h.1,H5.drop⟩
 rw[iG lA];have hc:=qxs hmx lA;dsimp only at hc;obtain⟨p,rfl⟩:∃p:Nat,c=(p:Int):=⟨c.toNat,by omega⟩;have te:∀k:Nat,k<l.length→(a.map (AV.int .i64))[k]? =some (.int .i64 (qg a (k:Int))):=by intro k hk;unfold qg;grind
 have Ta:Sl (λ_=>True) h5 1 a.length av (a.map (.int .i64)):=T.sl H5.drop.drop;by_cases c1:l.length<p
 ·rw[iJ ⟨lA,.inl (by grind)⟩]at hJ;rw[hJ];refine jR (qJ (qQ (qK ‹_› .here rfl ?_)));refine qQ (qK ‹_› e_1 rfl ?_);refine vG ‹_›<|yc omQ<|qX<|jG<|qX<|ze<|qX<|jG<|qB (qX ?_);refine jG<|qX<|ze<|qX<|jG<|qB (qZ (qx ?_))
  exact qY ⟨rfl,H5.drop.drop⟩
 by_cases c2:p=l.length
 ·subst c2;refine jR (qJ (qQ (qK ‹_› .here rfl ?_)));refine qQ (qK ‹_› e_1 rfl ?_);refine vG ‹_›<|yj omQ<|qX<|qp<|qQ (qK ‹_› .here rfl ?_);refine qQ (qK ‹_› e_1 rfl ?_);refine vG ‹_›<|qz omQ<|qX<|qb ?_;(try dsimp only)
  refine zY Ta (te i ax) ?_;by_cases c3:qg a i= -1
  ·refine jB (by grind)<|qX<|qp<|qB (qH (qX ?_));refine qp<|qQ (qK ‹_› .here rfl ?_);refine qQ (qK ‹_› e_1 rfl ?_);refine vG ‹_›<|jH omQ<|qX<|qS<|qX<|qp<|qH (qH (qJ ?_))
   exact hj _ _ ⟨rfl,λh=>by
    rcases h.2 with h |h |h
    all_goals grind,H5.drop⟩
  ·refine jg (λh=>c3 (by grind)) ?_;rw[iJ ⟨lA,.inr (.inl ⟨rfl,c3⟩)⟩]at hJ;rw[hJ];refine qX<|qp<|qB (qH (qX ?_));refine jG<|qX<|ze<|qX<|jG<|qB (qZ (qx ?_))
   exact qY ⟨rfl,H5.drop.drop⟩
 ·refine jR (qJ (qQ (qK ‹_› .here rfl ?_)));refine qQ (qK ‹_› e_1 rfl ?_);refine vG ‹_›<|yj omQ<|qX<|qp<|qQ (qK ‹_› .here rfl ?_);refine qQ (qK ‹_› e_1 rfl ?_);refine vG ‹_›<|qV omQ<|qX<|qS<|qX<|qp<|qH (qH (qX ?_));refine qp<|qQ (qK ‹_› .here rfl ?_);refine qQ (qK ‹_› e_1 rfl ?_);refine vG ‹_›<|jc omQ<|qX<|qb<|qQ (qK ‹_› .here rfl ?_)
  refine zY Ta (te p omQ)<|zY Ta (te i ax) ?_;by_cases c3:qg a p=qg a i
  ·refine jB c3<|qX<|qp<|qB (qH (qJ ?_))
   exact hj _ _ ⟨rfl,λh=>by
    rcases h.2 with h |h |h
    all_goals grind,H5.drop⟩
  ·refine jg c3 ?_;rw[iJ ⟨lA,.inr (.inr ⟨by grind,c3⟩)⟩]at hJ;rw[hJ];refine qX<|qp<|qB (qH (qZ (qx ?_)))
   exact qY ⟨rfl,H5.drop.drop⟩
theorem jJi {l:List qR}:∀{r:List qR} {i:Nat} {st st':List Int},mB l r i st=.inr st'→∀x∈r,wq x=true:=by
 intro r
 induction r with
 |nil=>simp
 |cons y r ih=>
  intro i st st' h x hx;rw[KU]at h
  split at h
  ·rename_i hw;rcases List.mem_cons.1 hx with rfl |hx
   ·exact(x9 hw).1
   grind
  grind
theorem jQC {l:List qR}:∀{r:List qR} {i:Nat} {st:List Int} {q:Int×Int},mB l r i st=.inl q→q.2≠0:=by
 intro r
 induction r with
 |nil=>nofun
 |cons y r ih=>
  grind[KU]
theorem NK {l:List qR} (h:(xO l).2=0):mB l l 0 []=.inr []:=by
 grind[xO,mB,absurd,jQC]
theorem Za (hn:6≤n) {l:List qR} (H:HS g h R) (S:Rd g R 5 l.length sv (l.flatMap jM)) (hl:l.length≤100) :
  aH n 136 [.agg [sv]] h λv h'=>v=.cn [.int .i64 (xO l).1,.int .i64 (xO l).2]∧HS g h' R:=by
 refine aG (S:=S136) rfl omQ λk hk=>?_;unfold S136;try simp only[iZ]
 refine qM H (gw (Jh (S.sl H))) λb0 h1 H1=>?_;have Ll:=(S.sl H).uG;clear H;have hC:xO l=if l.length=0∨40<l.length then(0,4)else match mB l l 0 []with
  | .inl r=>r
  | .inr st=>if st=[]then YM l (gr l 0 []) l 0 else(jq st,12):=rfl
 generalize xO l=C at*;refine qQ (qK ‹_› .here rfl ?_);refine vG ‹_› ?_;by_cases c0:l.length=0
 ·rw[iJ (.inl c0)]at hC;subst hC;refine qz omQ<|qX<|jG<|qB (qZ ?_)
  exact qY ⟨rfl,H1.drop⟩
 by_cases c1:40<l.length
 ·rw[iJ (.inr c1)]at hC;subst hC;refine qV omQ<|qX<|qp<|qQ (qK ‹_› .here rfl ?_);refine vG ‹_›<|yc omQ<|qH (qZ ?_)
  exact qY ⟨rfl,H1.drop⟩
 rw[iQ omQ]at hC;refine qV omQ<|qX<|qp<|qQ (qK ‹_› .here rfl ?_);refine vG ‹_›<|yj omQ<|qH (qJ (qQ (qK ‹_› .here rfl ?_)));refine vG ‹_› ?_
 generalize hG:mB l l 0 []=G at hC;refine jS (λm s h'=>∃(i:Nat) (st:List Int) (tv:AV),s=(.int .i64 (i:Int),.int .i64 (l.length:Int),sv,tv,.ptr b0 0,())∧i≤l.length∧m=l.length-i∧cL i st∧st.length≤i∧mB l (l.drop i) i st=G∧HS g h' (tc tv st::qk b0 [sv]::R))
  ?_ (m:=l.length) (by grind) ⟨0,[],.ap,rfl,by omega,by rfl,cL.nil,by simp,hG,H1.ap (e:=3) (sz:=1)⟩
 clear H1;rintro m ih s h2 bN ⟨i,st,tv,rfl,hi,rfl,hs,ng,fc,H⟩;by_cases ax:i<l.length
 ·rw[Uz ax]at fc;have l8:=GP ax;generalize l[i]=x at*;refine jc omQ<|qZ (xQ (S.sl H.drop.drop) ax omQ l8 ?_);refine qM H rfl λb h4 H4=>?_;refine qe H4 .here rfl (by simp) rfl λh5 H5=>?_;refine qD H5 e_2 rfl omQ rfl<|qD H5 .here rfl omQ rfl<|qW (qqL omQ H5 S.more.more.more (Rd.own e_1) (λy hy=>by have:=hs y hy;omega) omQ) ?_;rintro _ h6 ⟨rfl,H6⟩;by_cases hw:xW l st x=0
  ·rw[iJ hw]at fc;have ho:=x9 hw;refine jB hw ?_;unfold jM at H6;refine qJ (qQ (qK ‹_› .here rfl ?_));refine qW (Nj omQ (H6.aM e_1) (λh=>ho.2.1 (.inl h)) omQ) ?_;intro Sp h8 H8;have Sq:=My st i x.1;refine qa omQ<|bN (l.length-(i+1)) _ _ omQ ⟨i+1,jE st i x.1,Sp,rfl,by omega,rfl,hs.behind,by omega,fc,H8.pk [0] 1⟩
  ·rw[iQ hw]at fc;subst fc;rw[hC];refine jg hw<|qZ (qx ?_);exact qY ⟨rfl,H6.drop.drop.drop⟩
 ·obtain rfl:i=l.length:=by omega
  rw[List.drop_length]at fc;have fc:(Sum.inr st:(Int×Int) ⊕ List Int)=G:=fc;subst fc;dsimp only at hC;refine jH omQ (qJ ?_);refine yy (H.sl .here) ?_;by_cases h0:st=[]
  ·subst h0;rw[iJ rfl]at hC;rw[show([]:List Int).length=0 from rfl];refine yj omQ<|qJ (qX ?_);(try dsimp only)
   refine qD H e_1 rfl omQ rfl<|qD H e_1 rfl omQ rfl<|qW (VW omQ H S.more.more hG hl) ?_;intro av h3 H3;refine qW (qYh omQ H3 S.more.more.more (by rw[MV];exact Rd.own .here) MV (jJi hG) hl) ?_;rintro _ h4 ⟨rfl,H4⟩;rw[← hC];refine qy rfl<|qy rfl<|xG H e_1 rfl H3 e_2 rfl rfl omQ (HS.lt H e_1)<|qx<|qY ⟨rfl,H4.drop.drop.drop⟩
  ·rw[iQ h0]at hC;subst hC;have l5:st.length≠0:=λh=>h0 (iA h);refine yc omQ<|qZ (qW (KG omQ (H.sl .here) omQ) ?_);rintro _ h3 ⟨rfl,rfl⟩;refine qx<|qY ⟨rfl,H.drop.drop⟩
theorem jV3 {l:List qR} (hg:mB l l 0 []=.inr st') (hi:i<l.length) (ho:0<zA l[i].1∨l[i].1=16):∃p:Nat,(gr l 0 [])[i]? =some (p:Int)∧p<l.length:=by
 obtain⟨s,h1,h2⟩:=qk6 hi;obtain⟨h3,h4⟩:=h2 hg cL.nil;have hw:=h4 l[i] (iW hi);have bJ:=(x9 hw).2.1 ho;have dY:=h3.eP bJ;refine⟨(jq s).toNat,?_,by omega⟩;grind
end
section
variable {g h:AH} {L R:List SP}
theorem bp.lf (s:bp A P A') (R:List SP):bp (A++R) P (A'++R):=by
 induction s with
 |here=>exact .here
 |there s ih=>exact .there ih
theorem HS.mQ (s:bp A P A') (H:HS g h (.all A::R)):HS g h (P:: .all A'::R):=by have H1:=(H.cI).aM (bp.lf s R);have H2:=HS.allI (HS.back (A:=A') H1);exact H2.pk [1] 0
theorem HS.tf (s:bp A P A') (H:HS g h (P:: .all A'::R)):HS g h (.all A::R):=by have H1:HS g h (.all A'::P::R):=H.pk [1] 0;have H2:=(H1.cI).aM (bp.skip A' .here);exact HS.allI (HS.cG (bp.lf s R) H2)
def Lm (p:AV×AV) (x:bM):SP:=.all [aa 177 2 x.1.length p.1 (x.1.flatMap jn),aa 3 1 x.2.length p.2 (x.2.map (.int .i64))]
theorem Lm.E {p:AV×AV} {x:bM} (H:HS g h (Lm p x::R)):HS g h (aa 177 2 x.1.length p.1 (x.1.flatMap jn)::aa 3 1 x.2.length p.2 (x.2.map (.int .i64))::R):=H.cI
theorem Lm.I {p:AV×AV} {x:bM} (H:HS g h (aa 177 2 x.1.length p.1 (x.1.flatMap jn)::aa 3 1 x.2.length p.2 (x.2.map (.int .i64))::R)):HS g h (Lm p x::R):=H.allI
def Z5 (ps:List (AV×AV)):List AV:=ps.reverse.flatMap λp=>[p.1,p.2]
end
section
variable {g h:AH} {L R:List SP}
def bX (lv:List bM):Nat:=(lv.map λx=>x.2.length).sum
theorem JD (x:bM) (r:List bM):bX (x::r)=x.2.length+bX r:=by rfl
theorem qxn {x y:bM} {r:List bM}:bX (Xx (x::y::r)).2=bX (x::y::r):=by grind[bX,Xx]
theorem qGr (lv:List bM):(wN lv).length=bX lv:=by simp[wN,bX,List.length_flatMap,List.map_reverse]
end
end Go.Proofs.YtemjbhdofokbhaaGreatDoor
