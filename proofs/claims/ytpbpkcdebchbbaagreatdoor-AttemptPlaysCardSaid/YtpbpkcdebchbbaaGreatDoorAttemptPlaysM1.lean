/- Lemmas for 'quietus/quietuslaw26.AttemptPlays': What a transaction knows and writes, as plain data: cells, levels, views;Write sets: by the program;Levels of cells and frees: by the program;Views: by the ... No condition. -/
import Derived.Test.YtpbpkcdebchbbaaGreatDoorAttemptPlaysAe7
import Derived.Test.YtpbpkcdebchbbaaGreatDoorAttemptPlaysT
import Derived.KernelRfl
namespace Go.Proofs.YtpbpkcdebchbbaaGreatDoor
open Go Go.Ae
set_option maxRecDepth 100000
section
abbrev Cl:Type:=Int×Int
def jH (c:Int×Int):List AV:=[.int .i64 c.1,.int .u64 c.2]
def JQ (p:Int):List Cl→Option Nat
 |[]=>none
 |c::l=>if c.1=p then some 0 else(JQ p l).map (· +1)
def zc (p:Int):List Cl→Option Int
 |[]=>none
 |c::l=>if c.1=p then some c.2 else zc p l
def yn (p v:Int):List Cl→List Cl
 |[]=>[(p,v)]
 |c::l=>if c.1=p then(p,v)::l else c::yn p v l
def yN (l cs:List Cl):List Cl:=cs.foldl (λl c=>yn c.1 c.2 l) l
theorem kK {p:Int} {l:List Cl}:JQ p l=none↔zc p l=none:=by
 induction l with
 |nil=>simp[JQ,zc]
 |cons c l ih=>
  unfold JQ zc
  split<;>simp_all
theorem kg {p:Int}:∀{l:List Cl} {i:Nat},JQ p l=some i→i<l.length∧(∃x,l[i]? =some (p,x)∧zc p l=some x)∧∀v,yn p v l=l.set i (p,v):=by
 intro l
 induction l with
 |nil=>nofun
 |cons c l ih=>
  intro i h;unfold JQ at h;unfold zc
  split at h
  ·rename_i hc;cases h;rw[iJ hc];refine⟨by simp,⟨c.2,by grind,rfl⟩,λv=>?_⟩;simp_all[yn]
  ·rename_i hc;rw[iQ hc];cases hi:JQ p l with
   |none=>grind
   |some j=>rw[hi]at h;cases h;obtain⟨h1,⟨x,h2,pC⟩,h3⟩:=ih hi;simp_all[yn]
theorem Jx {p v:Int} {l:List Cl} (h:zc p l=none):yn p v l=l++[(p,v)]:=by
 induction l with
 |nil=>rfl
 |cons c l ih=>
  unfold zc at h
  split at h
  all_goals simp_all[yn]
theorem UT {p:Int}:∀{l:List Cl} {i:Nat},i<l.length→(∀j,j<i→∀c,l[j]? =some c→c.1≠p)→(∃x,l[i]? =some (p,x))→JQ p l=some i:=by
 intro l
 induction l with
 |nil=>simp
 |cons c l ih=>
  intro i hi h1 ⟨x,h2⟩;unfold JQ;cases i with
  |zero=>grind
  |succ i=>rw[iQ (h1 0 omQ c rfl),ih (by simpa using hi) (λj hj c' mi=>h1 (j+1) omQ c' (by grind)) ⟨x,by grind⟩];rfl
theorem Oi {p:Int}:∀{l:List Cl},(∀c∈l,c.1≠p)→JQ p l=none:=by
 intro l
 induction l with
 |nil=>intro _;rfl
 |cons c l ih=>intro h;simp_all[JQ]
theorem GC {p v:Int} {l:List Cl}:(yn p v l).length=if zc p l=none then l.length+1 else l.length:=by
 induction l with
 |nil=>rfl
 |cons c l ih=>
  grind[yn,zc,List.length_cons]
theorem Zz {p q v:Int} {l:List Cl}:zc q (yn p v l)=if q=p then some v else zc q l:=by
 induction l with
 |nil=>
  simp only[yn,zc];grind
 |cons c l ih=>
  unfold yn
  split
  ·rename_i hc;simp only[zc];grind
  ·rename_i hc;simp only[zc,ih];grind
def rD (l:List Cl):Prop:=∀c∈l,1≤c.1∧c.1<256
theorem rD.put {l:List Cl} {p v:Int} (h:rD l) (hp:1≤p∧p<256):rD (yn p v l):=by
 induction l with
 |nil=>intro c hc;grind[yn]
 |cons a l ih=>
  unfold yn
  split
  ·intro c hc;rcases List.mem_cons.1 hc with rfl |hc
   ·grind
   ·exact h c (iX _ hc)
  ·intro c hc;rcases List.mem_cons.1 hc with rfl |hc
   ·exact h _ (iK ..)
   ·exact ih (λc hc=>h c (iX _ hc)) c hc
def pD (l:List Cl):Prop:=(l.map (·.1)).Nodup
theorem Zj {p:Int} {l:List Cl}:zc p l=none↔p∉l.map (·.1):=by
 induction l with
 |nil=>simp[zc]
 |cons c l ih=>
  unfold zc
  grind
theorem qW2 {p v:Int} {l:List Cl}:(yn p v l).map (·.1)=if zc p l=none then l.map (·.1)++[p]else l.map (·.1):=by
 induction l with
 |nil=>rfl
 |cons c l ih=>
  unfold yn zc
  grind
theorem pD.put {l:List Cl} {p v:Int} (h:pD l):pD (yn p v l):=by
 grind[pD,qW2,Zj,List.nodup_append,List.mem_singleton]
theorem qYt {l:List Cl}:∀{cs:List Cl},pD cs→(∀c∈cs,zc c.1 l=none)→yN l cs=l++cs:=by
 intro cs
 induction cs generalizing l with
 |nil=>simp[yN]
 |cons c cs ih=>
  intro hu hn;have Dc:pD cs:=(List.nodup_cons.1 hu).2;have hc:c.1∉cs.map (·.1):=(List.nodup_cons.1 hu).1;show yN (yn c.1 c.2 l) cs=_
  rw[ih Dc (λd hd=>by
   rw[Zz,iQ (by grind)]
   grind),Jx (hn c (iK ..)),List.append_assoc]
  rfl
theorem Mo {cs:List Cl} (h:pD cs):yN [] cs=cs:=by rw[qYt h (λ_ _=>rfl),List.nil_append]
def Yg (m:Nat) (l:List Cl) (p v:Int):Int×List Cl :=
 if p<1∨256≤p then(2,l)else if zc p l=none∧m≤l.length then(5,l)else(0,yn p v l)
def Xc (m:Nat) (l:List Cl):List Cl→Int×List Cl
 |[]=>(0,l)
 |c::cs=>if(Yg m l c.1 c.2).1=0 then Xc m (Yg m l c.1 c.2).2 cs else Yg m l c.1 c.2
theorem qZ9 {m:Nat} {l:List Cl} {c:Cl} {cs:List Cl}:Xc m l (c::cs)=if(Yg m l c.1 c.2).1=0 then Xc m (Yg m l c.1 c.2).2 cs else Yg m l c.1 c.2:=rfl
theorem Y7 {m:Nat}:∀{cs l:List Cl},rD cs→l.length+cs.length≤m→Xc m l cs=(0,yN l cs):=by
 intro cs
 induction cs with
 |nil=>intro l _ _;rfl
 |cons c cs ih=>
  intro l hi hl;have hc:=hi c (iK ..);have hp:Yg m l c.1 c.2=(0,yn c.1 c.2 l):=by unfold Yg;grind
  unfold Xc
  rw[hp,iJ rfl,ih (λd hd=>hi d (iX _ hd)) (by
   grind[GC,yn])]
  rfl
abbrev ba:Type:=List Cl×List Int
def Xj (p:Int):List ba→Option Int
 |[]=>none
 |x::r=>match zc p x.1 with |some v=>some v |none=>Xj p r
def yl (lv:List ba):Nat:=(lv.map λx=>x.1.length).sum
def jL (lv:List ba):List Cl:=lv.foldl (λout x=>yN x.1 out) []
def vw (lv:List ba):List Int:=lv.reverse.flatMap (·.2)
structure dL (most:Nat) (lv:List ba):Prop where
  held:yl lv≤most
  le:most≤96
  ins:∀x∈lv,rD x.1
  un:∀x∈lv,pD x.1
  one:1≤lv.length
  deep:lv.length≤6
def vk (most:Nat) (lv:List ba) (p v:Int):Int×List ba :=
 match lv with
 |[]=>(0,[])
 |x::r=>if p<1∨256≤p then(2,lv)else if zc p x.1=none∧most≤yl lv then(5,lv)else(0,(yn p v x.1,x.2)::r)
def vW (most:Nat) (az lv:List ba):List Cl→Int×List ba
 |[]=>(0,lv)
 |c::cs=>if(vk most lv c.1 c.2).1=0 then vW most az (vk most lv c.1 c.2).2 cs else((vk most lv c.1 c.2).1,az)
def gg (lv:List ba):Int×List ba:=if 6≤lv.length then(9,lv)else(0,([],[])::lv)
def wS (lv:List ba):Int×List ba:=if lv.length=1 then(10,lv)else(0,lv.tail)
def wR (lv:List ba):Int×List ba:=match lv with
 |x::y::r=>(0,(yN y.1 x.1,y.2++x.2)::r)
 |_=>(10,lv)
def J3 (lv:List ba) (b:Int):List ba:=match lv with
 |x::r=>(x.1,x.2++[b])::r
 |[]=>[]
theorem vC {most:Nat} {az lv:List ba} {c:Cl} {cs:List Cl}:vW most az lv (c::cs)=if(vk most lv c.1 c.2).1=0 then vW most az (vk most lv c.1 c.2).2 cs else((vk most lv c.1 c.2).1,az):=rfl
theorem xL {x:ba} {r:List ba}:yl (x::r)=x.1.length+yl r:=by rfl
theorem K9 {most:Nat} {lv:List ba} {p v:Int} (O:dL most lv):dL most (vk most lv p v).2∧(vk most lv p v).2.length=lv.length:=by
 cases lv with
 |nil=>trivial
 |cons x r=>
  unfold vk;dsimp only
  split
  ·grind
  ·rename_i hp
   split
   ·grind
   ·rename_i h1;have hh:=O.held;rw[xL]at hh;refine⟨⟨?_,O.le,?_,?_,by simp,O.deep⟩,rfl⟩
    ·grind[xL,GC,yl]
    ·intro y hy;rcases List.mem_cons.1 hy with rfl |hy
     ·exact(O.ins x (iK ..)).put omQ
     ·exact O.ins y (iX _ hy)
    ·intro y hy;rcases List.mem_cons.1 hy with rfl |hy
     ·exact(O.un x (iK ..)).put
     ·exact O.un y (iX _ hy)
theorem ZH {most:Nat} {az:List ba} (W:dL most az):∀{cs:List Cl} {lv:List ba},dL most lv→lv.length=az.length→dL most (vW most az lv cs).2∧(vW most az lv cs).2.length=az.length:=by
 intro cs
 induction cs with
 |nil=>intro lv O hl;trivial
 |cons c cs ih=>
  intro lv O hl;unfold vW
  split
  ·grind[K9,trans]
  grind
theorem qzs {most:Nat} {lv:List ba} (O:dL most lv):dL most (gg lv).2:=by
 unfold gg
 split
 ·grind
 ·refine⟨by rw[xL];have:=O.held;grind,O.le,?_,?_,by simp,by grind⟩
  ·intro y hy;rcases List.mem_cons.1 hy with rfl |hy
   ·nofun
   ·exact O.ins y hy
  ·intro y hy;rcases List.mem_cons.1 hy with rfl |hy
   ·exact List.nodup_nil
   ·exact O.un y hy
theorem qjo {most:Nat} {lv:List ba} (O:dL most lv):dL most (wS lv).2:=by
 unfold wS
 split
 ·grind
 ·rename_i h1;cases lv with
  |nil=>grind
  |cons x r=>
   have hh:=O.held;have h2:=O.deep;rw[xL]at hh;simp at h1 h2;refine⟨by grind,O.le,λy hy=>O.ins y (iX _ hy),λy hy=>O.un y (iX _ hy),?_,by grind⟩;grind
theorem GG:∀{cs l:List Cl},(yN l cs).length≤l.length+cs.length:=by
 intro cs
 induction cs with
 |nil=>intro l;exact Nat.le_refl _
 |cons c cs ih=>
  grind[yn,GC,yN,List.length_cons]
theorem rD.rE:∀{cs l:List Cl},rD l→rD cs→rD (yN l cs):=by
 intro cs
 induction cs with
 |nil=>intro l h _;exact h
 |cons c cs ih=>intro l h hc;exact ih (h.put (hc c (iK ..))) λd hd=>hc d (iX _ hd)
theorem pD.rE:∀{cs l:List Cl},pD l→pD (yN l cs):=by
 intro cs
 induction cs with
 |nil=>intro l h;exact h
 |cons c cs ih=>intro l h;exact ih h.put
theorem qQa {most:Nat} {lv:List ba} (O:dL most lv):dL most (wR lv).2:=by
 match lv,O with
 |[],O=>exact O
 |[x],O=>exact O
 |x::y::r,O=>
  have hh:=O.held;have h2:=O.deep;rw[xL,xL]at hh;have:=GG (cs:=x.1) (l:=y.1);refine⟨by show yl ((yN y.1 x.1,y.2++x.2)::r)≤most;grind[xL],O.le,?_,?_,by simp[wR],by grind[wR]⟩
  ·intro z hz;rcases List.mem_cons.1 hz with rfl |hz
   ·exact(O.ins y aA).rE (O.ins x aA)
   ·exact O.ins z (by grind)
  ·intro z hz;rcases List.mem_cons.1 hz with rfl |hz
   ·exact(O.un y aA).rE
   ·exact O.un z (by grind)
theorem qqp {most:Nat} {lv:List ba} {b:Int} (O:dL most lv):dL most (J3 lv b):=by
 cases lv with
 |nil=>exact O
 |cons x r=>
  refine⟨O.held,O.le,?_,?_,by simp[J3],O.deep⟩
  ·intro z hz;rcases List.mem_cons.1 hz with rfl |hz
   ·exact O.ins x aA
   ·exact O.ins z (by grind)
  ·intro z hz;rcases List.mem_cons.1 hz with rfl |hz
   ·exact O.un x aA
   ·exact O.un z (by grind)
end
section
variable {g h:AH} {L R:List SP}
def dn (w m:Nat) (l:List Cl):SP:=.ex λv=>.all [qx w [.int .i64 (m:Int),v],qF 129 2 l.length v (l.flatMap jH)]
theorem dn.E {w m:Nat} {l:List Cl} (H:HS g h (dn w m l::R)):∃v,HS g h (qx w [.int .i64 (m:Int),v]::qF 129 2 l.length v (l.flatMap jH)::R):=by obtain⟨v,H⟩:=H.dj;exact⟨v,H.bS⟩
theorem dn.I {w m:Nat} {l:List Cl} {v:AV} (H:HS g h (qx w [.int .i64 (m:Int),v]::qF 129 2 l.length v (l.flatMap jH)::R)):HS g h (dn w m l::R) :=
 HS.dE v (HS.allI H)
theorem Xb (l:List Cl):jV (l.flatMap jH)=true:=by unfold jV;rw[List.all_eq_true];intro v hv;obtain⟨c,_,hc⟩:=List.mem_flatMap.1 hv;simp[jH]at hc;rcases hc with rfl |rfl<;>rfl
theorem G5 {l:List Cl} {i:Nat} {c:Cl} (h:l[i]? =some c):((l.flatMap jH).drop (i*2)).take 2=jH c:=by obtain⟨hi,e⟩:=List.getElem?_eq_some_iff.1 h;rw[QW jH (λ_=>rfl),List.drop_eq_getElem_cons hi,e,List.flatMap_cons];rfl
theorem qQD {l:List Cl} {i:Nat} {p x v:Int} (h:l[i]? =some (p,x)):(l.flatMap jH).set (i*2+1) (.int .u64 v)=(l.set i (p,v)).flatMap jH:=by
 have hi:=(List.getElem?_eq_some_iff.1 h).1;apply List.ext_getElem?;intro j;have hd:j=j/2*2+j%2:=by omega
 have hm:j%2<2:=by omega
 rw[List.getElem?_set,vD (sz:=2) jH (λ_=>rfl)];have e1:=xl (sz:=2) jH (λ_=>rfl) l (j/2) (j%2) hm;have e2:=xl (sz:=2) jH (λ_=>rfl) (l.set i (p,v)) (j/2) (j%2) hm;rw[← hd]at e1 e2;rw[e1,e2,List.getElem?_set];by_cases h1:i*2+1=j
 ·have:j/2=i:=by omega
  have h3:j%2=1:=by omega
  rw[iJ h1,iJ omQ,iJ this.symm,iJ hi,h3];rfl
 ·rw[iQ h1];by_cases h2:i=j/2
  ·have h3:j%2=0:=by omega
   rw[iJ h2,iJ hi,h3,← h2,h];rfl
  grind
def zI (o:Option Nat):Int:=match o with |some i=>(i:Int) |none=>-1
theorem Ow {n:Nat} (hn:1≤n) {m:Nat} (hm:m≤96) (H:HS g h R):af n 201 [.int .i64 (m:Int)] h λv h'=>∃w,v=.ptr w 0∧HS g h' (dn w m []::R):=by
 refine ag rfl omQ λk hk=>?_;unfold S201;try simp only[iZ]
 refine zS (zu (qy rfl (qH H rfl λw h2 H2=>qY ⟨w,rfl,?_⟩)));rw[show max ((0:Nat):Int) (min (m:Int) ((96:Nat):Int))=(m:Int) by omega]at H2;exact dn.I ((H2.ad).ah e_1 :)
theorem qV7 {n:Nat} (hn:2≤n) {p:Int} {v:AV} {c0:Nat} {l:List Cl} (H:HS g h L) (S:Rd g L 2 l.length v (l.flatMap jH)) (s:aR L (qx c0 [.int .i64 p]) R) (hl:l.length<1000000) :
  af n 314 [v,.fn 315 [] [.ptr c0 0]] h λv h'=>v=.int .i64 (zI (JQ p l))∧HS g h' L:=by
 refine aG rfl omQ λk hk=>?_;unfold S314;try simp only[iZ]
 refine zH (S.sl H) ?_
 refine(jF (λm s h'=>∃i:Nat,s=(.int .i64 (i:Int),.int .i64 (l.length:Int),.fn 315 [] [.ptr c0 0],v,())∧i≤l.length∧m=l.length-i∧HS g h' L∧
  (∀j,j<i→∀c,l[j]? =some c→c.1≠p)) ?_ (m:=l.length) omQ ⟨0,rfl,by omega,by rfl,H,λj hj=>by omega⟩)
 rintro m ih s' h' aY ⟨i,rfl,h1,rfl,H,h2⟩;refine zK (λae=>qX ?_) λeL=>qJ (qg (qY ⟨?_,H⟩))
 ·have hi:i<l.length:=by omega
  have hc:l[i]? =some l[i]:=iW hi;refine zj (S.sl H) hi omQ (G5 hc)<|qW (Q':=λv h2=>v=.bool (decide (l[i].1=p))∧HS g h2 L) (Wr rfl omQ λk hk=>?_) ?_
  ·show wp (S315 (callT tab qv k) _ _ _).1 _;unfold S315;try simp only
   refine qH H rfl λb h3 H3=>?_;refine qQ (qZ ‹_› .here rfl ?_);refine qZ H3 (.there s) rfl (gc (qY ⟨rfl,H3.drop⟩))
  ·rintro _ h3 ⟨rfl,H3⟩;refine Gi (λhe=>qg (qY ⟨?_,H3⟩)) λbG=>qS omQ ?_
   ·rw[UT hi h2 ⟨l[i].2,by grind⟩];rfl
   ·refine aY (l.length-(i+1)) _ _ omQ ⟨i+1,rfl,by omega,rfl,H3,λj hj c mi=>?_⟩;grind
 ·rw[Oi λc hc=>?_]
  ·rfl
  grind[List.getElem?_of_mem,List.getElem?_eq_some_iff]
theorem qQ1 {n:Nat} (hn:3≤n) {w m:Nat} {l:List Cl} {p:Int} (H:HS g h (dn w m l::R)) (hl:l.length<1000000) :
  af n 265 [.ptr w 0,.int .i64 p] h λv h'=>v=.int .i64 (zI (JQ p l))∧HS g h' (dn w m l::R):=by
 refine aG rfl omQ λk hk=>?_;unfold S265;try simp only
 obtain⟨v,H⟩:=dn.E H;refine Xu H ⟨rfl,rfl⟩ λc0 h2 H2=>?_;refine qK (qQ (qZ ‹_› e_1 rfl ?_));refine qW (qV7 omQ H2 (H2.rd e_2) .here hl) ?_;rintro _ h3 ⟨rfl,H3⟩;exact qY ⟨rfl,dn.I H3.drop⟩
theorem qKb {n:Nat} (hn:4≤n) {w m:Nat} {l:List Cl} {p:Int} (H:HS g h (dn w m l::R)) (hl:l.length<1000000) :
  af n 291 [.ptr w 0,.int .i64 p] h λv h'=>v=.bm [.int .u64 ((zc p l).getD 0),.bool (zc p l).isSome]∧HS g h' (dn w m l::R):=by
 refine aG rfl omQ λk hk=>?_;unfold S291;try simp only[iZ]
 refine qW (qQ1 omQ H hl) ?_;rintro _ h3 ⟨rfl,H3⟩;cases hi:JQ p l with
 |none=>refine jz (by nofun)<|qJ<|qY ⟨by grind[kK],H3⟩
 |some i=>obtain⟨h1,⟨x,h2,pC⟩,_⟩:=kg hi;refine jA (by show((0:Nat):Int)≤(i:Int);omega) ?_;obtain⟨v,H4⟩:=dn.E H3;refine qX (qK (qQ (qZ ‹_› .here rfl ?_)));refine jU (H4.sl e_1) omQ h1 ?_ (qY ⟨by rw[pC];rfl,H3⟩);rw[xl jH (λ_=>rfl) _ _ _ omQ,h2];rfl
theorem qXi {n:Nat} (hn:4≤n) {w m:Nat} {l:List Cl} {p x:Int} (H:HS g h (dn w m l::R)) (hl:l.length<1000000) :
  af n 235 [.ptr w 0,.int .i64 p,.int .u64 x] h λv h'=>v=.int .i64 (Yg m l p x).1∧HS g h' (dn w m (Yg m l p x).2::R):=by
 refine b8 rfl omQ λk hk=>?_;unfold S235;try simp only[iZ]
 unfold Yg;by_cases hp:p<1∨256≤p
 ·rw[iJ hp]
  repeat' (first |refine qX ?_ |refine qJ ?_ |(refine qR ?_;try dsimp only) |(refine qf ?_;try dsimp only) |(refine qT ?_;try dsimp only) |(refine qM ?_;try dsimp only) |(refine jT ?_;try dsimp only) |refine qC ?_ |refine qB ?_ |(with_reducible refine qG ?_;try dsimp only) |refine qg ?_ |refine jQ ?_ |refine jg ?_ |refine qS omQ ?_ |refine jK omQ ?_ |refine xT omQ ?_ |refine yT omQ ?_ |refine zS ?_ |refine zu ?_ |refine qj omQ ?_ |refine qV omQ ?_ |refine jJ omQ ?_ |refine q9 omQ ?_ |refine jB omQ ?_ |refine jk omQ ?_ |refine yq omQ ?_ |refine yY omQ ?_ |refine zv omQ ?_ |refine zV omQ ?_ |refine jA omQ ?_ |refine jz omQ ?_ |refine zK (λhc=>?_) (λhc=>?_) |refine yb (λhc=>?_) (λhc=>?_) |refine yz (λhc=>?_) (λhc=>?_) |refine xF (λhc=>?_) (λhc=>?_) |refine xR (λhc=>?_) (λhc=>?_) |refine xx (λhc=>?_) (λhc=>?_) |refine yD (λhc=>?_) (λhc=>?_))
  all_goals exact qY ⟨rfl,H⟩
 rw[iQ hp];refine jk omQ<|qG<|qM<|jz omQ<|qB (qJ ?_)
 refine qW (qQ1 omQ H hl) ?_;rintro _ h3 ⟨rfl,H3⟩;cases hi:JQ p l with
 |none=>
  refine jz (by nofun) ?_;have hg:=kK.1 hi;obtain⟨v,H4⟩:=dn.E H3;refine qJ (qK (qQ (qZ ‹_› .here rfl ?_)));refine qd ‹_› e_1<|qK (qQ (qZ ‹_› .here rfl ?_));by_cases hf:m≤l.length
  ·rw[iJ ⟨hg,hf⟩];refine jA omQ<|qX<|qY ⟨rfl,H3⟩
  ·rw[iQ (λh=>hf h.2)];refine jz omQ<|qJ (qK (qQ (qZ ‹_› .here rfl ?_)));refine qy rfl<|qr H4 rfl rfl rfl rfl λv5 h5 H5=>?_;refine jh (H5.ah e_2) (H5.sl .here) omQ omQ rfl λv6 h6 H6=>?_;refine qK (qQ (qw H6 e_2 (H6.one .here) aA λh7 H7=>qY ⟨rfl,dn.I (v:=v6) ?_⟩));rw[Jx hg,List.flatMap_append,List.length_append];exact H7.pk [0,0] 1
 |some i=>obtain⟨h1,⟨y,h2,pC⟩,h5⟩:=kg hi;refine jA (by show((0:Nat):Int)≤(i:Int);omega) ?_;obtain⟨v,H4⟩:=dn.E H3;refine qX (qK (qQ (qZ ‹_› .here rfl ?_)));rw[iQ (λh=>by grind)];refine Vi (H4.ah e_1) h1 omQ ⟨rfl,rfl⟩ λh6 H6=>qY ⟨rfl,dn.I (v:=v) ?_⟩;rw[qQD h2]at H6;rw[h5,List.length_set];exact H6.pk [1] 0
theorem qQ5 {n:Nat} (hn:1≤n) {v:AV} {l:List Cl} (H:HS g h L) (s:aR L (qF 129 2 l.length v (l.flatMap jH)) R) (hl:l.length<1000000) :
  af n 167 [v] h λv' h'=>HS g h' (qF 129 2 l.length v' (l.flatMap jH)::L):=by
 refine ag rfl omQ λk hk=>?_;unfold S167;try simp only[iZ]
 refine Xo H s (λ_ h0=>qX (qY ?_)) (qJ ?_)
 ·have:=iA h0;subst this;exact H.ad
 ·refine qr (l:=[]) H rfl rfl rfl rfl λv2 h2 H2=>?_;refine jh H2 (H2.sl (.there s)) omQ omQ (Xb l) λv3 h3 H3=>qY ?_;grind
theorem Gq {n:Nat} (hn:2≤n) {w m:Nat} {l:List Cl} (H:HS g h (dn w m l::R)) (hl:l.length<1000000) :
  af n 203 [.ptr w 0] h λv h'=>HS g h' (qF 129 2 l.length v (l.flatMap jH)::dn w m l::R):=by
 refine ag rfl omQ λk hk=>?_;unfold S203;try simp only
 obtain⟨v,H⟩:=dn.E H;refine qK (qQ (qZ ‹_› .here rfl ?_));refine qW (qQ5 omQ H e_1 hl) λv3 h3 H3=>qY ?_;have:=dn.I (H3.sub (L':=_::_::qF 129 2 l.length v3 (l.flatMap jH)::R) (.cons e_1 (.cons e_1 .refl)));exact this.pk [1] 0
theorem qgn {n:Nat} (hn:1≤n) {w m:Nat} {l:List Cl} (H:HS g h (dn w m l::R)) :
  af n 388 [.ptr w 0] h λv h'=>v=.int .i64 (l.length:Int)∧h'=h:=by
 refine ag rfl omQ λk hk=>?_;unfold S388;try simp only
 obtain⟨v,H⟩:=dn.E H;refine qK (qQ (qZ ‹_› .here rfl ?_));refine qd ‹_› e_1<|qY ⟨rfl,rfl⟩
def kb (m:Nat) (l cs:List Cl):Int×List Cl:=if(Xc m l cs).1=0 then Xc m l cs else((Xc m l cs).1,l)
theorem Y4 {n:Nat} (hn:5≤n) {w m:Nat} {l cs:List Cl} {c:AV} (H:HS g h (dn w m l::R)) (S:Rd g R 2 cs.length c (cs.flatMap jH)) (hl:l.length<100000) (hc:cs.length<100000) :
  af n 202 [.ptr w 0,c] h λv h'=>v=.int .i64 (kb m l cs).1∧HS g h' (dn w m (kb m l cs).2::R):=by
 refine aG rfl omQ λk hk=>?_;unfold S202;try simp only[iZ]
 refine qW (Gq omQ H omQ) λv0 h1 H1=>?_;refine zH (S.sl H1.drop.drop)<|jF (λk s h'=>∃(i:Nat) (l':List Cl),s=(.int .i64 (i:Int),.int .i64 (cs.length:Int),c,v0,.ptr w 0,())∧i≤cs.length∧k=cs.length-i∧l'.length≤l.length+i∧
  HS g h' (dn w m l'::qF 129 2 l.length v0 (l.flatMap jH)::R)∧Xc m l cs=Xc m l' (cs.drop i)) ?_ (m:=cs.length) omQ ⟨0,l,rfl,by omega,by rfl,by omega,H1.pk [1] 0,rfl⟩
 rintro k ih s h2 aY ⟨i,l',rfl,h1,rfl,dN,H,hT⟩;refine zK (λae=>qX ?_) λeL=>qJ (qg (qY ?_))
 ·have hi:i<cs.length:=by omega
  have fX:cs[i]? =some cs[i]:=iW hi;refine zj (S.sl H.drop.drop) hi omQ (G5 fX)<|qH H rfl λb h3 H3=>qh H3 .here rfl (by simp) rfl λh4 H4=>?_;have H5:HS g h4 (qx b (jH cs[i])::dn w m l'::qF 129 2 l.length v0 (l.flatMap jH)::R):=H4;unfold jH at H5;refine qQ (qZ ‹_› .here rfl ?_);refine qQ (qZ ‹_› .here rfl ?_);refine qW (qXi omQ H5.drop omQ) ?_;rintro _ h6 ⟨rfl,H6⟩;rw[List.drop_eq_getElem_cons hi,qZ9]at hT;refine xx (λbG=>qX ?_) λhe=>qJ (qS omQ ?_)
  ·have bG:¬(Yg m l' cs[i].1 cs[i].2).1=0:=by grind
   rw[iQ bG]at hT;obtain⟨v7,H7⟩:=dn.E H6;refine qK (qQ (qw H7 .here (H7.one e_2) aA λh8 H8=>qg (qY ?_)));unfold kb;rw[hT,iQ bG];exact⟨rfl,dn.I (v:=v0) (H8.pk [0,1] 1)⟩
  ·have F4:(Yg m l' cs[i].1 cs[i].2).1=0:=by grind
   rw[iJ F4]at hT;refine aY (cs.length-(i+1)) _ _ omQ ⟨i+1,_,rfl,by omega,rfl,?_,H6,hT⟩;grind[GC,Yg]
 ·rw[List.drop_of_length_le omQ]at hT;have hT:Xc m l cs=(0,l'):=hT;unfold kb;rw[hT,iJ rfl];exact⟨rfl,H.pk [0] 1⟩
end
section
variable {g h:AH} {L R:List SP}
def cR (a:Nat) (x:ba):SP:=.ex λw=>.ex λfv=>.all [qx a [.ptr w 0,fv],dn w 96 x.1,qF 3 1 x.2.length fv (x.2.map (.int .i64))]
theorem cR.E {a:Nat} {x:ba} (H:HS g h (cR a x::R)):∃w fv,HS g h (qx a [.ptr w 0,fv]::dn w 96 x.1::qF 3 1 x.2.length fv (x.2.map (.int .i64))::R):=by obtain⟨w,H⟩:=H.dj;obtain⟨fv,H⟩:=H.dj;exact⟨w,fv,H.bS⟩
theorem cR.I {a w:Nat} {fv:AV} {x:ba} (H:HS g h (qx a [.ptr w 0,fv]::dn w 96 x.1::qF 3 1 x.2.length fv (x.2.map (.int .i64))::R)):HS g h (cR a x::R) :=
 HS.dE w (HS.dE fv (HS.allI H))
def yM (ps:List Nat):List AV:=ps.reverse.map λa=>.ptr a 0
def bU (q most:Nat) (lv:List ba):SP:=.ex λv=>.ex λps:List Nat=>.all (.di (ps.length=lv.length)::qx q [.int .i64 (most:Int),v]::qF 267 1 lv.length v (yM ps)::List.zipWith cR ps lv)
theorem bU.E {q most:Nat} {lv:List ba} (H:HS g h (bU q most lv::R)):∃v ps,ps.length=lv.length∧HS g h (qx q [.int .i64 (most:Int),v]::qF 267 1 lv.length v (yM ps)::(List.zipWith cR ps lv++R)):=by obtain⟨v,H⟩:=H.dj;obtain⟨ps,H⟩:=H.dj;obtain⟨e,H⟩:=HS.cX (H.bS);exact⟨v,ps,e,H⟩
theorem bU.I {q most:Nat} {lv:List ba} {v:AV} {ps:List Nat} (e:ps.length=lv.length) (H:HS g h (qx q [.int .i64 (most:Int),v]::qF 267 1 lv.length v (yM ps)::(List.zipWith cR ps lv++R))):HS g h (bU q most lv::R) :=
 HS.dE v (HS.dE ps (HS.allI (HS.dF e H)))
theorem bU.E1 {q most:Nat} {x:ba} {r:List ba} (H:HS g h (bU q most (x::r)::R)):∃v a ps,ps.length=r.length∧HS g h (qx q [.int .i64 (most:Int),v]::qF 267 1 (r.length+1) v (yM (a::ps))::cR a x::(List.zipWith cR ps r++R)):=by
 obtain⟨v,ps,e,H⟩:=bU.E H;cases ps with
 |nil=>grind
 |cons a ps=>exact⟨v,a,ps,by grind,H⟩
theorem bU.I1 {q most:Nat} {x:ba} {r:List ba} {v:AV} {a:Nat} {ps:List Nat} (e:ps.length=r.length) (H:HS g h (qx q [.int .i64 (most:Int),v]::qF 267 1 (r.length+1) v (yM (a::ps))::cR a x::(List.zipWith cR ps r++R))):HS g h (bU q most (x::r)::R) :=
 bU.I (ps:=a::ps) (by grind) H
theorem qJR (a:Nat) (ps:List Nat):(yM (a::ps))[ps.length]? =some (.ptr a 0):=by simp[yM,List.reverse_cons,List.map_append,aA]
theorem G8 {ps:List Nat} {i:Nat} (hi:i<ps.length):(yM ps)[i]? =(ps[ps.length-1-i]?).map λa=>.ptr a 0:=by unfold yM;grind
theorem UG {ps:List Nat}:∀{lv:List ba} {i a:Nat} {x:ba},ps[i]? =some a→lv[i]? =some x→∃T,aR (List.zipWith cR ps lv++R) (cR a x) T:=by
 induction ps with
 |nil=>simp
 |cons b ps ih=>
  intro lv i a x h1 h2;cases lv with
  |nil=>grind
  |cons y lv=>
   cases i with
   |zero=>simp at h1 h2;subst h1;subst h2;exact⟨_,.here⟩
   |succ i=>obtain⟨T,s⟩:=ih (by simpa using h1) (by simpa using h2);exact⟨_,.there s⟩
theorem Yf {n q:Nat} (hn:1≤n) {m v:AV} {a:Nat} {ps:List Nat} {R1 R2:List SP} {e:TypeId} (H:HS g h L) (s1:aR L (qx q [m,v]) R1) (s2:aR L (qF e 1 (ps.length+1) v (yM (a::ps))) R2) (hl:ps.length<1000000) :
  af n 292 [.ptr q 0] h λr h'=>r=.ptr a 0∧h'=h:=by
 refine ag rfl omQ λk hk=>?_;unfold S292;try simp only[iZ]
 refine qK (qQ (qZ H s1 rfl (qK (qQ (qZ H s1 rfl (qd H s2 (jK omQ ?_)))))));rw[show((ps.length+1:Nat):Int)-((1:Nat):Int)=((ps.length:Nat):Int) by omega];exact jN (H.sl s2) (qJR a ps) (qY ⟨rfl,rfl⟩)
theorem NL {n:Nat} (hn:2≤n) (H:HS g h R):af n 193 [] h λv h'=>∃a,v=.ptr a 0∧HS g h' (cR a ([],[])::R):=by
 refine Fl rfl omQ λk hk=>?_;unfold S193;try simp only[iZ]
 refine qW (Ow omQ omQ H) ?_;rintro _ h2 ⟨w,rfl,H2⟩;refine qy rfl (qH H2 rfl λa h3 H3=>qY ⟨a,rfl,?_⟩);exact cR.I (fv:=.ad) ((H3.ad).pk [1,1,0] 0)
theorem qkt {n:Nat} (hn:3≤n) {m:Int} (H:HS g h R):af n 146 [.int .i64 m] h λv h'=>∃q,v=.ptr q 0∧HS g h' (bU q (max 0 (min m 96)).toNat [([],[])]::R):=by
 refine ag rfl omQ λk hk=>?_;unfold S146;try simp only[iZ]
 refine zS (zu (qW (NL omQ H) ?_));rintro _ h2 ⟨a,rfl,H2⟩;refine qr H2 rfl rfl rfl rfl λv h3 H3=>?_;have h1:=H3.one .here;refine qy (by simp only[vG,h1.1];rfl)<|qH H3 (by show(true&&(v.one&&true))=true;rw[h1.2];rfl) λq h4 H4=>qY ⟨q,rfl,?_⟩;refine bU.I1 (v:=v) (a:=a) (ps:=[]) rfl ?_;rw[show(((max 0 (min m 96)).toNat:Nat):Int)=max ((0:Nat):Int) (min m ((96:Nat):Int)) by omega];exact H4
theorem qYS {n q most:Nat} (hn:2≤n) {lv:List ba} {b:Int} (H:HS g h (bU q most lv::R)) (O:dL most lv) (hf:∀x∈lv,x.2.length<1000000) :
  af n 386 [.ptr q 0,.int .i64 b] h λ_ h'=>HS g h' (bU q most (J3 lv b)::R):=by
 cases lv with
 |nil=>have:=O.one;grind
 |cons x r=>
 refine aG rfl omQ λk hk=>?_;unfold S386;try simp only[iZ]
 obtain⟨v,a,ps,e,H⟩:=bU.E1 H;rw[← e]at H;refine qW (Yf omQ H .here e_1 (by have:=O.deep;grind)) ?_;rintro _ _ ⟨rfl,rfl⟩;obtain⟨w,fv,H2⟩:=cR.E (H.ah e_2);refine qK (qQ (qZ ‹_› .here rfl ?_));refine qr H2 rfl rfl rfl rfl λv3 h3 H3=>?_;have:=hf x (iK ..);refine jh (H3.ah e_3) (H3.sl .here) omQ omQ rfl λv4 h4 H4=>?_;refine qK (qQ (qw H4 e_2 (H4.one .here) aA λh5 H5=>qY ?_));refine bU.I1 (v:=v) (a:=a) (ps:=ps) e ?_;rw[← e];have:=cR.I (fv:=v4) (x:=(x.1,x.2++[b]))
  (by rw[List.map_append,List.length_append];exact H5.pk [0,2,0,1,1] 1)
 exact this.pk [1,1] 0
theorem qW0 {n q most:Nat} (hn:1≤n) {lv:List ba} (H:HS g h (bU q most lv::R)) (O:dL most lv) (hf:(vw lv).length<1000000) :
  af n 159 [.ptr q 0] h λv h'=>HS g h' (qF 3 1 (vw lv).length v ((vw lv).map (.int .i64))::bU q most lv::R):=by
 refine ag rfl omQ λk hk=>?_;unfold S159;try simp only[iZ]
 have hd:=O.deep;obtain⟨v,ps,e,H⟩:=bU.E H;refine qK (qQ (qZ ‹_› .here rfl ?_));refine qd ‹_› e_1<|jF (λm s h'=>∃(i:Nat) (acc:AV),s=(.int .i64 (i:Int),.int .i64 (lv.length:Int),v,acc,())∧i≤lv.length∧m=lv.length-i∧
  HS g h' (qF 3 1 ((lv.reverse.take i).flatMap (·.2)).length acc (((lv.reverse.take i).flatMap (·.2)).map (.int .i64))::qx q [.int .i64 (most:Int),v]::qF 267 1 lv.length v (yM ps)::(List.zipWith cR ps lv++R)))
  ?_ (m:=lv.length) (by grind) ⟨0,.ad,rfl,by omega,by rfl,H.ad⟩
 rintro m ih s h' aY ⟨i,acc,rfl,h1,rfl,H⟩;refine zK (λae=>qX ?_) λeL=>qJ (qg (qY ?_))
 ·have hi:i<lv.length:=by omega
  have ha:ps[ps.length-1-i]? =some (ps[ps.length-1-i]'omQ):=iW _;have hx:lv[ps.length-1-i]? =some (lv[ps.length-1-i]'omQ):=iW _;generalize ps[ps.length-1-i]'omQ=a at ha;have mw:lv.reverse[i]? =some (lv[ps.length-1-i]'omQ):=by grind
  generalize lv[ps.length-1-i]'omQ=x at hx mw;refine jN (H.sl e_2) (by rw[G8 omQ,ha];rfl) ?_;obtain⟨T,s⟩:=UG ha hx;have H2:=H.ah (.there (.there (.there s)));obtain⟨w,fv,H3⟩:=cR.E H2;refine qK (qQ (qZ ‹_› .here rfl ?_));have hlen:((lv.reverse.take i).flatMap (·.2)).length+x.2.length≤(vw lv).length:=by
   have e1:lv.reverse.flatMap (·.2)=(lv.reverse.take (i+1)).flatMap (·.2)++(lv.reverse.drop (i+1)).flatMap (·.2):=by rw[← List.flatMap_append,List.take_append_drop]
   grind[vw,List.take_add_one]
  refine jh (H3.ah e_3) (H3.sl e_2) omQ omQ ?_ λv4 h4 H4=>qS omQ ?_
  ·simp[jV,AV.one]
  refine aY (lv.length-(i+1)) _ _ omQ ⟨i+1,v4,rfl,by omega,rfl,?_⟩;rw[List.take_add_one,mw,Option.toList_some,List.flatMap_append,List.map_append,List.length_append,List.flatMap_cons,List.flatMap_nil,List.append_nil];have H5:=cR.I (a:=a) (w:=w) (fv:=fv) (x:=x) (H4.sub (.cons e_1 (.cons e_1 (.cons e_1 .refl))));exact HS.dh (.there (.there (.there s))) (H5.sub (.refl))
 ·obtain rfl:i=lv.length:=by omega
  rw[List.take_of_length_le aA]at H;exact(bU.I (ps:=ps) e (HS.back (A:=_::_::List.zipWith cR ps lv) H)).pk [1] 0
theorem Cz (l:List Nat):l.reverse.sum=l.sum:=by
 simp
theorem qji {n q most:Nat} (hn:2≤n) {lv:List ba} (H:HS g h (bU q most lv::R)) (O:dL most lv) :
  af n 360 [.ptr q 0] h λv h'=>v=.int .i64 ((most:Int)-(yl lv:Int))∧h'=h:=by
 refine ag rfl omQ λk hk=>?_;unfold S360;try simp only[iZ]
 obtain⟨v,ps,e,H⟩:=bU.E H;have hh:=O.held;have hl:=O.le;have hd:=O.deep;refine qK (qQ (qZ ‹_› .here rfl ?_));refine qK (qQ (qZ ‹_› .here rfl ?_));refine qd ‹_› e_1<|jF (λm s h'=>∃(i:Nat),s=(.int .i64 (i:Int),.int .i64 (lv.length:Int),v,.int .i64 ((most:Int)-(((lv.reverse.take i).map λx=>x.1.length).sum:Nat)),())∧i≤lv.length∧m=lv.length-i∧h'=h)
  ?_ (m:=lv.length) omQ ⟨0,by simp,by omega,by rfl,rfl⟩
 rintro m ih s h' aY ⟨i,rfl,h1,rfl,rfl⟩;have oH:∀j,((lv.reverse.take j).map λx=>x.1.length).sum+((lv.reverse.drop j).map λx=>x.1.length).sum=yl lv:=by intro j;rw[← List.sum_append,← List.map_append,List.take_append_drop,List.map_reverse,Cz];rfl
 refine zK (λae=>qX ?_) λeL=>qJ (qg (qY ⟨?_,rfl⟩))
 ·have hi:i<lv.length:=by omega
  have ha:ps[ps.length-1-i]? =some (ps[ps.length-1-i]'omQ):=iW _;have hx:lv[ps.length-1-i]? =some (lv[ps.length-1-i]'omQ):=iW _;generalize ps[ps.length-1-i]'omQ=a at ha;have mw:lv.reverse[i]? =some (lv[ps.length-1-i]'omQ):=by grind
  generalize lv[ps.length-1-i]'omQ=x at hx mw;refine jN (H.sl e_1) (by rw[G8 omQ,ha];rfl) ?_;obtain⟨T,s⟩:=UG ha hx;obtain⟨w,fv,H3⟩:=cR.E (H.ah (.there (.there s)));refine qK (qQ (qZ ‹_› .here rfl ?_));refine qW (qgn omQ (H3.ah e_1)) ?_;rintro _ _ ⟨rfl,rfl⟩;have h3:=oH (i+1);have h4:((lv.reverse.take (i+1)).map λx=>x.1.length).sum=((lv.reverse.take i).map λx=>x.1.length).sum+x.1.length:=by rw[List.take_add_one,mw,Option.toList_some,List.map_append,List.sum_append];simp
  refine jK omQ (qS omQ (aY (lv.length-(i+1)) _ _ omQ ⟨i+1,?_,by omega,rfl,rfl⟩));grind
 grind[List.drop_of_length_le,yl]
theorem qXe {k b0 l:Nat} {v:AV} {ps:List Nat} {Inv:Nat→AH→Prop} {Fin:AH→Prop}
  (hrd:∀i h,Inv i h→h.at b0 0=some v∧Sl (λ_=>True) h 1 ps.length v (yM ps))
  (hy:∀i a h,ps[i]? =some a→Inv i h→wp (callT tab qv k (.yield l) [.int .i64 ((ps.length-1-i:Nat):Int),.ptr a 0] h) λr h'=>(r=.bool true∧Inv (i+1) h')∨(r=.bool false∧Fin h'))
  (hl:ps.length<1000000) (h0:Inv 0 h):wp (callT tab qv (k+1) (.fn 234 [] [.ptr b0 0]) [.yield l] h) λ_ h'=>Inv ps.length h'∨Fin h':=by
 refine Wr rfl omQ λk' hk=>?_;obtain rfl:k'=k:=by omega
 unfold S234
 try simp only[iZ]
 obtain⟨r1,r2⟩:=hrd 0 h h0;refine QO r1 (zH r2 (jK omQ ?_));refine jF (λm s h'=>∃i:Nat,s=(.int .i64 ((ps.length:Int)-((1:Nat):Int)-(i:Int)),.ptr b0 0,.yield l,())∧i≤ps.length∧m=ps.length-i∧Inv i h') ?_ (m:=ps.length) omQ ⟨0,by simp,by omega,by rfl,h0⟩;rintro m ih s h' aY ⟨i,rfl,h1,rfl,hI⟩;obtain⟨r1,r2⟩:=hrd i h' hI;refine xF (λae=>qX ?_) λeL=>qJ (qg (qY (.inl ?_)))
 ·have hi:i<ps.length:=by omega
  have ha:ps[i]? =some ps[i]:=iW hi;rw[show(ps.length:Int)-((1:Nat):Int)-(i:Int)=((ps.length-1-i:Nat):Int) by omega];refine QO r1 (jN r2 (by rw[G8 omQ,show ps.length-1-(ps.length-1-i)=i by omega,ha];rfl) ?_);refine qW (hy i _ h' ha hI) ?_;rintro _ h2 (⟨rfl,hI2⟩ |⟨rfl,hF⟩)
  ·refine jQ (qJ (jK omQ (aY (ps.length-(i+1)) _ _ omQ ⟨i+1,?_,by omega,rfl,hI2⟩)));grind
  ·exact jg (qX (qg (qY (.inr hF))))
 grind
theorem MJ {p:Int}:∀{lv:List ba},(∀(j:Nat) x,lv[j]? =some x→zc p x.1=none)→Xj p lv=none:=by
 intro lv
 induction lv with
 |nil=>intro _;rfl
 |cons x r ih=>intro h;unfold Xj;rw[h 0 x rfl];exact ih λj y hy=>h (j+1) y (by grind)
theorem Ny {p v:Int}:∀{lv:List ba} {i:Nat} {x:ba},(∀j,j<i→∀x,lv[j]? =some x→zc p x.1=none)→lv[i]? =some x→zc p x.1=some v→Xj p lv=some v:=by
 intro lv
 induction lv with
 |nil=>simp
 |cons y r ih=>
  intro i x h1 h2 h3;unfold Xj;cases i with
  |zero=>grind
  |succ i=>rw[h1 0 omQ y rfl];grind
theorem dL.len {most:Nat} {lv:List ba} (O:dL most lv) {x:ba} (hx:x∈lv):x.1.length≤96:=by
 have h1:=O.held;have h2:=O.le;have:x.1.length≤yl lv:=by
  clear h1 O
  induction lv with
  |nil=>grind
  |cons y r ih=>
   rw[xL];grind
 omega
theorem KO {n:Nat} (hn:1≤n) {v:AV} (h1:One v) (H:HS g h L):af n 200 [v] h λr h'=>∃b,r=.fn 234 [] [.ptr b 0]∧HS g h' (qx b [v]::L):=by
 refine ag rfl omQ λk hk=>?_;unfold S200;try simp only
 exact Xu H h1 λb h2 H2=>qY ⟨b,rfl,H2⟩
theorem qvm {n q most:Nat} (hn:8≤n) {lv:List ba} {p:Int} (H:HS g h (bU q most lv::R)) (O:dL most lv) :
  af n 244 [.ptr q 0,.int .i64 p] h λv h'=>v=.bm [.int .u64 ((Xj p lv).getD 0),.bool (Xj p lv).isSome]∧HS g h' (bU q most lv::R):=by
 (refine qE rfl omQ λk hk=>?_;show wp (S244 (callT tab qv k) _ _ _) _;unfold S244;try simp only[uU,iZ])
 obtain⟨v,ps,e,H⟩:=bU.E H;have hd:=O.deep;refine Xu H ⟨rfl,rfl⟩ λb1 h1 H=>Xu H ⟨rfl,rfl⟩ λb2 h2 H=>Xu H ⟨rfl,rfl⟩ λb3 h3 H=>?_;refine qK (qQ (qZ ‹_› e_3 rfl ?_));refine qW (KO omQ (H.one e_4) H) ?_;rintro _ h4 ⟨b4,rfl,H⟩;have H5:=(H.my .lI).my (.loop .ready none 244 [1,0,1,0] [5,4,3] [.ptr b3 0,.ptr b2 0,.ptr b1 0] h4.nx);generalize(h4.new .lI).nx=l at H5 ⊢;generalize h4.nx=d at H5 ⊢;obtain⟨k2,rfl⟩:∃k2,k=k2+1:=⟨k-1,by omega⟩
 refine Z4 (qXe (b0:=b4) (v:=v) (ps:=ps)
  (Inv:=λi h'=>HS g h' (ku l (.loop .ready none 244 [1,0,1,0] [5,4,3] [.ptr b3 0,.ptr b2 0,.ptr b1 0] d)::ku d .lI::qx b4 [v]::qx b3 [.bool false]::qx b2 [.int .u64 ((0:Nat):Int)]::qx b1 [.int .i64 p]::
   qx q [.int .i64 (most:Int),v]::qF 267 1 lv.length v (yM ps)::(List.zipWith cR ps lv++R))∧∀j,j<i→∀x,lv[j]? =some x→zc p x.1=none)
  (Fin:=λh'=>∃x,Xj p lv=some x∧HS g h' (ku l (.loop .done (some .ret) 244 [1,0,1,0] [5,4,3] [.ptr b3 0,.ptr b2 0,.ptr b1 0] d)::ku d .lI::qx b4 [v]::qx b3 [.bool true]::qx b2 [.int .u64 x]::qx b1 [.int .i64 p]::
   qx q [.int .i64 (most:Int),v]::qF 267 1 lv.length v (yM ps)::(List.zipWith cR ps lv++R)))
  ?_ ?_ omQ ⟨H5,λj hj=>by omega⟩) ?_
 ·rintro i h' ⟨H,_⟩;obtain⟨et,A⟩:=H.obj e_2;exact⟨A.at 0,e▸H.sl e_7⟩
 ·rintro i a h' ha ⟨H,dA⟩;have hi:=(List.getElem?_eq_some_iff.1 ha).1;have hx:lv[i]? =some (lv[i]'omQ):=iW _;have hm:lv[i]'omQ∈lv:=List.getElem_mem _;generalize lv[i]'omQ=x at hx hm;have mY:=O.len hm;refine Z0 (H.bf .here) rfl omQ λk3 uS=>?_;show wp (B1 _ _ _ _ _ (.int .i64 ((ps.length-1-i:Nat):Int)) _ _) _;unfold B1
  try simp only[iI,uU,iZ]
  refine ZL H .here λh6 H=>?_;obtain⟨T,s⟩:=UG ha hx;obtain⟨w,fv,H7⟩:=cR.E (H.ah (.there (.there (.there (.there (.there (.there (.there (.there s)))))))));refine qK (qQ (qZ ‹_› .here rfl ?_));refine qZ ‹_› e_8 rfl<|qW (qKb omQ (H7.ah e_1) omQ) ?_;rintro _ h8 ⟨rfl,H8⟩;refine qA rfl<|qA rfl ?_;cases hg:zc p x.1 with
  |none=>
   refine qJ (WI H8 e_3 λh9 H9=>.inl ⟨rfl,?_,λj hj y hy=>?_⟩)
   ·have cC:=cR.I (a:=a) (w:=w) (fv:=fv) (x:=x) (H9.sub (.cons e_2 (.cons e_1 (.cons e_1 .refl))));exact HS.dh (.there (.there (.there (.there (.there (.there (.there (.there s)))))))) (cC.sub (.refl))
   grind
  |some z=>refine qX (qw H8 e_7 ⟨rfl,rfl⟩ aA λh9 H9=>qw H9 e_7 ⟨rfl,rfl⟩ aA λdK cC=>qgd cC e_5 λbY dv=>.inr ⟨rfl,z,Ny dA hx hg,?_⟩);have dU:=cR.I (a:=a) (w:=w) (fv:=fv) (x:=x) (dv.sub (.cons e_4 (.cons e_3 (.cons e_3 .refl))));exact HS.dh (.there (.there (.there (.there (.there (.there (.there (.there s)))))))) (dU.pk [0,0,2,2,0,0] 0)
 ·rintro _ h6 (⟨H,dA⟩ |⟨x,hx,H⟩)
  ·have hg:Xj p lv=none:=MJ λj x hj=>dA j (by grind) x hj;refine N4 H .here (nofun) λh7 H=>ZF (qw H e_4 ⟨rfl,rfl⟩ aA λh8 H=>qw H e_4 ⟨rfl,rfl⟩ aA λh9 H=>KJ H e_3 λdK H=>?_);refine qZ ‹_› e_2 rfl<|qZ ‹_› e_1 rfl<|qY ⟨by grind,?_⟩;exact bU.I (ps:=ps) e (H.pk [6,6] 6)
  ·refine N4 H .here (nofun) λh7 H=>qzh (qy0 rfl (KJ H e_1 λh8 H=>?_));refine qZ ‹_› e_4 rfl<|qZ ‹_› e_3 rfl<|qY ⟨by grind,?_⟩;exact bU.I (ps:=ps) e (H.pk [6,6] 6)
theorem qyd {x:ba} {r:List ba} {most:Nat} {p v:Int} (O:dL most (x::r)) (hp:¬(p<1∨256≤p)) (hf:¬(zc p x.1=none∧most≤yl (x::r))):Yg 96 x.1 p v=(0,yn p v x.1):=by have h1:=O.held;have h2:=O.le;rw[xL]at h1 hf;unfold Yg;grind
theorem qXf {n q most:Nat} (hn:5≤n) {lv:List ba} {p v:Int} (H:HS g h (bU q most lv::R)) (O:dL most lv) :
  af n 293 [.ptr q 0,.int .i64 p,.int .u64 v] h λr h'=>r=.int .i64 (vk most lv p v).1∧HS g h' (bU q most (vk most lv p v).2::R):=by
 cases lv with
 |nil=>have:=O.one;grind
 |cons x r=>
 have mY:=O.len (x:=x) (iK ..);refine b8 rfl omQ λk hk=>?_;unfold S293;try simp only[iZ]
 unfold vk;by_cases hp:p<1∨256≤p
 ·simp only[iJ hp]
  repeat' (first |refine qX ?_ |refine qJ ?_ |(refine qR ?_;try dsimp only) |(refine qf ?_;try dsimp only) |(refine qT ?_;try dsimp only) |(refine qM ?_;try dsimp only) |(refine jT ?_;try dsimp only) |refine qC ?_ |refine qB ?_ |(with_reducible refine qG ?_;try dsimp only) |refine qg ?_ |refine jQ ?_ |refine jg ?_ |refine qS omQ ?_ |refine jK omQ ?_ |refine xT omQ ?_ |refine yT omQ ?_ |refine zS ?_ |refine zu ?_ |refine qj omQ ?_ |refine qV omQ ?_ |refine jJ omQ ?_ |refine q9 omQ ?_ |refine jB omQ ?_ |refine jk omQ ?_ |refine yq omQ ?_ |refine yY omQ ?_ |refine zv omQ ?_ |refine zV omQ ?_ |refine jA omQ ?_ |refine jz omQ ?_ |refine zK (λhc=>?_) (λhc=>?_) |refine yb (λhc=>?_) (λhc=>?_) |refine yz (λhc=>?_) (λhc=>?_) |refine xF (λhc=>?_) (λhc=>?_) |refine xR (λhc=>?_) (λhc=>?_) |refine xx (λhc=>?_) (λhc=>?_) |refine yD (λhc=>?_) (λhc=>?_))
  all_goals exact qY ⟨rfl,H⟩
 simp only[iQ hp];refine jk omQ<|qG<|qM<|jz omQ<|qB (qJ ?_)
 obtain⟨sv,a,ps,e,H⟩:=bU.E1 H;rw[← e]at H;refine qW (Yf omQ H .here e_1 (by have:=O.deep;grind)) ?_;rintro _ _ ⟨rfl,rfl⟩;obtain⟨w,fv,H2⟩:=cR.E (H.ah e_2);refine qK (qQ (qZ ‹_› .here rfl ?_));refine qW (qKb omQ (H2.ah e_1) omQ) ?_;rintro _ h3 ⟨rfl,H3⟩;refine qA rfl<|qA rfl ?_;have H4:HS g h3 (bU q most (x::r)::R):=by have H4:=cR.I (a:=a) (w:=w) (fv:=fv) (x:=x) (H3.sub (.cons e_1 (.cons .here .refl)));refine bU.I1 (v:=sv) (a:=a) (ps:=ps) e ?_;rw[← e];exact H4.pk [1,1] 0
 have fin:¬(zc p x.1=none∧most≤yl (x::r))→∀h5,HS g h5 (dn w 96 x.1::qx a [.ptr w 0,fv]::qF 3 1 x.2.length fv (x.2.map (.int .i64))::qx q [.int .i64 (most:Int),sv]::qF 267 1 (ps.length+1) sv (yM (a::ps))::(List.zipWith cR ps r++R))→
   af k 235 [.ptr w 0,.int .i64 p,.int .u64 v] h5 λr' h'=>r'=.int .i64 0∧HS g h' (bU q most ((yn p v x.1,x.2)::r)::R):=by
  intro hf h5 H5;refine(qXi omQ H5 omQ).mono ?_;rintro _ h6 ⟨rfl,H6⟩;rw[qyd O hp hf]at H6 ⊢;refine⟨rfl,bU.I1 (v:=sv) (a:=a) (ps:=ps) e ?_⟩;rw[← e];have H7:=cR.I (a:=a) (w:=w) (fv:=fv) (x:=(yn p v x.1,x.2)) (H6.sub (.cons e_1 (.cons .here .refl)));exact H7.pk [1,1] 0
 cases hg:zc p x.1 with
 |some z=>
  simp only[Option.isSome_some];refine jQ (qG ?_);refine qT<|qB (qJ ?_)
  rw[iQ (λh=>by grind)];refine qW (fin (λh=>by grind) h3 (H3.sub (.refl))) ?_;rintro _ h6 ⟨rfl,H6⟩;exact qY ⟨rfl,H6⟩
 |none=>
  simp only[Option.isSome_none];refine jg (qG ?_);refine qR ?_;(try dsimp only)
  refine qW (qji omQ H4 O) ?_;rintro _ _ ⟨rfl,rfl⟩;have hh:=O.held;refine xR (λh0=>?_) λh0=>?_
  ·refine qC (qX ?_);rw[iJ ⟨by simp,by omega⟩];exact qY ⟨rfl,H4⟩
  ·refine qC (qJ ?_);rw[iQ (λh=>h0 omQ)];refine qW (fin (λh=>h0 omQ) _ (H3.sub (.refl))) ?_;rintro _ h6 ⟨rfl,H6⟩;exact qY ⟨rfl,H6⟩
theorem Kq {most:Nat} {x:ba} {r:List ba} {p v:Int}:∃c,(vk most (x::r) p v).2=(c,x.2)::r:=by
 unfold vk;grind
theorem qjA {n q most:Nat} (hn:7≤n) {lv:List ba} {cs:List Cl} {c:AV} (H:HS g h (bU q most lv::R)) (O:dL most lv) (S:Rd g R 2 cs.length c (cs.flatMap jH)) (hc:cs.length<100000) :
  af n 245 [.ptr q 0,c] h λr h'=>r=.int .i64 (vW most lv lv cs).1∧HS g h' (bU q most (vW most lv lv cs).2::R):=by
 cases lv with
 |nil=>have:=O.one;grind
 |cons x r=>
 have mY:=O.len (x:=x) (iK ..);have DA:=O.ins x (iK ..);have Ro:=O.un x (iK ..);refine aG rfl omQ λk hk=>?_;unfold S245;try simp only[iZ]
 refine qW (Ow omQ omQ H) ?_;rintro _ h1 ⟨w0,rfl,H1⟩;obtain⟨sv,a,ps,e,H2⟩:=bU.E1 (H1.ah e_1);rw[← e]at H2;refine qW (Yf omQ H2 .here e_1 (by have:=O.deep;grind)) ?_;rintro _ _ ⟨rfl,rfl⟩;obtain⟨w,fv,H3⟩:=cR.E (H2.ah e_2);refine qK (qQ (qZ ‹_› .here rfl ?_));refine qW (Gq omQ (H3.ah e_1) omQ) λva h4 H4=>?_;refine qW (Y4 omQ (H4.ah (.there (.there (.there (.there (.there (.there (aR.skip _ .here))))))))  (.own .here) aA omQ) ?_;rintro _ h5 ⟨_,H5⟩;have ht:kb 96 [] x.1=(0,x.1):=by unfold kb;rw[Y7 DA (by grind),Mo Ro,iJ rfl]
 rw[ht]at H5;have H6:HS g h5 (bU q most (x::r)::dn w0 96 x.1::R):=by have H7:=cR.I (a:=a) (w:=w) (fv:=fv) (x:=x) (H5.sub (.cons e_3 (.cons e_2 (.cons e_2 .refl))));refine bU.I1 (v:=sv) (a:=a) (ps:=ps) e ?_;rw[← e];have H8:HS g h5 (dn w0 96 x.1::(qx q [.int .i64 (most:Int),sv]::qF 267 1 (ps.length+1) sv (yM (a::ps))::cR a x::List.zipWith cR ps r)++R):=H7.pk [1,2,2,0] 1;grind[HS.back]
 refine zH (S.sl H6.drop.drop)<|jF (λk s h'=>∃(i:Nat) (c':List Cl),s=(.int .i64 (i:Int),.int .i64 (cs.length:Int),c,.ptr w0 0,.ptr q 0,())∧i≤cs.length∧k=cs.length-i∧dL most ((c',x.2)::r)∧
  HS g h' (bU q most ((c',x.2)::r)::dn w0 96 x.1::R)∧vW most (x::r) (x::r) cs=vW most (x::r) ((c',x.2)::r) (cs.drop i)) ?_ (m:=cs.length) omQ ⟨0,x.1,rfl,by omega,by rfl,O,H6,rfl⟩
 rintro k2 ih s h2 aY ⟨i,c',rfl,h1,rfl,O',H,hT⟩;refine zK (λae=>qX ?_) λeL=>qJ (qg (qY ?_))
 ·have hi:i<cs.length:=by omega
  have fX:cs[i]? =some cs[i]:=iW hi;refine zj (S.sl H.drop.drop) hi omQ (G5 fX)<|qH H rfl λb h3 H3=>qh H3 .here rfl (by simp) rfl λh4 H4=>?_;have H5:HS g h4 (qx b (jH cs[i])::bU q most ((c',x.2)::r)::dn w0 96 x.1::R):=H4;unfold jH at H5;refine qQ (qZ ‹_› .here rfl ?_);refine qQ (qZ ‹_› .here rfl ?_);refine qW (qXf omQ H5.drop O') ?_;rintro _ h6 ⟨rfl,H6⟩;rw[List.drop_eq_getElem_cons hi,vC]at hT;have O2:=(K9 (p:=cs[i].1) (v:=cs[i].2) O').1;obtain⟨c2,na⟩:=Kq;refine xx (λbG=>qX ?_) λhe=>qJ (qS omQ ?_)
  ·have bG:¬(vk most ((c',x.2)::r) cs[i].1 cs[i].2).1=0:=by grind
   rw[iQ bG]at hT;rw[na]at H6;obtain⟨sv,a,ps,e,H7⟩:=bU.E1 H6;rw[← e]at H7;refine qW (Yf omQ H7 .here e_1 (by have:=O.deep;grind)) ?_;rintro _ _ ⟨rfl,rfl⟩;obtain⟨w,fv,H8⟩:=cR.E (H7.ah e_2);refine qK (qQ (qw H8 .here ⟨rfl,rfl⟩ aA λh9 H9=>qg (qY ?_)));rw[hT];refine⟨rfl,bU.I1 (v:=sv) (a:=a) (ps:=ps) e ?_⟩;rw[← e];obtain⟨T,sT,uT⟩:∃T,aR (List.zipWith cR ps r++dn w0 96 x.1::R) (dn w0 96 x.1) T∧T=List.zipWith cR ps r++R:=⟨_,aR.skip _ .here,rfl⟩;subst uT;have cC:=cR.I (a:=a) (w:=w0) (fv:=fv) (x:=x) (H9.sub (.cons .here (.cons (.there (.there (.there (.there sT)))) (.cons e_1 (.drop .refl)))));exact cC.pk [1,1] 0
  ·have F4:(vk most ((c',x.2)::r) cs[i].1 cs[i].2).1=0:=by grind
   rw[iJ F4,na]at hT;rw[na]at H6 O2;exact aY (cs.length-(i+1)) _ _ omQ ⟨i+1,c2,rfl,by omega,rfl,O2,H6,hT⟩
 ·rw[List.drop_of_length_le omQ]at hT;rw[hT];exact⟨rfl,H.pk [0] 1⟩
theorem VK (a:Nat) (ps:List Nat):yM (a::ps)=yM ps++[.ptr a 0]:=by simp[yM,List.reverse_cons,List.map_append]
theorem MM (ps:List Nat):(yM ps).length=ps.length:=by simp[yM]
theorem qjR {n q most:Nat} (hn:3≤n) {lv:List ba} (H:HS g h (bU q most lv::R)) (_:dL most lv) :
  af n 387 [.ptr q 0] h λv h'=>v=.int .i64 (gg lv).1∧HS g h' (bU q most (gg lv).2::R):=by
 refine ag rfl omQ λk hk=>?_;unfold S387;try simp only[iZ]
 have hH:=H;obtain⟨v,ps,e,H⟩:=bU.E H;unfold gg;by_cases h6:6≤lv.length
 ·rw[iJ h6];refine qK (qQ (qZ ‹_› .here rfl ?_));refine qd ‹_› e_1<|jA omQ<|qX<|qY ⟨rfl,hH⟩
 ·rw[iQ h6];refine qK (qQ (qZ ‹_› .here rfl ?_));refine qd ‹_› e_1<|jz omQ<|qJ (qG ?_);refine qK (qQ (qZ ‹_› .here rfl ?_))
  refine qW (NL omQ H) ?_;rintro _ h2 ⟨a,rfl,H2⟩;refine qr H2 rfl rfl rfl rfl λv3 h3 H3=>?_;refine jh (H3.ah e_3) (H3.sl .here) omQ omQ rfl λv4 h4 H4=>?_;refine qK (qQ (qw H4 e_3 (H4.one .here) aA λh5 H5=>?_));refine qu ‹_› .here rfl ‹_› e_1 rfl (HS.lt ‹_› .here)<|qY ⟨rfl,bU.I1 (v:=v4) (a:=a) (ps:=ps) e ?_⟩;rw[VK];exact H5.pk [0,0,1] 1
theorem qQ2 {n q:Nat} (hn:1≤n) {m v:AV} {a:Nat} {ps:List Nat} (h1:1≤ps.length) (hl:ps.length<1000) (H:HS g h (qx q [m,v]::qF 267 1 (ps.length+1) v (yM (a::ps))::R)) :
  af n 359 [.ptr q 0] h λr h'=>r=.int .i64 0∧∃v',HS g h' (qx q [m,v']::qF 267 1 ps.length v' (yM ps)::R):=by
 refine ag rfl omQ λk hk=>?_;unfold S359;try simp only[iZ]
 refine qK (qQ (qZ ‹_› .here rfl ?_));refine qd ‹_› e_1<|qV omQ<|qJ (qK (qQ (qZ ‹_› .here rfl ?_)));refine qK (qQ (qZ ‹_› .here rfl ?_));refine qd ‹_› e_1<|jK omQ ?_;rw[show((ps.length+1:Nat):Int)-((1:Nat):Int)=((ps.length:Nat):Int) by omega];refine gM (H.ah e_1) omQ omQ λv' H2=>?_;refine qK (qQ (qw H2 e_1 (H2.one .here) aA λh3 H3=>qY ⟨rfl,v',?_⟩));simp_all[VK,Nat.mul_one,MM]
theorem Zx {n q most:Nat} (hn:1≤n) {lv:List ba} (H:HS g h (bU q most lv::R)) (O:dL most lv) :
  af n 359 [.ptr q 0] h λv h'=>v=.int .i64 (wS lv).1∧HS g h' (bU q most (wS lv).2::R):=by
 unfold wS;by_cases h1:lv.length=1
 ·rw[iJ h1];refine ag rfl omQ λk hk=>?_;unfold S359;try simp only[iZ]
  have hH:=H;obtain⟨v,ps,e,H⟩:=bU.E H;refine qK (qQ (qZ ‹_› .here rfl ?_));refine qd ‹_› e_1<|qj omQ<|qX<|qY ⟨rfl,hH⟩
 ·rw[iQ h1];cases lv with
  |nil=>have:=O.one;grind
  |cons x r=>
  have hd:=O.deep;simp at h1 hd;have tT:1≤r.length:=by grind
  obtain⟨v,a,ps,e,H⟩:=bU.E1 H;rw[← e]at H;refine(qQ2 hn omQ omQ H).mono ?_;rintro _ h2 ⟨rfl,v',H2⟩;refine⟨rfl,bU.I (v:=v') (ps:=ps) e ?_⟩;show HS g h2 (_::qF 267 1 r.length v' _::(List.zipWith cR ps r++R));rw[← e];exact H2.pk [0,0] 1
theorem qzD {n q most:Nat} (hn:6≤n) {lv:List ba} (H:HS g h (bU q most lv::R)) (O:dL most lv) (hf:∀x∈lv,x.2.length<1000000) :
  af n 357 [.ptr q 0] h λv h'=>v=.int .i64 (wR lv).1∧HS g h' (bU q most (wR lv).2::R):=by
 rcases lv with _ |⟨x,_ |⟨y,r⟩⟩
 ·have:=O.one;grind
 ·
  refine ag rfl omQ λk hk=>?_;unfold S357;try simp only[iZ]
  obtain⟨v,a,ps,e,H2⟩:=bU.E1 H;rw[← e]at H2;refine qW (Yf omQ H2 .here e_1 (by grind)) ?_;rintro _ _ ⟨rfl,rfl⟩;refine qW (Zx omQ H O) ?_;rintro _ h3 ⟨rfl,H3⟩;rw[show wS [x]=(10,[x])from rfl]at H3 ⊢;refine jJ omQ<|qX<|qY ⟨rfl,H3⟩
 ·
  have hx:=hf x aA;have hy:=hf y aA;have DA:=O.ins x aA;have hd:=O.deep;have hh:=O.held;have hle:=O.le;rw[xL,xL]at hh;simp at hd;refine ag rfl omQ λk hk=>?_;unfold S357;try simp only[iZ]
  obtain⟨v,a,ps,e,H2⟩:=bU.E1 H;rw[← e]at H2;refine qW (Yf omQ H2 .here e_1 (by grind)) ?_;rintro _ _ ⟨rfl,rfl⟩;simp at e;refine qW (qQ2 omQ omQ omQ H2) ?_;rintro _ h3 ⟨rfl,v',H3⟩;cases ps with
  |nil=>simp at e
  |cons b ps=>
  simp at e;refine q9 omQ<|qJ (qW (Yf omQ H3 .here e_1 omQ) ?_);rintro _ _ ⟨rfl,rfl⟩;have H4:HS g _ (cR b y::cR a x::qx q [.int .i64 (most:Int),v']::qF 267 1 (ps.length+1) v' (yM (b::ps))::(List.zipWith cR ps r++R)):=H3.pk [3,2,0,0] 0;obtain⟨w1,f1,H4⟩:=cR.E H4;obtain⟨w2,f2,H5⟩:=cR.E (H4.ah e_3);refine qK (qQ (qZ ‹_› e_3 rfl ?_));refine qK (qQ (qZ ‹_› .here rfl ?_));refine jh (H5.ah e_5) (H5.sl e_2) omQ omQ ?_ λv6 h6 H6=>?_
  ·simp[jV,AV.one]
  refine qK (qQ (qw H6 e_4 (H6.one .here) aA λh7 H7=>?_));simp only[List.set_cons_zero,List.set_cons_succ]at H7;refine qG<|qK (qQ (qZ ‹_› .here rfl ?_));refine qK (qQ (qZ ‹_› e_2 rfl ?_))
  refine qW (Gq omQ (H7.ah e_3) omQ) λv8 h8 H8=>?_;refine qW (Y4 omQ (H8.ah e_6) (.own .here) omQ omQ) ?_;rintro _ h9 ⟨rfl,H9⟩;have ht:kb 96 y.1 x.1=(0,yN y.1 x.1):=by unfold kb;rw[Y7 DA omQ,iJ rfl]
  rw[ht]at H9 ⊢;refine qu ‹_› .here rfl ‹_› e_2 rfl (HS.lt ‹_› .here)<|qY ⟨rfl,bU.I1 (v:=v') (a:=b) (ps:=ps) omQ ?_⟩;rw[← e];have cC:=cR.I (fv:=v6) (x:=(yN y.1 x.1,y.2++x.2))
   (by rw[List.map_append,List.length_append];exact H9.pk [3,0,2,4,4] 4)
  exact cC.pk [1,1] 0
theorem VZ:∀(lv:List ba) (out:List Cl),(lv.foldl (λout x=>yN x.1 out) out).length≤out.length+yl lv:=by
 intro lv
 induction lv with
 |nil=>simp
 |cons x r ih=>intro out;have h1:=ih (yN x.1 out);have h2:=GG (cs:=out) (l:=x.1);rw[List.foldl_cons,xL];omega
theorem MV:∀(lv:List ba) (out:List Cl),rD out→(∀x∈lv,rD x.1)→rD (lv.foldl (λout x=>yN x.1 out) out):=by
 intro lv
 induction lv with
 |nil=>simp
 |cons x r ih=>intro out h hx;exact ih _ ((hx x (iK ..)).rE h) λy hy=>hx y (iX _ hy)
theorem qGn (l1 l2:List ba):yl (l1++l2)=yl l1+yl l2:=by simp[yl]
theorem qVS {n q most:Nat} (hn:9≤n) {lv:List ba} (H:HS g h (bU q most lv::R)) (O:dL most lv) :
  af n 156 [.ptr q 0] h λv h'=>HS g h' (qF 129 2 (jL lv).length v ((jL lv).flatMap jH)::bU q most lv::R):=by
 (refine qE rfl omQ λk hk=>?_;show wp (S156 (callT tab qv k) _ _) _;unfold S156;try simp only[iI,uU,iZ])
 obtain⟨v,ps,e,H⟩:=bU.E H;have hd:=O.deep;have hle:=O.le;have hhe:=O.held;refine Xu (H.ad (e:=129) (sz:=2)) ⟨rfl,rfl⟩ λb1 h1 H=>?_;refine qK (qQ (qZ ‹_› e_2 rfl ?_));refine qW (KO omQ (H.one e_3) H) ?_;rintro _ h4 ⟨b4,rfl,H⟩;have H5:=(H.my .lI).my (.loop .ready none 156 [1,1,0,1,0] [3] [.ptr b1 0] h4.nx);generalize(h4.new .lI).nx=l at H5 ⊢;generalize h4.nx=d at H5 ⊢;obtain⟨k2,rfl⟩:∃k2,k=k2+1:=⟨k-1,by omega⟩
 refine Z4 (qXe (b0:=b4) (v:=v) (ps:=ps)
  (Inv:=λi h'=>∃ov,HS g h' (ku l (.loop .ready none 156 [1,1,0,1,0] [3] [.ptr b1 0] d)::ku d .lI::qx b4 [v]::qx b1 [ov]::qF 129 2 (jL (lv.take i)).length ov ((jL (lv.take i)).flatMap jH)::
   qx q [.int .i64 (most:Int),v]::qF 267 1 lv.length v (yM ps)::(List.zipWith cR ps lv++R)))
  (Fin:=λ_=>False) ?_ ?_ omQ ⟨.ad,H5⟩) ?_
 ·rintro i h' ⟨ov,H⟩;obtain⟨et,A⟩:=H.obj e_2;exact⟨A.at 0,e▸H.sl e_6⟩
 ·rintro i a h' ha ⟨ov,H⟩;have hi:=(List.getElem?_eq_some_iff.1 ha).1;have hx:lv[i]? =some (lv[i]'omQ):=iW _;have hm:lv[i]'omQ∈lv:=List.getElem_mem _;generalize lv[i]'omQ=x at hx hm;have mY:=O.len hm;have DA:=O.ins x hm;have Ro:=O.un x hm;have mL:(jL (lv.take i)).length+x.1.length≤96:=by
   have h1:=VZ (lv.take i) [];have h2:yl lv=yl (lv.take i)+(x.1.length+yl (lv.drop (i+1))):=by
    rw[← xL,← qGn]
    congr 1
    have h3:lv.drop i=x::lv.drop (i+1):=by
     have oW:i<lv.length:=by omega
     rw[List.drop_eq_getElem_cons oW];grind
    grind[List.take_append_drop]
   grind[jL]
  have IX:rD (jL (lv.take i)):=MV _ _ (λc hc=>by grind) λy hy=>O.ins y (List.mem_of_mem_take hy);have Bt:jL (lv.take (i+1))=yN x.1 (jL (lv.take i)):=by simp_all[jL,List.take_add_one,Option.toList_some,List.foldl_append]
  refine Z0 (H.bf .here) rfl omQ λk3 uS=>?_;show wp (B0 _ _ _ (.int .i64 ((ps.length-1-i:Nat):Int)) _ _) _;unfold B0
  try simp only[iI,iZ]
  refine ZL H .here λh6 H=>?_;refine qW (Ow omQ omQ H) ?_;rintro _ h7 ⟨w0,rfl,H⟩;obtain⟨T,s⟩:=UG ha hx;obtain⟨w,fv,H7⟩:=cR.E (H.ah (.there (.there (.there (.there (.there (.there (.there (.there s)))))))));refine qK (qQ (qZ ‹_› .here rfl ?_));refine qW (Gq omQ (H7.ah e_1) omQ) λva h8 H8=>?_;refine qW (Y4 omQ (H8.ah e_4) (.own .here) aA omQ) ?_;rintro _ h9 ⟨_,H9⟩;have ht:kb 96 [] x.1=(0,x.1):=by unfold kb;rw[Y7 DA (by grind),Mo Ro,iJ rfl]
  rw[ht]at H9;dsimp only at H9;refine qZ ‹_› e_8 rfl ?_;have Rp:kb 96 x.1 (jL (lv.take i))=(0,yN x.1 (jL (lv.take i))):=by unfold kb;rw[Y7 IX omQ,iJ rfl]
  have S2:Rd g _ 2 (jL (lv.take i)).length ov ((jL (lv.take i)).flatMap jH):=H9.drop.rd e_8
  refine qW (Y4 omQ H9 S2 omQ omQ) ?_;rintro _ dK ⟨_,cC⟩;rw[Rp]at cC;dsimp only at cC;have sa:=GG (cs:=jL (lv.take i)) (l:=x.1);refine qW (Gq omQ cC omQ) λvb bY dv=>?_;refine qw dv e_9 (dv.one .here) aA λeY dU=>WI dU e_7 λDn tU=>.inl ⟨rfl,vb,?_⟩;rw[Bt]
  have CA:=cR.I (fv:=fv) (tU.pk [6,5,5,0,4,4,0,0,3,3] 3)
  exact HS.dh (.there (.there (.there (.there (.there (.there (.there s))))))) CA
 ·rintro _ h6 (⟨ov,H⟩ |hF)
  ·rw[List.take_of_length_le omQ]at H;refine N4 H .here (nofun) λh7 H=>ZF<|qZ ‹_› e_3 rfl<|KJ H e_1 λdK H=>qY ?_
   exact(bU.I (ps:=ps) e (HS.back (A:=_::_::List.zipWith cR ps lv) (H.sub (L':=qF 129 2 (jL lv).length ov ((jL lv).flatMap jH)::qx q [.int .i64 (most:Int),v]::
    qF 267 1 lv.length v (yM ps)::(List.zipWith cR ps lv++R)) (.cons e_4 (.cons e_4 (.cons e_4 (.drop (.drop (.drop (.drop (.refl))))))))))).pk [1] 0
  ·exact hF.elim
end
section
variable {g h:AH} {L R:List SP}
structure VM where
  sz:Nat
  K:List Cl
  most:Nat
  lv:List ba
  aw:Int
structure cU (M:VM):Prop where
  lo:32≤M.sz
  hi:M.sz≤256
  eR:dL M.most M.lv
  ins:∀c∈M.K,1≤c.1∧c.1<M.sz
  un:pD M.K
  fr:∀x∈M.lv,x.2.length<100000
def yd (M:VM) (p x:Int):Int×VM :=
 if 1≤p∧p<M.sz then match zc p M.K with
  |some y=>(if y=x then 0 else 14,M)
  |none=>(0,{ M with K:=M.K++[(p,x)] })
 else(2,M)
def qi (M:VM) (p:Int):(Int×Int)×VM :=
 if 1≤p∧p<M.sz then match Xj p M.lv with
  |some x=>((x,0),M)
  |none=>match zc p M.K with
   |some x=>((x,0),M)
   |none=>((0,11),{ M with aw:=p })
 else((0,2),M)
def zq (M:VM) (cs:List Cl):Int×VM :=
 if∀c∈cs,1≤c.1∧c.1<M.sz then((vW M.most M.lv M.lv cs).1,{ M with lv:=(vW M.most M.lv M.lv cs).2 })else(2,M)
def eZ (M:VM) (b:Int):VM:={ M with lv:=J3 M.lv b }
def xN (M:VM):Int×VM:=((gg M.lv).1,{ M with lv:=(gg M.lv).2 })
def zN (M:VM):Int×VM:=((wS M.lv).1,{ M with lv:=(wS M.lv).2 })
def vj (M:VM):Int×VM:=((wR M.lv).1,{ M with lv:=(wR M.lv).2 })
theorem UB:∀(n:Nat) (l:List Int),l.Nodup→(∀x∈l,0≤x∧x<n)→l.length≤n:=by
 intro n
 induction n with
 |zero=>
  intro l _ h;cases l with
  |nil=>simp
  |cons x l=>simp_all;omega
 |succ n ih=>
  intro l hd h;by_cases hx:(n:Int)∈l
  ·have:=ih (l.erase n) (hd.erase _) (λx BA=>by
    grind)
   grind
  grind
theorem cU.td {M:VM} (O:cU M):M.K.length≤256:=by
 have hu:(M.K.map (·.1)).Nodup:=O.un
 have:=UB M.sz _ hu (λx hx=>by
  obtain⟨c,hc,rfl⟩:=List.mem_map.1 hx;have:=O.ins c hc
  omega)
 rw[List.length_map]at this;have:=O.hi;omega
def Q9 (f:Int×Bool):List AV:=[.int .u64 f.1,.bool f.2]
def wZ (K:List Cl) (i:Nat):Int×Bool:=match zc (i:Int) K with |some x=>(x,true) |none=>(0,false)
def vA (sz:Nat) (K:List Cl):List (Int×Bool):=(List.range sz).map (wZ K)
theorem Jp (sz:Nat) (K:List Cl):(vA sz K).length=sz:=by simp[vA]
theorem QT {sz:Nat} {K:List Cl} {i:Nat} (hi:i<sz):(vA sz K)[i]? =some (wZ K i):=by grind[vA,List.getElem?_range]
theorem gO {α:Type} {sz:Nat} {enc:α→List AV} (he:∀a,(enc a).length=sz) {l:List α} {i:Nat} {a:α} (h:l[i]? =some a):((l.flatMap enc).drop (i*sz)).take sz=enc a:=by obtain⟨hi,e⟩:=List.getElem?_eq_some_iff.1 h;simp_all[QW,List.drop_eq_getElem_cons,List.flatMap_cons]
theorem UQ {α:Type} {sz:Nat} {enc:α→List AV} (he:∀a,(enc a).length=sz) {l:List α} {i:Nat} {a:α} (hi:i<l.length):wL (l.flatMap enc) (i*sz) (enc a)=(l.set i a).flatMap enc:=by
 have h1:(l.flatMap enc).take (i*sz)=(l.take i).flatMap enc:=by
  have e1:l.flatMap enc=(l.take i).flatMap enc++(l.drop i).flatMap enc:=by rw[← List.flatMap_append,List.take_append_drop]
  have e2:((l.take i).flatMap enc).length=i*sz:=by rw[vD enc he,List.length_take,Nat.min_eq_left omQ]
  grind
 have h2:(l.flatMap enc).drop (i*sz+sz)=(l.drop (i+1)).flatMap enc:=by rw[show i*sz+sz=(i+1)*sz by grind,QW enc he]
 simp_all[wL,List.set_eq_take_append_cons_drop,List.flatMap_append,List.flatMap_cons]
theorem Mu {α:Type} {enc:α→List AV} {a:α}:∀n,gA (enc a) n=(List.replicate n a).flatMap enc:=by
 intro n
 induction n with
 |zero=>rfl
 |succ n ih=>rw[gA,ih,List.replicate_succ,List.flatMap_cons]
theorem qZp (sz:Nat):vA sz []=List.replicate sz (0,false):=by unfold vA;rw[show wZ []=λ_=>((0,false):Int×Bool)from rfl,List.map_const',List.length_range]
theorem qXC {sz:Nat} {K:List Cl} {i:Nat} {x:Int} (hi:i<sz) (hn:zc (i:Int) K=none):vA sz (K++[((i:Int),x)])=(vA sz K).set i (x,true):=by
 have e:∀j:Nat,zc (j:Int) (K++[((i:Int),x)])=if j=i then some x else zc (j:Int) K:=by
  intro j;rw[← Jx hn,Zz];grind
 apply List.ext_getElem?;intro j;rw[List.getElem?_set,Jp];by_cases hj:j<sz
 ·rw[QT hj];by_cases h:i=j
  ·subst h;rw[iJ rfl,iJ hi];unfold wZ;grind
  ·rw[iQ h,QT hj];unfold wZ;grind
 simp_all[Jp,iQ,omQ]
def ab (v:Nat) (M:VM):SP:=.ex λfv=>.ex λov=>.ex λq=>.ex λe=>.all [qx v [fv,ov,.ptr q 0,.int .i64 M.aw],qF e 2 M.sz fv ((vA M.sz M.K).flatMap Q9),
 qF 3 1 M.K.length ov (M.K.map λc=>.int .i64 c.1),bU q M.most M.lv]
theorem ab.E {v:Nat} {M:VM} (H:HS g h (ab v M::R)):∃fv ov q e,HS g h (qx v [fv,ov,.ptr q 0,.int .i64 M.aw]::qF e 2 M.sz fv ((vA M.sz M.K).flatMap Q9)::
  qF 3 1 M.K.length ov (M.K.map λc=>.int .i64 c.1)::bU q M.most M.lv::R):=by
 obtain⟨fv,H⟩:=H.dj;obtain⟨ov,H⟩:=H.dj;obtain⟨q,H⟩:=H.dj;obtain⟨e,H⟩:=H.dj;exact⟨fv,ov,q,e,H.bS⟩
theorem ab.I {v:Nat} {M:VM} {fv ov:AV} {q:Nat} {e:TypeId} (H:HS g h (qx v [fv,ov,.ptr q 0,.int .i64 M.aw]::qF e 2 M.sz fv ((vA M.sz M.K).flatMap Q9)::
  qF 3 1 M.K.length ov (M.K.map λc=>.int .i64 c.1)::bU q M.most M.lv::R)):HS g h (ab v M::R) :=
 HS.dE fv (HS.dE ov (HS.dE q (HS.dE e (HS.allI H))))
def lT (n:Int):Nat:=(max 32 (min n 256)).toNat
theorem IY (n:Int):32≤lT n∧lT n≤256:=by grind[lT]
def Vl (words most:Int):VM:=⟨lT words,[],(max 0 (min most 96)).toNat,[([],[])],0⟩
theorem qKe {m:Nat} (hm:m≤96):dL m [([],[])]:=⟨by simp[yl],hm,by intro x hx;simp at hx;subst hx;nofun,by intro x hx;simp at hx;subst hx;exact List.nodup_nil,by simp,by simp⟩
theorem qkb (words most:Int):cU (Vl words most) :=
 ⟨(IY _).1,(IY _).2,qKe (by show(max 0 (min most 96)).toNat≤96;omega),by nofun,List.nodup_nil,by simp[Vl]⟩
theorem qg5 {n:Nat} (hn:4≤n) {w m:Int} (H:HS g h R):af n 95 [.int .i64 w,.int .i64 m] h λr h'=>∃v,r=.ptr v 0∧HS g h' (ab v (Vl w m)::R):=by
 refine aG rfl omQ λk hk=>?_;unfold S95;try simp only[iZ]
 refine zS (zu ?_);have hb:=IY w;rw[show max ((32:Nat):Int) (min w ((256:Nat):Int))=((lT w:Nat):Int) by grind[lT]];refine JG H rfl (Nat.le_refl _) omQ λfv h2 H2=>?_;refine qW (qkt omQ H2) ?_;rintro _ h3 ⟨q,rfl,H3⟩;have h1:=H3.one e_1;refine qy (by unfold vG;rw[h1.1];rfl)<|qH H3 (by show(fv.one&&(true&&(true&&(true&&true))))=true;rw[h1.2];rfl) λv h4 H4=>qY ⟨v,rfl,?_⟩;rw[List.take_of_length_le (by simp[vI]),show gA [AV.int .u64 ((0:Nat):Int),AV.bool false] (lT w)=(vA (lT w) []).flatMap Q9 by rw[qZp,← Mu];rfl]at H4;exact ab.I ((H4.ad).pk [1,2,0,0] 0)
theorem U5 {n:Nat} (hn:1≤n) {v:Nat} {M:VM} (H:HS g h (ab v M::R)):af n 241 [.ptr v 0] h λr h'=>r=.int .i64 (M.sz:Int)∧h'=h:=by
 refine ag rfl omQ λk hk=>?_;unfold S241;try simp only
 obtain⟨fv,ov,q,e,H⟩:=ab.E H;refine qK (qQ (qZ ‹_› .here rfl ?_));refine qd ‹_› e_1<|qY ⟨rfl,rfl⟩
theorem ON {n:Nat} (hn:1≤n) {v:Nat} {M:VM} {p:Int} (H:HS g h (ab v M::R)):af n 243 [.ptr v 0,.int .i64 p] h λr h'=>r=.bool (decide (1≤p∧p<M.sz))∧h'=h:=by
 refine aG rfl omQ λk hk=>?_;unfold S243;try simp only[iZ]
 obtain⟨fv,ov,q,e,H⟩:=ab.E H;by_cases h1:1≤p
 ·refine jA omQ<|qG<|qR ?_;(try dsimp only);refine qK (qQ (qZ ‹_› .here rfl ?_));refine qd ‹_› e_1 ?_
  refine wX (qC (qY ⟨?_,rfl⟩))
  grind
 ·refine jz omQ<|qG<|qT<|qB ?_
  exact qY ⟨by grind,rfl⟩
theorem qQ6 {M:VM} {p x:Int} (O:cU M):cU (yd M p x).2:=by
 unfold yd
 split
 ·rename_i hp
  split
  ·grind
  ·rename_i hn;refine⟨O.lo,O.hi,O.eR,?_,?_,O.fr⟩
   ·intro c hc;rcases List.mem_append.1 hc with hc |hc
    ·exact O.ins c hc
    grind
   ·have:=O.un.put (p:=p) (v:=x);grind[Jx]
 grind
theorem qjr {n:Nat} (hn:2≤n) {v:Nat} {M:VM} {p x:Int} (H:HS g h (ab v M::R)) (O:cU M) :
  af n 216 [.ptr v 0,.int .i64 p,.int .u64 x] h λr h'=>r=.int .i64 (yd M p x).1∧HS g h' (ab v (yd M p x).2::R):=by
 refine b8 rfl omQ λk hk=>?_;unfold S216;try simp only[iZ]
 refine qW (ON omQ H) ?_;rintro _ _ ⟨rfl,rfl⟩;unfold yd;by_cases hp:1≤p∧p<M.sz
 ·rw[iJ hp,iG hp];obtain⟨i,rfl⟩:∃i:Nat,p=(i:Int):=⟨p.toNat,by omega⟩;have hi:i<M.sz:=by omega
  obtain⟨fv,ov,q,e,H⟩:=ab.E H;refine jQ (qJ (qK (qQ (qZ ‹_› .here rfl ?_))));refine zj (H.sl e_1) hi omQ (gO (sz:=2) (λ_=>rfl) (QT hi))<|qH H rfl λb h3 H3=>qh H3 .here rfl (by simp) rfl λh4 H4=>?_
  have H5:HS g h4 (qx b (Q9 (wZ M.K i))::qx v [fv,ov,.ptr q 0,.int .i64 M.aw]::qF e 2 M.sz fv ((vA M.sz M.K).flatMap Q9)::
   qF 3 1 M.K.length ov (M.K.map λc=>.int .i64 c.1)::bU q M.most M.lv::R):=H4
  unfold Q9 at H5;cases hg:zc (i:Int) M.K with
  |some y=>
   rw[show wZ M.K i=(y,true) by grind[wZ]]at H5;refine qQ (qZ ‹_› .here rfl ?_);refine qX (qQ (qZ ‹_› .here rfl ?_));have H6:=ab.I (H5.drop);by_cases hy:y=x
   ·refine q9 omQ<|qJ (qY ⟨by grind,H6⟩)
   ·refine jJ omQ<|qX (qY ⟨by grind,H6⟩)
  |none=>
   rw[show wZ M.K i=(0,false) by grind[wZ]]at H5;have mO:=O.td;refine qQ (qZ ‹_› .here rfl ?_);refine qJ (qK (qQ (qZ ‹_› e_1 rfl ?_)));refine qy rfl<|Yp (H5.drop.ah (P:=qF e 2 M.sz fv ((vA M.sz M.K).flatMap Q9)) e_1) hi rfl rfl λh6 H6=>?_
   rw[show wL ((vA M.sz M.K).flatMap Q9) (i*2) [AV.int .u64 x,AV.bool true]=(vA M.sz (M.K++[((i:Int),x)])).flatMap Q9 by
    rw[qXC hi hg,← UQ (sz:=2) (λ_=>rfl) (by grind[Jp])];rfl]at H6
   refine qK (qQ (qZ ‹_› e_1 rfl ?_));refine qr H6 rfl rfl rfl rfl λv7 h7 H7=>?_;refine jh (H7.ah e_3) (H7.sl .here) omQ omQ rfl λv8 h8 H8=>?_;refine qK (qQ (qw H8 e_3 (H8.one .here) aA λh9 H9=>qY ⟨rfl,ab.I (fv:=fv) (ov:=v8) (q:=q) (e:=e) ?_⟩));rw[List.map_append,List.length_append];exact H9.pk [0,2,0,1] 1
 ·rw[iQ hp,iV hp];refine jg (qX ?_);exact qY ⟨rfl,H⟩
theorem xH {M:VM} {p:Int} (O:cU M):cU (qi M p).2:=by
 unfold qi
 repeat' split
 all_goals exact⟨O.lo,O.hi,O.eR,O.ins,O.un,O.fr⟩
theorem Jy {n:Nat} (hn:9≤n) {v:Nat} {M:VM} {p:Int} (H:HS g h (ab v M::R)) (O:cU M) :
  af n 208 [.ptr v 0,.int .i64 p] h λr h'=>r=.bm [.int .u64 (qi M p).1.1,.int .i64 (qi M p).1.2]∧HS g h' (ab v (qi M p).2::R):=by
 refine aG rfl omQ λk hk=>?_;unfold S208;try simp only[iZ]
 refine qW (ON omQ H) ?_;rintro _ _ ⟨rfl,rfl⟩;unfold qi;by_cases hp:1≤p∧p<M.sz
 ·rw[iJ hp,iG hp];obtain⟨i,rfl⟩:∃i:Nat,p=(i:Int):=⟨p.toNat,by omega⟩;have hi:i<M.sz:=by omega
  obtain⟨fv,ov,q,e,H⟩:=ab.E H;refine jQ (qJ (qK (qQ (qZ ‹_› .here rfl ?_))));refine qW (qvm omQ (H.ah e_3) O.eR) ?_;rintro _ h2 ⟨rfl,H2⟩;refine qA rfl<|qA rfl ?_;cases hl:Xj (i:Int) M.lv with
  |some y=>simp;refine qX<|qY ⟨rfl,ab.I (H2.pk [1,1,1] 0)⟩
  |none=>
   simp;refine qJ (qK (qQ (qZ ‹_› e_1 rfl ?_)));refine zj (H2.sl e_2) hi omQ (gO (sz:=2) (λ_=>rfl) (QT hi))<|qH H2 rfl λb h3 H3=>qh H3 .here rfl (by simp) rfl λh4 H4=>?_
   have H5:HS g h4 (qx b (Q9 (wZ M.K i))::bU q M.most M.lv::qx v [fv,ov,.ptr q 0,.int .i64 M.aw]::qF e 2 M.sz fv ((vA M.sz M.K).flatMap Q9)::
    qF 3 1 M.K.length ov (M.K.map λc=>.int .i64 c.1)::R):=H4
   unfold Q9 at H5;cases hg:zc (i:Int) M.K with
   |some y=>rw[show wZ M.K i=(y,true) by grind[wZ]]at H5;refine qQ (qZ ‹_› .here rfl ?_);refine qX (qQ (qZ ‹_› .here rfl ?_));exact qY ⟨rfl,ab.I (H5.drop.pk [1,1,1] 0)⟩
   |none=>rw[show wZ M.K i=(0,false) by grind[wZ]]at H5;refine qQ (qZ ‹_› .here rfl ?_);refine qJ (qK (qQ ?_));refine qw H5 e_2 ⟨rfl,rfl⟩ aA λh9 H9=>qY ⟨rfl,ab.I (fv:=fv) (ov:=ov) (H9.pk [0,2,2,1] 1)⟩
 ·rw[iQ hp,iV hp];refine jg (qX ?_);exact qY ⟨rfl,H⟩
theorem qvO {most:Nat} {lv:List ba} {p v:Int} {n:Nat} (h:∀x∈lv,x.2.length<n):∀x∈(vk most lv p v).2,x.2.length<n:=by
 cases lv with
 |nil=>nofun
 |cons y r=>
  obtain⟨c,hc⟩:=Kq;rw[hc];grind
theorem qqI {most:Nat} {az:List ba} {n:Nat} (hw:∀x∈az,x.2.length<n):∀{cs:List Cl} {lv:List ba},(∀x∈lv,x.2.length<n)→∀x∈(vW most az lv cs).2,x.2.length<n:=by
 intro cs
 induction cs with
 |nil=>intro lv h;exact h
 |cons c cs ih=>
  intro lv h;rw[vC]
  split
  ·exact ih (qvO h)
  grind
theorem Gx {M:VM} {cs:List Cl} (O:cU M):cU (zq M cs).2:=by
 unfold zq
 split
 ·exact⟨O.lo,O.hi,(ZH O.eR O.eR rfl).1,O.ins,O.un,qqI O.fr O.fr⟩
 grind
theorem Gm {n:Nat} (hn:8≤n) {v:Nat} {M:VM} {cs:List Cl} {c:AV} (H:HS g h (ab v M::R)) (O:cU M) (S:Rd g R 2 cs.length c (cs.flatMap jH)) (hc:cs.length<100000) :
  af n 210 [.ptr v 0,c] h λr h'=>r=.int .i64 (zq M cs).1∧HS g h' (ab v (zq M cs).2::R):=by
 refine aG rfl omQ λk hk=>?_;unfold S210;try simp only[iZ]
 refine zH (S.sl H.drop)<|jF (λk s h'=>∃i:Nat,s=(.int .i64 (i:Int),.int .i64 (cs.length:Int),c,c,.ptr v 0,())∧i≤cs.length∧k=cs.length-i∧HS g h' (ab v M::R)∧∀j,j<i→∀d,cs[j]? =some d→1≤d.1∧d.1<M.sz)
  ?_ (m:=cs.length) omQ ⟨0,rfl,by omega,by rfl,H,λj hj=>by omega⟩
 rintro k2 ih s h2 aY ⟨i,rfl,h1,rfl,H,dA⟩;refine zK (λae=>qX ?_) λeL=>qJ ?_
 ·have hi:i<cs.length:=by omega
  have fX:cs[i]? =some cs[i]:=iW hi;refine zj (S.sl H.drop) hi omQ (G5 fX)<|qH H rfl λb h3 H3=>qh H3 .here rfl (by simp) rfl λh4 H4=>?_;have H5:HS g h4 (qx b (jH cs[i])::ab v M::R):=H4;unfold jH at H5;refine qQ (qZ ‹_› .here rfl ?_);refine qW (ON omQ H5.drop) ?_;rintro _ _ ⟨rfl,rfl⟩;by_cases cM:1≤cs[i].1∧cs[i].1<M.sz
  ·rw[iG cM];refine jQ (qJ (qS omQ ?_));refine aY (cs.length-(i+1)) _ _ omQ ⟨i+1,rfl,by omega,rfl,H5.drop,λj hj d hd=>?_⟩;grind
  ·rw[iV cM];refine jg (qX (qg ?_));unfold zq;rw[iQ (λh=>cM (h _ (List.getElem_mem hi)))];exact qY ⟨rfl,H5.drop⟩
 ·have cu:∀d∈cs,1≤d.1∧d.1<M.sz:=by
   grind[List.getElem?_of_mem,List.getElem?_eq_some_iff]
  obtain⟨fv,ov,q,e,H⟩:=ab.E H;refine qK (qQ (qZ ‹_› .here rfl ?_));refine qW (qjA omQ (H.ah e_3) O.eR (S.more.more.more) hc) ?_;rintro _ h4 ⟨rfl,H4⟩;unfold zq;rw[iJ cu];exact qg (qY ⟨rfl,ab.I (fv:=fv) (ov:=ov) (H4.pk [1,1,1] 0)⟩)
theorem qq3 {n:Nat} (hn:4≤n) {v:Nat} {M:VM} (H:HS g h (ab v M::R)) (O:cU M) :
  af n 355 [.ptr v 0] h λr h'=>r=.int .i64 (xN M).1∧HS g h' (ab v (xN M).2::R):=by
 refine ag rfl omQ λk hk=>?_;unfold S355;try simp only
 obtain⟨fv,ov,q,e,H⟩:=ab.E H;refine qK (qQ (qZ ‹_› .here rfl ?_));refine qW (qjR omQ (H.ah e_3) O.eR) ?_;rintro _ h2 ⟨rfl,H2⟩;exact qY ⟨rfl,ab.I (fv:=fv) (ov:=ov) (H2.pk [1,1,1,0] 0)⟩
theorem OU {n:Nat} (hn:2≤n) {v:Nat} {M:VM} (H:HS g h (ab v M::R)) (O:cU M) :
  af n 289 [.ptr v 0] h λr h'=>r=.int .i64 (zN M).1∧HS g h' (ab v (zN M).2::R):=by
 refine ag rfl omQ λk hk=>?_;unfold S289;try simp only
 obtain⟨fv,ov,q,e,H⟩:=ab.E H;refine qK (qQ (qZ ‹_› .here rfl ?_));refine qW (Zx omQ (H.ah e_3) O.eR) ?_;rintro _ h2 ⟨rfl,H2⟩;exact qY ⟨rfl,ab.I (fv:=fv) (ov:=ov) (H2.pk [1,1,1,0] 0)⟩
theorem qQ0 {n:Nat} (hn:7≤n) {v:Nat} {M:VM} (H:HS g h (ab v M::R)) (O:cU M) :
  af n 287 [.ptr v 0] h λr h'=>r=.int .i64 (vj M).1∧HS g h' (ab v (vj M).2::R):=by
 refine ag rfl omQ λk hk=>?_;unfold S287;try simp only
 obtain⟨fv,ov,q,e,H⟩:=ab.E H;refine qK (qQ (qZ ‹_› .here rfl ?_));refine qW (qzD omQ (H.ah e_3) O.eR λx hx=>Nat.lt_trans (O.fr x hx) omQ) ?_;rintro _ h2 ⟨rfl,H2⟩;exact qY ⟨rfl,ab.I (fv:=fv) (ov:=ov) (H2.pk [1,1,1,0] 0)⟩
theorem qqn {n:Nat} (hn:3≤n) {v:Nat} {M:VM} {b:Int} (H:HS g h (ab v M::R)) (O:cU M) :
  af n 354 [.ptr v 0,.int .i64 b] h λ_ h'=>HS g h' (ab v (eZ M b)::R):=by
 refine aG rfl omQ λk hk=>?_;unfold S354;try simp only
 obtain⟨fv,ov,q,e,H⟩:=ab.E H;refine qK (qQ (qZ ‹_› .here rfl ?_));refine qW (qYS omQ (H.ah e_3) O.eR λx hx=>Nat.lt_trans (O.fr x hx) omQ) ?_;intro _ h2 H2;exact qY (ab.I (fv:=fv) (ov:=ov) (H2.pk [1,1,1,0] 0))
theorem Vf {n:Nat} (hn:1≤n) {v:Nat} {M:VM} (H:HS g h (ab v M::R)) :
  af n 111 [.ptr v 0] h λr h'=>r=.int .i64 M.aw∧h'=h:=by
 refine ag rfl omQ λk hk=>?_;unfold S111;try simp only
 obtain⟨fv,ov,q,e,H⟩:=ab.E H;refine qK (qQ (qZ ‹_› .here rfl ?_));exact qY ⟨rfl,rfl⟩
theorem Ma {n:Nat} (hn:10≤n) {v:Nat} {M:VM} (H:HS g h (ab v M::R)) (O:cU M) :
  af n 106 [.ptr v 0] h λr h'=>HS g h' (qF 129 2 (jL M.lv).length r ((jL M.lv).flatMap jH)::ab v M::R):=by
 refine ag rfl omQ λk hk=>?_;unfold S106;try simp only
 obtain⟨fv,ov,q,e,H⟩:=ab.E H;refine qK (qQ (qZ ‹_› .here rfl ?_));refine qW (qVS omQ (H.ah e_3) O.eR) ?_;intro r h2 H2;refine qY ?_;have H3:=ab.I (v:=v) (M:=M) (fv:=fv) (ov:=ov) (q:=q) (e:=e) (R:=qF 129 2 (jL M.lv).length r ((jL M.lv).flatMap jH)::R) (H2.sub (.cons e_2 (.cons e_2 (.cons e_2 (.cons e_1 (.refl))))));exact H3.pk [1] 0
theorem qW1 {n:Nat}:∀{l:List ba},(∀x∈l,x.2.length<n)→(l.flatMap (·.2)).length≤l.length*n:=by
 intro l h
 induction l with
 |nil=>simp
 |cons x r ih=>have h1:=h x (iK ..);have h2:=ih λy hy=>h y (iX _ hy);rw[List.flatMap_cons,List.length_append,List.length_cons,Nat.add_mul,Nat.one_mul];omega
theorem qJ5 {n:Nat} {lv:List ba} (h:∀x∈lv,x.2.length<n):(vw lv).length≤lv.length*n:=by have:=qW1 λx hx=>h x (List.mem_reverse.1 hx);rw[List.length_reverse]at this;trivial
theorem qVl {n:Nat} (hn:2≤n) {v:Nat} {M:VM} (H:HS g h (ab v M::R)) (O:cU M) :
  af n 108 [.ptr v 0] h λr h'=>HS g h' (qF 3 1 (vw M.lv).length r ((vw M.lv).map (.int .i64))::ab v M::R):=by
 refine ag rfl omQ λk hk=>?_;unfold S108;try simp only
 obtain⟨fv,ov,q,e,H⟩:=ab.E H;refine qK (qQ (qZ ‹_› .here rfl ?_));have Rq:=qJ5 O.fr;have hd:=O.eR.deep;refine qW (qW0 omQ (H.ah e_3) O.eR omQ) ?_;intro r h2 H2;refine qY ?_;have H3:=ab.I (v:=v) (M:=M) (fv:=fv) (ov:=ov) (q:=q) (e:=e) (R:=qF 3 1 (vw M.lv).length r ((vw M.lv).map (.int .i64))::R) (H2.sub (.cons e_2 (.cons e_2 (.cons e_2 (.cons e_1 (.refl))))));exact H3.pk [1] 0
def QN (zs:List Int) (i:Nat):Int:=zs[i]?.getD 0
def kW (zs:List Int):List Cl:=(List.range (lT zs.length-1)).map λi=>(((i+1:Nat):Int),QN zs (i+1))
def kl (zs:List Int) (most:Int):VM:=⟨lT zs.length,kW zs,(max 0 (min most 96)).toNat,[([],[])],0⟩
theorem qjS (zs:List Int):(kW zs).length=lT zs.length-1:=by simp[kW]
theorem Rr (zs:List Int) {i:Nat} (hi:i+1<lT zs.length):(kW zs)[i]? =some (((i+1:Nat):Int),QN zs (i+1)):=by unfold kW;grind
theorem qxl (zs:List Int) {i:Nat} {p:Int} (hp:(i:Int)<p):zc p ((kW zs).take i)=none:=by rw[Zj];intro hm;obtain⟨c,hc,he⟩:=List.mem_map.1 hm;obtain⟨j,hj⟩:=List.getElem?_of_mem hc;have l9:=(List.getElem?_eq_some_iff.1 hj).1;simp[qjS]at l9;rw[List.getElem?_take_of_lt omQ,Rr zs omQ]at hj;grind
def CB (zs:List Int) (most:Int) (i:Nat):VM:={ kl zs most with K:=(kW zs).take i }
theorem qks (zs:List Int) (most:Int) (i:Nat):cU (CB zs most i):=by
 have hb:=IY (zs.length:Int);refine⟨hb.1,hb.2,qKe (by show(max 0 (min most 96)).toNat≤96;omega),?_,?_,by simp[CB,kl]⟩
 ·intro c hc;obtain⟨j,hj⟩:=List.getElem?_of_mem (List.mem_of_mem_take hc);have l9:=(List.getElem?_eq_some_iff.1 hj).1;rw[qjS]at l9;rw[Rr zs omQ]at hj;cases hj;show 1≤((j+1:Nat):Int)∧((j+1:Nat):Int)<((lT zs.length:Nat):Int);omega
 ·refine List.Nodup.sublist ((List.take_sublist i _).map _) ?_;unfold kW;rw[List.map_map];refine List.Pairwise.map _ ?_ (List.nodup_range);grind
theorem qWL (zs:List Int) (most:Int):cU (kl zs most):=by have:=qks zs most (kW zs).length;unfold CB at this;rw[List.take_length]at this;trivial
end
section
abbrev qe:Type:=Int×Int×Int×Int×Int
def jG (x:qe):List AV:=[.int .i64 x.1,.int .i64 x.2.1,.int .i64 x.2.2.1,.int .i64 x.2.2.2.1,.int .u64 x.2.2.2.2]
theorem KT (l:List qe):jV (l.flatMap jG)=true:=by unfold jV;rw[List.all_eq_true];intro v hv;obtain⟨c,_,hc⟩:=List.mem_flatMap.1 hv;simp[jG]at hc;rcases hc with rfl |rfl |rfl |rfl |rfl<;>rfl
def jM (op:Int):(Int×Int)×(Int×Int)×(Int×Int) :=
 if op=1∨op=11∨op=21 then((0,7),(0,0),(0,0))
 else if op=2∨op=10 then((0,7),(0,7),(0,0))
 else if op=3∨op=4∨op=5∨op=6∨op=7 then((0,7),(0,7),(0,7))
 else if op=8∨op=9 then((0,7),(0,7),(0,15))
 else if op=12 then((0,0),(0,0),(0,40))
 else if op=13 then((0,7),(0,0),(0,40))
 else if op=23 then((1,12),(0,7),(0,6))
 else((0,0),(0,0),(0,0))
def vS (f:Int×Int) (n:Int):Bool:=decide (f.1≤n∧n≤f.2)
def gG (x:qe):Bool:=decide (1≤x.1∧x.1≤23)&&vS (jM x.1).1 x.2.1&&vS (jM x.1).2.1 x.2.2.1&&vS (jM x.1).2.2 x.2.2.2.1&&decide (x.2.2.2.2=0∨x.1=1)
def ze (op:Int):Bool:=decide (op=14∨op=17)
def zZ (op:Int):Int:=if op=15 then 14 else if op=18 then 17 else if op=19 then 18 else 0
def jW (st:List Int):Int:=st.getLast?.getD (-1)
def qU (l:List qe) (i:Int):qe:=(l[i.toNat]?).getD (0,0,0,0,0)
def cg (l:List qe) (st:List Int):Int:=if st=[]then 0 else(qU l (jW st)).1
def xJ (l:List qe) (st:List Int) (x:qe):Int :=
 if gG x=false then 8
 else if 0<zZ x.1∧cg l st≠zZ x.1 then 12
 else if x.1=16∧cg l st≠14 then 12
 else if ze x.1=true∧5≤st.length then 9
 else 0
def jD (st:List Int) (i op:Int):List Int :=
 if ze op=true∨op=18 then(if 0<zZ op then st.dropLast else st)++[i]else(if 0<zZ op then st.dropLast else st)
def mc (l:List qe):List qe→Nat→List Int→(Int×Int) ⊕ List Int
 |[],_,st=>.inr st
 |x::r,i,st=>if xJ l st x=0 then mc l r (i+1) (jD st i x.1)else .inl (i,xJ l st x)
def xc:List qe→Nat→List Int→List Int
 |[],_,_=>[]
 |x::r,i,st=>jW st::xc r (i+1) (jD st i x.1)
def qP (a:List Int) (i:Int):Int:=(a[i.toNat]?).getD 0
def JO (l:List qe) (a:List Int) (i:Nat) (x:qe):Prop :=
 (x.1=12∨x.1=13)∧((l.length:Int)<x.2.2.2.1∨(x.2.2.2.1=l.length∧qP a i≠ -1)∨(x.2.2.2.1<l.length∧qP a x.2.2.2.1≠qP a i))
instance {l:List qe} {a:List Int} {i:Nat} {x:qe}:Decidable (JO l a i x):=by unfold JO;infer_instance
def XC (l:List qe) (a:List Int):List qe→Nat→Int×Int
 |[],_=>(0,0)
 |x::r,i=>if JO l a i x then((i:Int),2)else XC l a r (i+1)
def yu (l:List qe):Int×Int :=
 if l.length=0∨40<l.length then(0,4)
 else match mc l l 0 []with
  | .inl r=>r
  | .inr st=>if st=[]then XC l (xc l 0 []) l 0 else(jW st,12)
def ch (i:Nat) (st:List Int):Prop:=∀y∈st,0≤y∧y<(i:Int)
theorem ch.nil {i:Nat}:ch i []:=λ_ h=>by grind
theorem ch.dropLast {i:Nat} {st:List Int} (h:ch i st):ch i st.dropLast:=λy hy=>h y ((List.dropLast_sublist st).subset hy)
theorem ch.behind {i:Nat} {st:List Int} {op:Int} (h:ch i st):ch (i+1) (jD st i op):=by
 have h1:∀s,ch i s→ch (i+1) s:=λs hs y hy=>by have:=hs y hy;omega
 have h2:∀s,ch i s→ch (i+1) (s++[(i:Int)]):=by
  intro s hs y hy;rcases List.mem_append.1 hy with hy |hy
  ·exact h1 s hs y hy
  grind
 unfold jD
 repeat' split
 ·exact h2 _ h.dropLast
 ·grind
 ·exact h1 _ h.dropLast
 grind
theorem ch.dG {i:Nat} {st:List Int} (h:ch i st) (hn:st≠[]):0≤jW st∧jW st<(i:Int):=by refine h _ ?_;grind[jW,List.getLast?_eq_some_getLast,List.getLast_mem]
theorem US (st:List Int) (i op:Int):(jD st i op).length≤st.length+1:=by
 grind[jD]
theorem Yc:jW []= -1:=rfl
theorem zi {l:List qe} {st:List Int} {x:qe} (h:xJ l st x=0):gG x=true∧(0<zZ x.1∨x.1=16→st≠[])∧(ze x.1=true→st.length<5):=by
 unfold xJ at h
 split at h
 ·grind
 ·rename_i h1
  split at h
  ·grind
  ·rename_i h2
   split at h
   ·grind
   ·rename_i h3
    split at h
    ·grind
    ·rename_i h4
     refine⟨by grind,?_,λhb=>by
      grind⟩
     rintro ho rfl;have h0:cg l []=0:=rfl;grind
theorem Y5 {l r:List qe} {x:qe} {i:Nat} {st:List Int}:mc l (x::r) i st=if xJ l st x=0 then mc l r (i+1) (jD st i x.1)else .inl (i,xJ l st x):=rfl
theorem JK:∀{r:List qe} {i:Nat} {st:List Int},(xc r i st).length=r.length:=by
 intro r
 induction r with
 |nil=>intro i st;rfl
 |cons x r ih=>grind[xc]
theorem qqh:∀{r:List qe} {i j:Nat} {st:List Int},j<r.length→∃s,(xc r i st)[j]? =some (jW s)∧(∀{l:List qe} {st':List Int},mc l r i st=.inr st'→ch i st→ch (i+j) s∧∀x,r[j]? =some x→xJ l s x=0):=by
 intro r
 induction r with
 |nil=>simp
 |cons x r ih=>
  intro i j st h;cases j with
  |zero=>
   refine⟨st,rfl,λ{l st'} hg hs=>⟨hs,?_⟩⟩;grind[Y5]
  |succ j=>
   obtain⟨s,h1,h2⟩:=ih (by simp at h;omega);refine⟨s,h1,λ{l st'} hg hs=>?_⟩;rw[Y5]at hg
   split at hg
   ·have:=h2 hg hs.behind;grind
   grind
end
section
variable {g h:AH} {L R:List SP}
theorem wq {D:Nat→Prop} {sz n:Nat} {v:AV} {xs:List AV} (S:Sl D h sz n v xs):One v:=by cases S<;>exact⟨rfl,rfl⟩
theorem ya {v:AV} (o:One v):jV [v]=true:=by simp[jV,o.2]
theorem zO {g' ha:AH} {b off n nx:Nat} {xs ys l:List AV} {L2 R2:List SP} {K0:Go.Ae.R} {Q:AV→AH→Prop} (H:HS g h L) (s:aR L (qx b xs) R) (hx:(xs.drop off).take n=l) (H2:HS g' ha L2) (s2:aR L2 (qx b ys) R2) (mw:(ys.drop off).take n=l) (hl:l.length=n) (h0:0<n) (ae:b<nx)
  (w:wp K0 Q):wp (ve (.ptr b off) (some n) (.agg l) h ha nx K0) Q:=by
 obtain⟨e,A⟩:=H.obj s;obtain⟨e2,A2⟩:=H2.obj s2;exact WB hl h0 (λi hi=>by rw[A.at,← hx,List.getElem?_take_of_lt hi,List.getElem?_drop]) (λi hi=>by rw[A2.at,← mw,List.getElem?_take_of_lt hi,List.getElem?_drop]) ae w
theorem qQS {u x:Bool} {r:AV} {K:AV→Go.Ae.R} {Q:AV→AH→Prop} (hr:u=true→r=.bool x) (w:wp (K (.bool (u&&x))) Q):wp (zo (.bool u) r (.bool false) K) Q:=by
 cases u
 ·exact w
 ·rw[hr rfl];exact w
end
section
variable {g h:AH} {L R:List SP}
theorem qwI {s:List UInt8} {K:AV→Go.Ae.R} {Q:AV→AH→Prop} {t:Bool} (ht:ZC .neq s []=some (.bool t)) (w:wp (K (.bool t)) Q):wp (XF .neq (.str s) (.str []) K) Q:=by show wp (ob (ZC .neq s []) K) Q;rw[ht];exact w
theorem GU {n:Nat} (hn:1≤n) {x:Int}:af n 152 [.int .i64 x] h λv h'=>v=.int .i64 (zZ x)∧h'=h:=by
 refine ag rfl omQ λk hk=>?_;unfold S152;try simp only[iZ]
 repeat' (first |refine qX ?_ |refine qJ ?_ |(refine qR ?_;try dsimp only) |(refine qf ?_;try dsimp only) |(refine qT ?_;try dsimp only) |(refine qM ?_;try dsimp only) |(refine jT ?_;try dsimp only) |refine qC ?_ |refine qB ?_ |(with_reducible refine qG ?_;try dsimp only) |refine qg ?_ |refine jQ ?_ |refine jg ?_ |refine qS omQ ?_ |refine jK omQ ?_ |refine xT omQ ?_ |refine yT omQ ?_ |refine zS ?_ |refine zu ?_ |refine zK (λhc=>?_) (λhc=>?_) |refine yb (λhc=>?_) (λhc=>?_) |refine yz (λhc=>?_) (λhc=>?_) |refine xF (λhc=>?_) (λhc=>?_) |refine xR (λhc=>?_) (λhc=>?_) |refine xx (λhc=>?_) (λhc=>?_) |refine yD (λhc=>?_) (λhc=>?_))
 all_goals refine qY ⟨?_,rfl⟩
 all_goals grind[zZ]
theorem UO {n:Nat} (hn:1≤n) {x:Int}:af n 196 [.int .i64 x] h λv h'=>v=.bool (ze x)∧h'=h:=by
 refine ag rfl omQ λk hk=>?_;unfold S196;try simp only[iZ]
 unfold ze;by_cases h1:x=14
 ·refine qj omQ<|qG<|qf<|qC ?_
  exact qY ⟨by grind,rfl⟩
 ·refine qV omQ<|qG<|qM ?_;(try dsimp only)
  refine gc (qB ?_);exact qY ⟨by grind,rfl⟩
theorem qxN {n:Nat} (hn:1≤n) {x:Int}:af n 197 [.int .i64 x] h λv h'=>v=.bool (decide (x=12∨x=13))∧h'=h:=by
 refine ag rfl omQ λk hk=>?_;unfold S197;try simp only[iZ]
 by_cases h1:x=12
 ·refine qj omQ<|qG<|qf<|qC ?_
  exact qY ⟨by grind,rfl⟩
 ·refine qV omQ<|qG<|qM ?_;(try dsimp only)
  refine gc (qB ?_);exact qY ⟨by grind,rfl⟩
theorem Ya {D:Nat→Prop} {n:Nat} (hn:1≤n) {st:List Int} {v:AV} (S:Sl D h 1 st.length v (st.map (.int .i64))) (hl:st.length<1000) :
  af n 149 [v] h λr h'=>r=.int .i64 (jW st)∧h'=h:=by
 refine ag rfl omQ λk hk=>?_;unfold S149;try simp only[iZ]
 refine zH S ?_;by_cases h0:st.length=0
 ·obtain rfl:=iA h0;refine qj omQ<|qX<|qY ⟨rfl,rfl⟩
 ·refine qV omQ<|qJ (zH S ?_);refine jK omQ ?_;rw[show(st.length:Int)-((1:Nat):Int)=((st.length-1:Nat):Int) by omega];have bG:st≠[]:=by grind
  refine jN S ?_ (qY ⟨rfl,rfl⟩);unfold jW;grind
theorem Ua {n:Nat} (hn:1≤n) {f:Int×Int} {x:Int} (H:HS g h R):af n 233 [.agg [.int .i64 f.1,.int .i64 f.2],.int .i64 x] h λv h'=>v=.bool (vS f x)∧HS g h' R:=by
 refine aG rfl omQ λk hk=>?_;unfold S233;try simp only
 refine qH H rfl λb h1 H1=>?_;unfold vS;by_cases c1:f.1≤x
 ·refine qQ (qZ ‹_› .here rfl ?_);refine jA omQ<|qG<|qR ?_;(try dsimp only);refine qQ (qZ ‹_› .here rfl ?_)
  refine NS (qC ?_);exact qY ⟨by grind,H1.drop⟩
 ·refine qQ (qZ ‹_› .here rfl ?_);refine jz omQ<|qG<|qT<|qB ?_
  exact qY ⟨by grind,H1.drop⟩
def gw (f:Int×Int):List AV:=[.int .i64 f.1,.int .i64 f.2]
theorem qJS {n:Nat} (hn:1≤n) {x:Int} (H:HS g h R):af n 231 [.int .i64 x] h λv h'=>v=.bm [.agg (gw (jM x).1),.agg (gw (jM x).2.1),.agg (gw (jM x).2.2)]∧HS g h' R:=by
 refine ag rfl omQ λk hk=>?_;unfold S231;try simp only[iZ]
 refine qH H rfl λb0 h1 H1=>?_;refine qH H1 rfl λb2 h2 H2=>?_;refine qH H2 rfl λb4 h3 H3=>?_;refine qy rfl<|qH H3 rfl λb7 h4 H4=>?_;refine qh H4 .here rfl aA rfl λh5 H5=>?_;refine jq [] (λs h'=>s=(.ptr b4 0,.ptr b2 0,.ptr b0 0,())∧HS g h' (qx b0 (gw (jM x).1)::qx b2 (gw (jM x).2.1)::qx b4 (gw (jM x).2.2)::R)) ?_ ?_
 ·intro j hj;by_cases ha:x=1∨x=11∨x=21
  ·have e:jM x=((0,7),(0,0),(0,0)):=by simp_all[jM]
   rw[e]at hj;rcases ha with rfl |rfl |rfl
   all_goals (first |(refine qG<|qV omQ<|qJ<|qV omQ<|qJ<|qj omQ<|qX ?_) |(refine qG<|qV omQ<|qJ<|qj omQ<|qX<|qX ?_) |(refine qG<|qj omQ<|qX<|qX ?_))
   all_goals refine qD H5 .here rfl omQ rfl ?_
   all_goals refine qh H5 e_3 rfl (by simp) rfl λh6 H6=>?_
   all_goals exact hj _ _ ⟨rfl,H6.pk [0,2,1] 1⟩
  by_cases hb:x=2∨x=10
  ·have e:jM x=((0,7),(0,7),(0,0)):=by simp_all[jM]
   rw[e]at hj;rcases hb with rfl |rfl
   all_goals (first |(refine qG<|qV omQ<|qJ<|qV omQ<|qJ<|qV omQ<|qJ<|qG<|qV omQ<|qJ<|qj omQ<|qX<|qG ?_;(try dsimp only)) |(refine qG<|qV omQ<|qJ<|qV omQ<|qJ<|qV omQ<|qJ<|qG<|qj omQ<|qX<|qX<|qG ?_;(try dsimp only)))
   all_goals refine qD H5 .here rfl omQ rfl ?_
   all_goals refine qD H5 .here rfl omQ rfl ?_
   all_goals refine qh H5 e_3 rfl (by simp) rfl λh6 H6=>?_
   all_goals refine qh H6 e_3 rfl (by simp) rfl λh7 H7=>?_
   all_goals refine zO H5 .here rfl H6 e_1 rfl rfl omQ (HS.lt H5 .here) ?_
   all_goals exact hj _ _ ⟨rfl,H7.pk [1,0,1] 1⟩
  by_cases hc:x=3∨x=4∨x=5∨x=6∨x=7
  ·have e:jM x=((0,7),(0,7),(0,7)):=by simp_all[jM]
   rw[e]at hj;rcases hc with rfl |rfl |rfl |rfl |rfl
   all_goals (first |(refine qG<|qV omQ<|qJ<|qV omQ<|qJ<|qV omQ<|qJ<|qG<|qV omQ<|qJ<|qV omQ<|qJ<|qG<|qV omQ<|qJ<|qV omQ<|qJ<|qV omQ<|qJ<|qV omQ<|qJ<|qj omQ<|qX<|qG ?_;(try dsimp only)) |(refine qG<|qV omQ<|qJ<|qV omQ<|qJ<|qV omQ<|qJ<|qG<|qV omQ<|qJ<|qV omQ<|qJ<|qG<|qV omQ<|qJ<|qV omQ<|qJ<|qV omQ<|qJ<|qj omQ<|qX<|qX<|qG ?_;(try dsimp only)) |(refine qG<|qV omQ<|qJ<|qV omQ<|qJ<|qV omQ<|qJ<|qG<|qV omQ<|qJ<|qV omQ<|qJ<|qG<|qV omQ<|qJ<|qV omQ<|qJ<|qj omQ<|qX<|qX<|qG ?_;(try dsimp only)) |(refine qG<|qV omQ<|qJ<|qV omQ<|qJ<|qV omQ<|qJ<|qG<|qV omQ<|qJ<|qV omQ<|qJ<|qG<|qV omQ<|qJ<|qj omQ<|qX<|qX<|qG ?_;(try dsimp only)) |(refine qG<|qV omQ<|qJ<|qV omQ<|qJ<|qV omQ<|qJ<|qG<|qV omQ<|qJ<|qV omQ<|qJ<|qG<|qj omQ<|qX<|qX<|qG ?_;(try dsimp only)))
   all_goals refine qD H5 .here rfl omQ rfl ?_
   all_goals refine qD H5 .here rfl omQ rfl ?_
   all_goals refine qD H5 .here rfl omQ rfl ?_
   all_goals refine qh H5 e_3 rfl (by simp) rfl λh6 H6=>?_
   all_goals refine qh H6 e_3 rfl (by simp) rfl λh7 H7=>?_
   all_goals refine qh H7 e_3 rfl (by simp) rfl λh8 H8=>?_
   all_goals refine zO H6 e_1 rfl H7 e_2 rfl rfl omQ (HS.lt H5 .here) ?_
   all_goals refine zO H5 .here rfl H6 e_1 rfl rfl omQ (HS.lt H5 .here) ?_
   all_goals refine zO H5 .here rfl H6 e_1 rfl rfl omQ (HS.lt H5 .here) ?_
   all_goals exact hj _ _ ⟨rfl,H8.pk [2,1,0] 1⟩
  by_cases hd:x=8∨x=9
  ·have e:jM x=((0,7),(0,7),(0,15)):=by simp_all[jM]
   rw[e]at hj;rcases hd with rfl |rfl
   all_goals (first |(refine qG<|qV omQ<|qJ<|qV omQ<|qJ<|qV omQ<|qJ<|qG<|qV omQ<|qJ<|qV omQ<|qJ<|qG<|qV omQ<|qJ<|qV omQ<|qJ<|qV omQ<|qJ<|qV omQ<|qJ<|qV omQ<|qJ<|qG<|qV omQ<|qJ<|qj omQ<|qX<|qG ?_;(try dsimp only)) |(refine qG<|qV omQ<|qJ<|qV omQ<|qJ<|qV omQ<|qJ<|qG<|qV omQ<|qJ<|qV omQ<|qJ<|qG<|qV omQ<|qJ<|qV omQ<|qJ<|qV omQ<|qJ<|qV omQ<|qJ<|qV omQ<|qJ<|qG<|qj omQ<|qX<|qX<|qG ?_;(try dsimp only)))
   all_goals refine qD H5 .here rfl omQ rfl ?_
   all_goals refine qD H5 .here rfl omQ rfl ?_
   all_goals refine qy rfl ?_
   all_goals refine qh H5 e_3 rfl (by simp) rfl λh6 H6=>?_
   all_goals refine qh H6 e_3 rfl (by simp) rfl λh7 H7=>?_
   all_goals refine qh H7 e_3 rfl (by simp) rfl λh8 H8=>?_
   all_goals refine zO H5 .here rfl H6 e_1 rfl rfl omQ (HS.lt H5 .here) ?_
   all_goals exact hj _ _ ⟨rfl,H8.pk [2,1,0] 1⟩
  by_cases he:x=12
  ·have e:jM x=((0,0),(0,0),(0,40)):=by simp_all[jM]
   rw[e]at hj;subst he;refine qG<|qV omQ<|qJ (qV omQ ?_);refine qJ (qV omQ ?_);refine qJ (qG ?_);refine qV omQ<|qJ (qV omQ ?_);refine qJ (qG ?_);refine qV omQ<|qJ (qV omQ ?_);refine qJ (qV omQ ?_);refine qJ (qV omQ ?_);refine qJ (qV omQ ?_);refine qJ (qG ?_);refine qV omQ<|qJ (qV omQ ?_);refine qJ (qj omQ ?_);refine qX (qy rfl ?_)
   refine qh H5 e_1 rfl (by simp) rfl λh6 H6=>?_;exact hj _ _ ⟨rfl,H6.pk [3,2,0] 1⟩
  by_cases hf:x=13
  ·have e:jM x=((0,7),(0,0),(0,40)):=by simp_all[jM]
   rw[e]at hj;subst hf;refine qG<|qV omQ<|qJ (qV omQ ?_);refine qJ (qV omQ ?_);refine qJ (qG ?_);refine qV omQ<|qJ (qV omQ ?_);refine qJ (qG ?_);refine qV omQ<|qJ (qV omQ ?_);refine qJ (qV omQ ?_);refine qJ (qV omQ ?_);refine qJ (qV omQ ?_);refine qJ (qG ?_);refine qV omQ<|qJ (qV omQ ?_);refine qJ (qV omQ ?_);refine qJ (qj omQ ?_);refine qX<|qD H5 .here rfl omQ rfl<|qy rfl<|qh H5 e_3 rfl (by simp) rfl λh6 H6=>?_;refine qh H6 e_2 rfl (by simp) rfl λh7 H7=>?_;exact hj _ _ ⟨rfl,H7.pk [1,2,0] 1⟩
  by_cases hg:x=23
  ·have e:jM x=((1,12),(0,7),(0,6)):=by simp_all[jM]
   rw[e]at hj;subst hg;refine qG<|qV omQ<|qJ (qV omQ ?_);refine qJ (qV omQ ?_);refine qJ (qG ?_);refine qV omQ<|qJ (qV omQ ?_);refine qJ (qG ?_);refine qV omQ<|qJ (qV omQ ?_);refine qJ (qV omQ ?_);refine qJ (qV omQ ?_);refine qJ (qV omQ ?_);refine qJ (qG ?_);refine qV omQ<|qJ (qV omQ ?_);refine qJ (qV omQ ?_);refine qJ (qV omQ ?_);refine qJ (qj omQ ?_);refine qX (qy rfl ?_);refine qy rfl<|qy rfl<|qh H5 e_3 rfl (by simp) rfl λh6 H6=>?_;refine qh H6 e_3 rfl (by simp) rfl λh7 H7=>?_;refine qh H7 e_3 rfl (by simp) rfl λh8 H8=>?_;exact hj _ _ ⟨rfl,H8.pk [2,1,0] 1⟩
  ·have e:jM x=((0,0),(0,0),(0,0)):=by simp_all[jM]
   rw[e]at hj ⊢;refine qG<|qV omQ<|qJ (qV omQ ?_);refine qJ (qV omQ ?_);refine qJ (qG ?_);refine qV omQ<|qJ (qV omQ ?_);refine qJ (qG ?_);refine qV omQ<|qJ (qV omQ ?_);refine qJ (qV omQ ?_);refine qJ (qV omQ ?_);refine qJ (qV omQ ?_);refine qJ (qG ?_);refine qV omQ<|qJ (qV omQ ?_);refine qJ (qV omQ ?_);refine qJ (qV omQ ?_);refine qJ (qV omQ ?_);refine qJ ?_
   exact hj _ _ ⟨rfl,H5.pk [3,2,1] 1⟩
 ·rintro s h6 ⟨rfl,H6⟩;generalize jM x=F at*;refine qG (qD H6 .here rfl omQ rfl ?_);refine qD H6 e_1 rfl omQ rfl<|qD H6 e_2 rfl omQ rfl<|qh H6 .here rfl (by simp[gw]) rfl λh7 H7=>?_;refine qh H7 e_1 rfl (by simp[gw]) rfl λh8 H8=>?_;refine qh H8 e_2 rfl (by simp[gw]) rfl λh9 H9=>?_;refine zO H7 e_2 rfl H8 e_2 rfl rfl omQ (HS.lt H6 e_2)<|zO H6 e_2 rfl H7 e_2 rfl rfl omQ (HS.lt H6 e_2)<|zO H6 e_1 rfl H7 e_1 rfl rfl omQ (HS.lt H6 e_1)<|qg (qD H9 e_2 rfl omQ rfl ?_);refine qD H9 e_1 rfl omQ rfl<|qD H9 .here rfl omQ rfl<|qY ⟨rfl,H9.drop.drop.drop⟩
def te:List (List UInt8):=[[],[115,101,116],[109,111,118,101],[97,100,100],[115,117,98],[109,117,108],[108,101,115,115],[101,113,117,97,108],[108,111,97,100],[115,116,111,114,101],[97,108,108,111,99],[102,114,101,101],[106,117,109,112],[122,101,114,111],[111,112,101,110],[99,108,111,115,101],[117,110,100,111],[101,105,116,104,101,114],[111,114],[100,111,110,101],[114,101,116,114,121],[101,109,105,116],[102,97,105,108],[99,97,108,108]]
theorem qkl {p:Nat} (hp:p<24):∃s,te[p]? =some s∧ZC .neq s []=some (.bool (decide (1≤(p:Int)∧(p:Int)≤23))):=by
 match p,hp with
 | 0,_=>exact⟨_,rfl,rfl⟩
 | 1,_=>exact⟨_,rfl,rfl⟩
 | 2,_=>exact⟨_,rfl,rfl⟩
 | 3,_=>exact⟨_,rfl,rfl⟩
 | 4,_=>exact⟨_,rfl,rfl⟩
 | 5,_=>exact⟨_,rfl,rfl⟩
 | 6,_=>exact⟨_,rfl,rfl⟩
 | 7,_=>exact⟨_,rfl,rfl⟩
 | 8,_=>exact⟨_,rfl,rfl⟩
 | 9,_=>exact⟨_,rfl,rfl⟩
 | 10,_=>exact⟨_,rfl,rfl⟩
 | 11,_=>exact⟨_,rfl,rfl⟩
 | 12,_=>exact⟨_,rfl,rfl⟩
 | 13,_=>exact⟨_,rfl,rfl⟩
 | 14,_=>exact⟨_,rfl,rfl⟩
 | 15,_=>exact⟨_,rfl,rfl⟩
 | 16,_=>exact⟨_,rfl,rfl⟩
 | 17,_=>exact⟨_,rfl,rfl⟩
 | 18,_=>exact⟨_,rfl,rfl⟩
 | 19,_=>exact⟨_,rfl,rfl⟩
 | 20,_=>exact⟨_,rfl,rfl⟩
 | 21,_=>exact⟨_,rfl,rfl⟩
 | 22,_=>exact⟨_,rfl,rfl⟩
 | 23,_=>exact⟨_,rfl,rfl⟩
 |k+24,h=>grind
theorem qq1 {n:Nat} (hn:2≤n) {x:Int} (H:HS g h R):af n 232 [.int .i64 x] h λv h'=>∃s,v=.str s∧ZC .neq s []=some (.bool (decide (1≤x∧x≤23)))∧HS g h' R:=by
 refine ag rfl omQ λk hk=>?_;unfold S232;try simp only
 refine qW (Q':=λv h'=>∃e,HS g h' (qF e 1 24 v (te.map .str)::R)) ?_ ?_
 ·(refine qE rfl omQ λk hk=>?_;show wp (S264 (callT tab qv k) _) _;unfold S264;try simp only[iI,uU,iZ])
  exact qr H rfl rfl rfl rfl λv h1 H1=>qY ⟨_,H1⟩
 rintro v h1 ⟨e,H1⟩;refine qW (Q':=λw h'=>∃s,w=.str s∧ZC .neq s []=some (.bool (decide (1≤x∧x≤23)))∧h'=h1) ?_ ?_
 ·refine aG rfl omQ λk hk=>?_;unfold S263;try simp only[iZ]
  by_cases c0:x<0
  ·refine jB omQ<|qG<|qf<|qC (qX ?_)
   exact qY ⟨[],rfl,by rw[iV omQ];rfl,rfl⟩
  ·refine jk omQ<|qG<|qM<|qd ‹_› .here ?_
   by_cases c1:x<24
   ·obtain⟨p,rfl⟩:∃p:Nat,x=(p:Int):=⟨x.toNat,by omega⟩;obtain⟨s,hs,ht⟩:=qkl (show p<24 by omega);refine jz omQ<|qB (qJ (jN (H1.sl .here) (by grind) (qY ⟨s,rfl,ht,rfl⟩)))
   ·refine jA omQ<|qB (qX ?_);exact qY ⟨[],rfl,by rw[iV omQ];rfl,rfl⟩
 ·rintro _ h2 ⟨s,rfl,ht,rfl⟩;exact qY ⟨s,rfl,ht,H1.drop⟩
theorem qxn {n:Nat} (hn:3≤n) {x:qe} (H:HS g h R):af n 194 [.agg (jG x)] h λv h'=>v=.bool (gG x)∧HS g h' R:=by
 refine ag rfl omQ λk hk=>?_;unfold S194;try simp only[iZ]
 obtain⟨op,a,b,c,q⟩:=x;refine qH H rfl λb0 h1 H1=>?_;refine qQ (qZ ‹_› .here rfl ?_);refine qW (qJS omQ H1) ?_;rintro _ h2 ⟨rfl,H2⟩;have hM:gG (op,a,b,c,q)=(decide (1≤op∧op≤23)&&vS (jM op).1 a&&vS (jM op).2.1 b&&vS (jM op).2.2 c&&decide (q=0∨op=1)):=rfl;rw[hM];generalize jM op=F at*;obtain⟨f1,f2,f3⟩:=F;refine qA rfl<|qA rfl<|qA rfl<|qH H2 rfl λb1 h3 H3=>?_;refine qH H3 rfl λb2 h4 H4=>?_;refine qH H4 rfl λb3 h5 H5=>?_;refine qh H5 e_2 rfl aA rfl λh6 H6=>?_;refine qh H6 e_2 rfl aA rfl λh7 H7=>?_;refine qh H7 e_2 rfl aA rfl λh8 H8=>?_;refine qQ (qZ ‹_› e_3 rfl ?_);refine qW (qq1 omQ H8) ?_;rintro _ h9 ⟨s,rfl,ht,H⟩;refine qwI ht ?_;by_cases c1:1≤op∧op≤23
 rotate_left
 ·rw[iV c1];refine qG<|qT<|qB (qG ?_);refine qT<|qB (qG ?_);refine qT<|qB (qG ?_);refine qT<|qG<|jT<|qG<|qT<|qB ?_
  exact qY ⟨rfl,H.drop.drop.drop.drop⟩
 rw[iG c1];refine qG<|qR ?_;(try dsimp only)
 refine qD H e_2 rfl omQ rfl<|qQ (qZ ‹_› e_3 rfl ?_);refine qW (Ua omQ H) ?_;rintro _ dK ⟨rfl,cC⟩;cases TR:vS f1 a
 ·refine qC (qG ?_);refine qT<|qB (qG ?_);refine qT<|qB (qG ?_);refine qT<|qG<|jT<|qG<|qT<|qB ?_
  exact qY ⟨rfl,cC.drop.drop.drop.drop⟩
 refine qC (qG ?_);refine qR ?_;(try dsimp only)
 refine qD cC e_1 rfl omQ rfl<|qQ (qZ ‹_› e_3 rfl ?_);refine qW (Ua omQ cC) ?_;rintro _ bY ⟨rfl,dv⟩;cases Iw:vS f2 b
 ·refine qC (qG ?_);refine qT<|qB (qG ?_);refine qT<|qG<|jT<|qG<|qT<|qB ?_
  exact qY ⟨rfl,dv.drop.drop.drop.drop⟩
 refine qC (qG ?_);refine qR ?_;(try dsimp only)
 refine qD dv .here rfl omQ rfl<|qQ (qZ ‹_› e_3 rfl ?_);refine qW (Ua omQ dv) ?_;rintro _ eY ⟨rfl,dU⟩;cases TS:vS f3 c
 ·refine qC (qG ?_);refine qT<|qG<|jT<|qG<|qT<|qB ?_
  exact qY ⟨rfl,dU.drop.drop.drop.drop⟩
 by_cases c2:q=0
 ·refine qC (qG ?_);refine qR<|qQ (qZ ‹_› e_3 rfl ?_);refine qj omQ<|qG<|qf<|qG<|qR<|qC (qC ?_)
  exact qY ⟨by grind,dU.drop.drop.drop.drop⟩
 by_cases c3:op=1
 ·refine qC (qG ?_);refine qR<|qQ (qZ ‹_› e_3 rfl ?_);refine qV omQ<|qG<|qM<|qQ (qZ ‹_› e_3 rfl ?_);refine qj omQ<|qG<|qR<|qB (qC ?_)
  exact qY ⟨by grind,dU.drop.drop.drop.drop⟩
 ·refine qC (qG ?_);refine qR<|qQ (qZ ‹_› e_3 rfl ?_);refine qV omQ<|qG<|qM<|qQ (qZ ‹_› e_3 rfl ?_);refine qV omQ<|qG<|qR<|qB (qC ?_)
  exact qY ⟨by grind,dU.drop.drop.drop.drop⟩
end
section
variable {g h:AH} {L R:List SP}
theorem qvP {l:List qe} {i:Nat} (hi:i<l.length):qU l (i:Int)=l[i]:=by simp_all[qU]
theorem qzC {n:Nat} (hn:2≤n) {l:List qe} {st:List Int} {sv tv:AV} (H:HS g h R) (S:Rd g R 5 l.length sv (l.flatMap jG)) (T:Rd g R 1 st.length tv (st.map (.int .i64))) (hs:ch l.length st) (hl:st.length<1000) :
  af n 195 [tv,.agg [sv]] h λv h'=>v=.int .i64 (cg l st)∧HS g h' R:=by
 refine aG rfl omQ λk hk=>?_;unfold S195;try simp only[iZ]
 refine qH H (ya (wq (S.sl H))) λb h1 H1=>?_;refine zH (T.sl H1.drop) ?_;unfold cg;by_cases h0:st=[]
 ·subst h0;rw[iJ rfl]
  skip
  exact qY ⟨rfl,H1.drop⟩
 ·have iD:st.length≠0:=λh=>h0 (iA h);rw[iQ h0];refine qV omQ<|qJ (qG ?_);refine qQ (qZ ‹_› .here rfl ?_)
  refine qW (Ya omQ (T.sl H1.drop) hl) ?_;rintro _ h1 ⟨rfl,rfl⟩;have hi:=hs.dG h0;generalize jW st=p at*;obtain⟨p,rfl⟩:∃q:Nat,p=(q:Int):=⟨p.toNat,by omega⟩;have hp:p<l.length:=by omega
  refine jU (S.sl H1.drop) omQ hp (by rw[xl jG (λ_=>rfl) _ _ _ omQ,iW hp];rfl)<|qu ‹_› .here rfl ‹_› .here rfl (HS.lt ‹_› .here)<|qY ⟨by rw[qvP hp],H1.drop⟩
theorem qVE {n:Nat} (hn:4≤n) {l:List qe} {st:List Int} {sv tv:AV} {x:qe} (H:HS g h R) (S:Rd g R 5 l.length sv (l.flatMap jG)) (T:Rd g R 1 st.length tv (st.map (.int .i64))) (hs:ch l.length st) (hl:st.length<1000) :
  af n 147 [.agg [sv],tv,.agg (jG x)] h λv h'=>v=.int .i64 (xJ l st x)∧HS g h' R:=by
 refine b8 rfl omQ λk hk=>?_;unfold S147;try simp only[iZ]
 refine qH H (ya (wq (S.sl H))) λb0 h1 H1=>?_;refine qH H1 rfl λb2 h2 H2=>?_;refine qD H2 .here rfl omQ rfl<|qW (qxn omQ H2) ?_;rintro _ h3 ⟨rfl,H3⟩;obtain⟨op,a,b,c,q⟩:=x;have hW:xJ l st (op,a,b,c,q)=if gG (op,a,b,c,q)=false then 8 else if 0<zZ op∧cg l st≠zZ op then 12 else if op=16∧cg l st≠14 then 12 else if ze op=true∧5≤st.length then 9 else 0:=rfl
 rw[hW];cases gG (op,a,b,c,q)
 ·refine jg (qX ?_);exact qY ⟨rfl,H3.drop.drop⟩
 rw[iQ aA]
 (first |refine qX ?_ |with_reducible refine qJ ?_ |(refine qR ?_;try dsimp only) |(refine qf ?_;try dsimp only) |(refine qT ?_;try dsimp only) |(refine qM ?_;try dsimp only) |(refine jT ?_;try dsimp only) |refine qC ?_ |refine qB ?_ |(refine qG ?_;try dsimp only) |refine qg ?_ |refine jQ ?_ |refine jg ?_ |refine qS omQ ?_ |refine jK omQ ?_ |refine xT omQ ?_ |refine yT omQ ?_ |refine zS ?_ |refine zu ?_)
 (first |refine qX ?_ |refine qJ ?_ |(refine qR ?_;try dsimp only) |(refine qf ?_;try dsimp only) |(refine qT ?_;try dsimp only) |(refine qM ?_;try dsimp only) |(refine jT ?_;try dsimp only) |refine qC ?_ |refine qB ?_ |(refine qG ?_;try dsimp only) |refine qg ?_ |refine jQ ?_ |refine jg ?_ |refine qS omQ ?_ |refine jK omQ ?_ |refine xT omQ ?_ |refine yT omQ ?_ |refine zS ?_ |refine zu ?_)
 refine gS (λs h'=>s=(.bool (decide (0<zZ op∧cg l st≠zZ op)),.ptr b2 0,.ptr b0 0,tv,())∧HS g h' (qx b2 [.int .i64 op,.int .i64 a,.int .i64 b,.int .i64 c,.int .u64 q]::qx b0 [sv]::R)) ?_ ?_
 ·intro j hj;refine qQ (qZ ‹_› .here rfl ?_);refine qW (GU omQ) ?_;rintro _ h3 ⟨rfl,rfl⟩;by_cases h1:0<zZ op
  ·refine zv omQ<|qR ?_;(try dsimp only)
   refine qD H3 e_1 rfl omQ rfl<|qW (qzC omQ H3 S.more.more T.more.more hs hl) ?_;rintro _ h4 ⟨rfl,H4⟩;refine qQ (qZ ‹_› .here rfl ?_);refine qW (GU omQ) ?_;rintro _ h4 ⟨rfl,rfl⟩;refine XP (qC (qu ‹_› .here rfl ‹_› .here rfl (HS.lt ‹_› .here) ?_));refine hj _ _ ⟨?_,H4⟩
   simp;omega
  ·refine zV omQ<|qT<|qB ?_
   refine hj _ _ ⟨?_,H3⟩;grind
 rintro s h4 ⟨rfl,H⟩;by_cases hA:0<zZ op∧cg l st≠zZ op
 ·rw[iG hA,iJ hA];refine qX<|qY ⟨rfl,H.drop.drop⟩
 rw[iV hA,iQ hA];refine qJ (qQ (qZ ‹_› .here rfl ?_));refine gc (gS (λs h'=>∃(r:AV) (u x:Bool),s=(r,.bool u,.ptr b2 0,tv,())∧(u=true→r=.bool x)∧((u&&x)=decide (op=16∧cg l st≠14))∧HS g h' (qx b2 [.int .i64 op,.int .i64 a,.int .i64 b,.int .i64 c,.int .u64 q]::qx b0 [sv]::R)) ?_ ?_)
 ·intro j hj;by_cases h1:op=16
  ·rw[iG (show op=((16:Nat):Int)from h1)];refine qR ?_;(try dsimp only)
   refine qD H e_1 rfl omQ rfl<|qW (qzC omQ H S.more.more T.more.more hs hl) ?_;rintro _ h4 ⟨rfl,H4⟩;refine XP (hj _ _ ⟨_,true,decide (¬cg l st=14),rfl,λ_=>rfl,?_,H4⟩);grind
  ·rw[iV (show¬op=((16:Nat):Int)from h1)];refine qT ?_;(try dsimp only)
   refine hj _ _ ⟨_,false,false,rfl,(nofun),?_,H⟩;grind
 rintro s h4 ⟨r,u,y,rfl,hr,hu,H⟩;refine qQS hr ?_;rw[hu];by_cases hB:op=16∧cg l st≠14
 ·rw[iG hB,iJ hB];refine qX<|qY ⟨rfl,H.drop.drop⟩
 rw[iV hB,iQ hB];refine qJ (qQ (qZ ‹_› .here rfl ?_));refine qW (UO omQ) ?_;rintro _ h4 ⟨rfl,rfl⟩;cases hb:ze op
 ·rw[iQ aA];refine qG<|qT<|qB (qJ ?_)
  exact qY ⟨rfl,H.drop.drop⟩
 ·refine qG<|qR ?_;(try dsimp only)
  refine zH (T.sl H.drop.drop) ?_;by_cases h5:5≤st.length
  ·rw[iJ ⟨rfl,h5⟩];refine jA omQ<|qC (qX ?_);exact qY ⟨rfl,H.drop.drop⟩
  ·rw[iQ (λh=>h5 h.2)];refine jz omQ<|qC (qJ ?_);exact qY ⟨rfl,H.drop.drop⟩
def tf (v:AV) (st:List Int):SP:=qF 3 1 st.length v (st.map (.int .i64))
theorem Vk {n:Nat} (hn:2≤n) {st:List Int} {tv:AV} {i op:Int} (H:HS g h (tf tv st::R)) (hs:0<zZ op→st≠[]) (hl:st.length<1000) :
  af n 148 [tv,.int .i64 i,.int .i64 op] h λv h'=>HS g h' (tf v (jD st i op)::R):=by
 refine b8 rfl omQ λk hk=>?_;unfold S148;try simp only[iZ]
 refine jq [] (λs h'=>∃v,s=(.int .i64 op,.int .i64 i,v,())∧HS g h' (tf v (if 0<zZ op then st.dropLast else st)::R)) ?_ ?_
 ·intro j hj;refine qW (GU omQ) ?_;rintro _ h ⟨rfl,rfl⟩;by_cases h1:0<zZ op
  ·have bG:=hs h1;have iD:st.length≠0:=λh=>bG (iA h);rw[iJ h1]at hj;refine zv h1 (qX ?_);refine zH (H.sl .here)<|jK omQ ?_;rw[show(st.length:Int)-((1:Nat):Int)=((st.length-1:Nat):Int) by omega];refine gM H omQ omQ λv H1=>?_;refine hj _ _ ⟨v,rfl,?_⟩;simp_all[tf,List.dropLast_eq_take,List.map_take,Nat.mul_one]
  ·rw[iQ h1]at hj;refine zV h1 (qJ ?_);exact hj _ _ ⟨tv,rfl,H⟩
 rintro s h1 ⟨v,rfl,H⟩;unfold jD;have l6:(if 0<zZ op then st.dropLast else st).length<1000:=by
  grind
 generalize(if 0<zZ op then st.dropLast else st)=st at*;refine qG ?_;(try dsimp only)
 refine qW (UO omQ) ?_;rintro _ h1 ⟨rfl,rfl⟩;have push:∀{K:AV→AH→Go.Ae.R} {Q:AV→AH→Prop},(∀v' h',HS g h' (tf v' (st++[i])::R)→wp (K v' h') Q)→
   wp (zR h1 3 [.int .i64 ((0:Nat):Int)] 1 [(0,1,.int .i64 i)] λfG dQ=>z6 dQ 3 1 v fG K) Q:=by
  intro K Q w;refine qr H rfl rfl rfl rfl λv5 h5 H5=>?_;refine jh (H5.ah e_1) (H5.sl .here) omQ omQ rfl λv6 h6 H6=>w v6 h6 ?_;unfold tf;rw[List.map_append,List.length_append];exact H6.pk [0] 1
 cases hb:ze op
 ·by_cases tO:op=18
  ·rw[iJ (.inr tO)];refine qG<|qM<|qj omQ<|qB (qX ?_)
   exact push λv' h' H'=>qg (qY H')
  ·rw[iQ (by grind)];refine qG<|qM<|qV omQ<|qB (qJ (qg ?_))
   exact qY H
 ·rw[iJ (.inl rfl)];refine qG<|qf<|qC (qX ?_)
  exact push λv' h' H'=>qg (qY H')
theorem GP {l:List qe} {i:Nat} {st:List Int} (hi:i<l.length):mc l (l.drop i) i st=if xJ l st l[i]=0 then mc l (l.drop (i+1)) (i+1) (jD st i l[i].1)else .inl ((i:Int),xJ l st l[i]):=by rw[List.drop_eq_getElem_cons hi];rfl
theorem MP {l:List qe} {i:Nat} {st:List Int} (hi:i<l.length):xc (l.drop i) i st=jW st::xc (l.drop (i+1)) (i+1) (jD st i l[i].1):=by rw[List.drop_eq_getElem_cons hi];rfl
theorem YU {l:List qe} {a:List Int} {i:Nat} (hi:i<l.length):XC l a (l.drop i) i=if JO l a i l[i]then((i:Int),2)else XC l a (l.drop (i+1)) (i+1):=by rw[List.drop_eq_getElem_cons hi];rfl
theorem QG {l:List qe} {i:Nat} (hi:i<l.length):((l.flatMap jG).drop (i*5)).take 5=jG l[i]:=gO (sz:=5) (λ_=>rfl) (iW hi)
theorem KS {n:Nat} (hn:3≤n) {l:List qe} {st':List Int} {sv:AV} (H:HS g h R) (S:Rd g R 5 l.length sv (l.flatMap jG)) (hg:mc l l 0 []=.inr st') (hl:l.length≤100) :
  af n 151 [.agg [sv]] h λv h'=>HS g h' (qF 3 1 l.length v ((xc l 0 []).map (.int .i64))::R):=by
 refine ag rfl omQ λk hk=>?_;unfold S151;try simp only[iZ]
 refine qH H (ya (wq (S.sl H))) λb0 h1 H1=>?_;refine qQ (qZ ‹_› .here rfl ?_);refine zH (S.sl H1.drop)<|kO H1 omQ λov h2 H2=>?_;refine qQ (qZ ‹_› e_1 rfl ?_);refine zH (S.sl H2.drop.drop)<|jF (λm s h'=>∃(i:Nat) (st A:List Int) (tv:AV),s=(.int .i64 (i:Int),.int .i64 (l.length:Int),sv,tv,ov,())∧i≤l.length∧m=l.length-i∧ch i st∧st.length≤i∧mc l (l.drop i) i st=.inr st'∧A.length=i∧xc l 0 []=A++xc (l.drop i) i st∧
  HS g h' (qF 3 1 l.length ov ((A++List.replicate (l.length-i) 0).map (.int .i64))::tf tv st::R))
  ?_ (m:=l.length) omQ ⟨0,[],[],.ad,rfl,by omega,by rfl,ch.nil,by simp,hg,rfl,rfl,by
   rw[List.nil_append,List.map_replicate]
   exact(H2.ad).pk [1,0] 1⟩
 rintro m ih s h3 aY ⟨i,st,A,tv,rfl,hi,rfl,hs,sx,fB,hA,hR,H⟩;by_cases ae:i<l.length
 ·rw[GP ae]at fB;rw[MP ae]at hR;have eC:=QG ae;generalize l[i]=x at*;by_cases hw:xJ l st x=0
  rotate_left
  ·rw[iQ hw]at fB;cases fB
  rw[iJ hw]at fB;have ho:=zi hw;refine jB omQ<|qX (zj (S.sl H.drop.drop) ae omQ eC ?_);refine qH H rfl λb h4 H4=>?_;refine qh H4 .here rfl (by simp) rfl λh5 H5=>?_;unfold jG at H5;refine qW (Ya omQ (H5.sl e_2) omQ) ?_;rintro _ h5 ⟨rfl,rfl⟩;refine yr (H5.ah e_1) omQ ⟨rfl,rfl⟩ λh6 H6=>?_;have Rs:((A++List.replicate (l.length-i) 0).map (AV.int .i64)).set i (.int .i64 (jW st))=((A++[jW st])++List.replicate (l.length-(i+1)) 0).map (.int .i64):=by
   rw[← List.map_set]
   congr 1
   rw[List.set_append_right _ _ omQ,hA,Nat.sub_self,show l.length-i=(l.length-(i+1))+1 by omega,List.replicate_succ];simp
  rw[Rs]at H6;refine qQ (qZ ‹_› e_1 rfl ?_);refine qW (Vk omQ (H6.sub (L':=tf tv st::qx b [.int .i64 x.1,.int .i64 x.2.1,.int .i64 x.2.2.1,.int .i64 x.2.2.2.1,.int .u64 x.2.2.2.2]::qF 3 1 l.length ov (((A++[jW st])++List.replicate (l.length-(i+1)) 0).map (.int .i64))::R) (.cons e_2 (.cons e_1 (.cons .here .refl)))) (λh=>ho.2.1 (.inl h)) omQ) ?_;intro Rt h8 H8;refine qS omQ ?_;have oI:=US st i x.1;exact aY (l.length-(i+1)) _ _ omQ ⟨i+1,jD st i x.1,A++[jW st],Rt,rfl,by omega,rfl,hs.behind,by omega,fB,by grind,by grind,H8.pk [2,0] 1⟩
 ·obtain rfl:i=l.length:=by omega
  refine jk omQ<|qJ (qg (qY ?_));rw[hR];rw[Nat.sub_self,List.replicate_zero,List.append_nil]at H;rw[List.drop_length];show HS g h3 (qF _ 1 l.length ov ((A++[]).map _)::R);rw[List.append_nil];exact H.pk [0] 1
theorem O8 {x:qe} (h:gG x=true) (hj:x.1=12∨x.1=13):0≤x.2.2.2.1∧x.2.2.2.1≤40:=by
 have e:(jM x.1).2.2=(0,40):=by
  rcases hj with e |e<;>rw[e]<;>rfl
 simp_all[gG,Bool.and_eq_true,vS,decide_eq_true_eq]
theorem qKh {n:Nat} (hn:2≤n) {l:List qe} {a:List Int} {sv av:AV} (H:HS g h R) (S:Rd g R 5 l.length sv (l.flatMap jG)) (T:Rd g R 1 a.length av (a.map (.int .i64))) (ha:a.length=l.length) (hm:∀x∈l,gG x=true) (hl:l.length≤100) :
  af n 150 [.agg [sv],av] h λv h'=>v=.bm [.int .i64 (XC l a l 0).1,.int .i64 (XC l a l 0).2]∧HS g h' R:=by
 refine aG rfl omQ λk hk=>?_;unfold S150;try simp only[iZ]
 refine qH H (ya (wq (S.sl H))) λb0 h1 H1=>?_;have tV:=(S.sl H).sL;refine qQ (qZ ‹_› .here rfl ?_);refine z8 ‹_›<|jF (λm s h'=>∃i:Nat,s=(.int .i64 (i:Int),.int .i64 (l.length:Int),sv,.ptr b0 0,av,())∧i≤l.length∧m=l.length-i∧XC l a l 0=XC l a (l.drop i) i∧HS g h' (qx b0 [sv]::R))
  ?_ (m:=l.length) omQ ⟨0,rfl,by omega,by rfl,rfl,H1⟩
 rintro m ih s h2 aY ⟨i,rfl,hi,rfl,hJ,H⟩;by_cases ae:i<l.length
 rotate_left
 ·obtain rfl:i=l.length:=by omega
  rw[List.drop_length]at hJ;rw[hJ];refine jk omQ<|qJ (qg ?_);exact qY ⟨rfl,H.drop⟩
 rw[YU ae]at hJ;have eC:=QG ae;have Ru:=hm l[i] (List.getElem_mem ae);generalize l[i]=x at*;obtain⟨op,xa,xb,c,q⟩:=x;unfold jG at eC;refine jB omQ (qX ?_);refine jq [] (λs h'=>s=(.int .i64 (i:Int),.int .i64 (l.length:Int),sv,.ptr b0 0,av,())∧¬JO l a i (op,xa,xb,c,q)∧HS g h' (qx b0 [sv]::R)) ?_ ?_
 rotate_left
 ·rintro s h3 ⟨rfl,dA,H3⟩;rw[iQ dA]at hJ;refine qS omQ<|aY (l.length-(i+1)) _ _ omQ ⟨i+1,rfl,by omega,rfl,hJ,H3⟩
 intro j hj;refine zj (S.sl H.drop) ae omQ eC<|qH H rfl λb h4 H4=>?_;refine qh H4 .here rfl aA rfl λh5 H5=>?_;have H5:HS g h5 (qx b [.int .i64 op,.int .i64 xa,.int .i64 xb,.int .i64 c,.int .u64 q]::qx b0 [sv]::R):=H5;refine qQ (qZ ‹_› .here rfl ?_);refine qW (qxN omQ) ?_;rintro _ h5 ⟨rfl,rfl⟩;by_cases iR:op=12∨op=13
 rotate_left
 ·rw[iV iR];refine jg (qX ?_);exact hj _ _ ⟨rfl,λh=>iR h.1,H5.drop⟩
 rw[iG iR];have hc:=O8 Ru iR;dsimp only at hc;obtain⟨p,rfl⟩:∃p:Nat,c=(p:Int):=⟨c.toNat,by omega⟩;have dC:∀k:Nat,k<l.length→(a.map (AV.int .i64))[k]? =some (.int .i64 (qP a (k:Int))):=by intro k hk;unfold qP;grind
 have Ta:Sl (λ_=>True) h5 1 a.length av (a.map (.int .i64)):=T.sl H5.drop.drop;by_cases c1:l.length<p
 ·rw[iJ ⟨iR,.inl (by grind)⟩]at hJ;rw[hJ];refine jQ (qJ (qQ (qZ ‹_› .here rfl ?_)));refine qQ (qZ ‹_› e_1 rfl ?_);refine z8 ‹_›<|zv omQ<|qG<|qf<|qG<|jT<|qG<|qf<|qC (qG ?_);refine qf<|qG<|jT<|qG<|qf<|qC (qX (qg ?_))
  exact qY ⟨rfl,H5.drop.drop⟩
 by_cases c2:p=l.length
 ·subst c2;refine jQ (qJ (qQ (qZ ‹_› .here rfl ?_)));refine qQ (qZ ‹_› e_1 rfl ?_);refine z8 ‹_›<|zV omQ<|qG<|qM<|qQ (qZ ‹_› .here rfl ?_);refine qQ (qZ ‹_› e_1 rfl ?_);refine z8 ‹_›<|qj omQ<|qG<|qR ?_;(try dsimp only)
  refine jN Ta (dC i ae) ?_;by_cases c3:qP a i= -1
  ·refine q9 (by grind)<|qG<|qM<|qC (qB (qG ?_));refine qM<|qQ (qZ ‹_› .here rfl ?_);refine qQ (qZ ‹_› e_1 rfl ?_);refine z8 ‹_›<|jk omQ<|qG<|qT<|qG<|qM<|qB (qB (qJ ?_))
   exact hj _ _ ⟨rfl,λh=>by
    rcases h.2 with h |h |h
    all_goals grind,H5.drop⟩
  ·refine jJ (λh=>c3 (by grind)) ?_;rw[iJ ⟨iR,.inr (.inl ⟨rfl,c3⟩)⟩]at hJ;rw[hJ];refine qG<|qM<|qC (qB (qG ?_));refine qf<|qG<|jT<|qG<|qf<|qC (qX (qg ?_))
   exact qY ⟨rfl,H5.drop.drop⟩
 ·refine jQ (qJ (qQ (qZ ‹_› .here rfl ?_)));refine qQ (qZ ‹_› e_1 rfl ?_);refine z8 ‹_›<|zV omQ<|qG<|qM<|qQ (qZ ‹_› .here rfl ?_);refine qQ (qZ ‹_› e_1 rfl ?_);refine z8 ‹_›<|qV omQ<|qG<|qT<|qG<|qM<|qB (qB (qG ?_));refine qM<|qQ (qZ ‹_› .here rfl ?_);refine qQ (qZ ‹_› e_1 rfl ?_);refine z8 ‹_›<|jB omQ<|qG<|qR<|qQ (qZ ‹_› .here rfl ?_)
  refine jN Ta (dC p omQ)<|jN Ta (dC i ae) ?_;by_cases c3:qP a p=qP a i
  ·refine q9 c3<|qG<|qM<|qC (qB (qJ ?_))
   exact hj _ _ ⟨rfl,λh=>by
    rcases h.2 with h |h |h
    all_goals grind,H5.drop⟩
  ·refine jJ c3 ?_;rw[iJ ⟨iR,.inr (.inr ⟨by grind,c3⟩)⟩]at hJ;rw[hJ];refine qG<|qM<|qC (qB (qX (qg ?_)))
   exact qY ⟨rfl,H5.drop.drop⟩
theorem qva {l:List qe}:∀{r:List qe} {i:Nat} {st st':List Int},mc l r i st=.inr st'→∀x∈r,gG x=true:=by
 intro r
 induction r with
 |nil=>simp
 |cons y r ih=>
  intro i st st' h x hx;rw[Y5]at h
  split at h
  ·rename_i hw;rcases List.mem_cons.1 hx with rfl |hx
   ·exact(zi hw).1
   grind
  grind
theorem qkB {l:List qe}:∀{r:List qe} {i:Nat} {st:List Int} {q:Int×Int},mc l r i st=.inl q→q.2≠0:=by
 intro r
 induction r with
 |nil=>nofun
 |cons y r ih=>
  grind[Y5]
theorem Vq {l:List qe} (h:(yu l).2=0):mc l l 0 []=.inr []:=by
 grind[yu,mc,absurd,qkB]
theorem NB {n:Nat} (hn:6≤n) {l:List qe} {sv:AV} (H:HS g h R) (S:Rd g R 5 l.length sv (l.flatMap jG)) (hl:l.length≤100) :
  af n 97 [.agg [sv]] h λv h'=>v=.bm [.int .i64 (yu l).1,.int .i64 (yu l).2]∧HS g h' R:=by
 refine ag rfl omQ λk hk=>?_;unfold S97;try simp only[iZ]
 refine qH H (ya (wq (S.sl H))) λb0 h1 H1=>?_;have tV:=(S.sl H).sL;have hC:yu l=if l.length=0∨40<l.length then(0,4)else match mc l l 0 []with
  | .inl r=>r
  | .inr st=>if st=[]then XC l (xc l 0 []) l 0 else(jW st,12):=rfl
 generalize yu l=C at*;refine qQ (qZ ‹_› .here rfl ?_);refine z8 ‹_› ?_;by_cases c0:l.length=0
 ·rw[iJ (.inl c0)]at hC;subst hC;refine qj omQ<|qG<|qf<|qC (qX ?_)
  exact qY ⟨rfl,H1.drop⟩
 by_cases c1:40<l.length
 ·rw[iJ (.inr c1)]at hC;subst hC;refine qV omQ<|qG<|qM<|qQ (qZ ‹_› .here rfl ?_);refine z8 ‹_›<|zv omQ<|qB (qX ?_)
  exact qY ⟨rfl,H1.drop⟩
 rw[iQ omQ]at hC;refine qV omQ<|qG<|qM<|qQ (qZ ‹_› .here rfl ?_);refine z8 ‹_›<|zV omQ<|qB (qJ (qQ (qZ ‹_› .here rfl ?_)));refine z8 ‹_› ?_
 generalize hG:mc l l 0 []=G at hC;refine jF (λm s h'=>∃(i:Nat) (st:List Int) (tv:AV),s=(.int .i64 (i:Int),.int .i64 (l.length:Int),sv,tv,.ptr b0 0,())∧i≤l.length∧m=l.length-i∧ch i st∧st.length≤i∧mc l (l.drop i) i st=G∧HS g h' (tf tv st::qx b0 [sv]::R))
  ?_ (m:=l.length) omQ ⟨0,[],.ad,rfl,by omega,by rfl,ch.nil,by simp,hG,H1.ad⟩
 rintro m ih s h2 aY ⟨i,st,tv,rfl,hi,rfl,hs,sx,fB,H⟩;by_cases ae:i<l.length
 ·rw[GP ae]at fB;have eC:=QG ae;generalize l[i]=x at*;refine jB omQ<|qX (zj (S.sl H.drop.drop) ae omQ eC ?_);refine qH H rfl λb h4 H4=>?_;refine qh H4 .here rfl (by simp) rfl λh5 H5=>?_;refine qD H5 e_2 rfl omQ rfl<|qD H5 .here rfl omQ rfl<|qW (qVE omQ H5 S.more.more.more (Rd.own e_1) (λy hy=>by have:=hs y hy;omega) omQ) ?_;rintro _ h6 ⟨rfl,H6⟩;by_cases hw:xJ l st x=0
  ·rw[iJ hw]at fB;have ho:=zi hw;refine q9 hw ?_;unfold jG at H6;refine qJ (qQ (qZ ‹_› .here rfl ?_));refine qW (Vk omQ (H6.ah e_1) (λh=>ho.2.1 (.inl h)) omQ) ?_;intro Rt h8 H8;have oI:=US st i x.1;refine qS omQ<|aY (l.length-(i+1)) _ _ omQ ⟨i+1,jD st i x.1,Rt,rfl,by omega,rfl,hs.behind,by omega,fB,H8.pk [0] 1⟩
  ·rw[iQ hw]at fB;subst fB;rw[hC];refine jJ hw<|qX (qg ?_);exact qY ⟨rfl,H6.drop.drop.drop⟩
 ·obtain rfl:i=l.length:=by omega
  rw[List.drop_length]at fB;have fB:(Sum.inr st:(Int×Int) ⊕ List Int)=G:=fB;subst fB;dsimp only at hC;refine jk omQ (qJ ?_);refine zH (H.sl .here) ?_;by_cases h0:st=[]
  ·subst h0;rw[iJ rfl]at hC;rw[show([]:List Int).length=0 from rfl];refine zV omQ<|qJ (qG ?_);(try dsimp only)
   refine qD H e_1 rfl omQ rfl<|qD H e_1 rfl omQ rfl<|qW (KS omQ H S.more.more hG hl) ?_;intro av h3 H3;refine qW (qKh omQ H3 S.more.more.more (by rw[JK];exact Rd.own .here) JK (qva hG) hl) ?_;rintro _ h4 ⟨rfl,H4⟩;rw[← hC];refine qA rfl<|qA rfl<|zO H e_1 rfl H3 e_2 rfl rfl omQ (HS.lt H e_1)<|qg<|qY ⟨rfl,H4.drop.drop.drop⟩
  ·rw[iQ h0]at hC;subst hC;have iD:st.length≠0:=λh=>h0 (iA h);refine zv omQ<|qX (qW (Ya omQ (H.sl .here) omQ) ?_);rintro _ h3 ⟨rfl,rfl⟩;refine qg<|qY ⟨rfl,H.drop.drop⟩
theorem jQD {l:List qe} {st':List Int} (hg:mc l l 0 []=.inr st') {i:Nat} (hi:i<l.length) (ho:0<zZ l[i].1∨l[i].1=16):∃p:Nat,(xc l 0 [])[i]? =some (p:Int)∧p<l.length:=by
 obtain⟨s,h1,h2⟩:=qqh hi;obtain⟨h3,h4⟩:=h2 hg ch.nil;have hw:=h4 l[i] (iW hi);have bG:=(zi hw).2.1 ho;have cM:=h3.dG bG;refine⟨(jW s).toNat,?_,by omega⟩;grind
end
end Go.Proofs.YtpbpkcdebchbbaaGreatDoor
