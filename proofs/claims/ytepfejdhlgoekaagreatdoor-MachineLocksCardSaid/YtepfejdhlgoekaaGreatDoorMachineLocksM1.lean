/- Lemmas for 'quietus/quietuslaw28.MachineLocks': What a transaction knows and writes, as plain data: cells, levels, views;Write sets: by the program;Levels of cells and frees: by the program;Views: by the ... No condition. -/
import Derived.Test.YtepfejdhlgoekaaGreatDoorMachineLocksAe7
import Derived.Test.YtepfejdhlgoekaaGreatDoorMachineLocksT
import Derived.KernelRfl
namespace Go.Proofs.YtepfejdhlgoekaaGreatDoor
open Go Go.Ae
set_option maxRecDepth 100000
section
abbrev Cl:Type:=Int×Int
def jL (c:Int×Int):List AV:=[.int .i64 c.1,.int .u64 c.2]
def Yv (p:Int):List Cl→Option Nat
 |[]=>none
 |c::l=>if c.1=p then some 0 else(Yv p l).map (· +1)
def zj (p:Int):List Cl→Option Int
 |[]=>none
 |c::l=>if c.1=p then some c.2 else zj p l
def yi (p v:Int):List Cl→List Cl
 |[]=>[(p,v)]
 |c::l=>if c.1=p then(p,v)::l else c::yi p v l
def yb (l cs:List Cl):List Cl:=cs.foldl (λl c=>yi c.1 c.2 l) l
theorem ME {p:Int} {l:List Cl}:Yv p l=none↔zj p l=none:=by
 induction l with
 |nil=>simp[Yv,zj]
 |cons c l ih=>
  unfold Yv zj
  split
  ·simp
  ·simp[ih]
theorem Mc {p:Int}:∀{l:List Cl} {i:Nat},Yv p l=some i→i<l.length∧(∃x,l[i]? =some (p,x)∧zj p l=some x)∧∀v,yi p v l=l.set i (p,v):=by
 intro l
 induction l with
 |nil=>intro i h;cases h
 |cons c l ih=>
  intro i h;unfold Yv at h;unfold zj
  split at h
  ·rename_i hc;cases h;rw[iJ hc];refine⟨by simp,⟨c.2,by rw[← hc];rfl,rfl⟩,λv=>?_⟩;unfold yi;rw[iJ hc];rfl
  ·rename_i hc;rw[iQ hc];cases hi:Yv p l with
   |none=>rw[hi]at h;cases h
   |some j=>rw[hi]at h;cases h;obtain⟨h1,⟨x,h2,h2'⟩,h3⟩:=ih hi;refine⟨by simp;omega,⟨x,by simpa using h2,h2'⟩,λv=>?_⟩;unfold yi;rw[iQ hc,h3];rfl
theorem Xw {p v:Int} {l:List Cl} (h:zj p l=none):yi p v l=l++[(p,v)]:=by
 induction l with
 |nil=>rfl
 |cons c l ih=>
  unfold zj at h
  split at h
  ·cases h
  ·rename_i hc;unfold yi;rw[iQ hc,ih h];rfl
theorem qQT {p:Int}:∀{l:List Cl} {i:Nat},i<l.length→(∀j,j<i→∀c,l[j]? =some c→c.1≠p)→(∃x,l[i]? =some (p,x))→Yv p l=some i:=by
 intro l
 induction l with
 |nil=>intro i h;simp at h
 |cons c l ih=>
  intro i hi h1 ⟨x,h2⟩;unfold Yv;cases i with
  |zero=>simp at h2;rw[iJ (by rw[h2])]
  |succ i=>rw[iQ (h1 0 omQ c rfl),ih (by simpa using hi) (λj hj c' hc'=>h1 (j+1) omQ c' (by simpa using hc')) ⟨x,by simpa using h2⟩];rfl
theorem qGf {p:Int}:∀{l:List Cl},(∀c∈l,c.1≠p)→Yv p l=none:=by
 intro l
 induction l with
 |nil=>intro _;rfl
 |cons c l ih=>intro h;unfold Yv;rw[iQ (h c (iK ..)),ih λc' hc'=>h c' (iX _ hc')];rfl
theorem Yl {p v:Int} {l:List Cl}:(yi p v l).length=if zj p l=none then l.length+1 else l.length:=by
 induction l with
 |nil=>simp[yi,zj]
 |cons c l ih=>
  unfold yi zj
  split
  ·simp
  ·rw[List.length_cons,ih]
   split<;>simp
theorem Oa {p q v:Int} {l:List Cl}:zj q (yi p v l)=if q=p then some v else zj q l:=by
 induction l with
 |nil=>
  simp only[yi,zj];by_cases h:p=q
  ·simp[h]
  ·rw[iQ h,iQ (λh'=>h h'.symm)]
 |cons c l ih=>
  unfold yi
  split
  ·rename_i hc;simp only[zj];by_cases h:p=q
   ·simp[h]
   ·rw[iQ h,iQ (λh'=>h h'.symm),iQ (by rw[hc];exact h)]
  ·rename_i hc;simp only[zj,ih];by_cases h:c.1=q
   ·rw[iJ h,iJ h,iQ (by rintro rfl;exact hc h)]
   ·rw[iQ h,iQ h]
def InC (l:List Cl):Prop:=∀c∈l,1≤c.1∧c.1<256
theorem InC.put {l:List Cl} {p v:Int} (h:InC l) (hp:1≤p∧p<256):InC (yi p v l):=by
 induction l with
 |nil=>intro c hc;simp[yi]at hc;subst hc;exact hp
 |cons a l ih=>
  unfold yi
  split
  ·intro c hc;rcases List.mem_cons.1 hc with rfl |hc
   ·exact hp
   ·exact h c (iX _ hc)
  ·intro c hc;rcases List.mem_cons.1 hc with rfl |hc
   ·exact h _ (iK ..)
   ·exact ih (λc hc=>h c (iX _ hc)) c hc
def UnC (l:List Cl):Prop:=(l.map (·.1)).Nodup
theorem OT {p:Int} {l:List Cl}:zj p l=none↔p∉l.map (·.1):=by
 induction l with
 |nil=>simp[zj]
 |cons c l ih=>
  unfold zj
  split
  ·rename_i h;simp[h]
  ·rename_i h;rw[ih,List.map_cons,List.mem_cons,not_or];exact⟨λh'=>⟨λh2=>h h2.symm,h'⟩,λh'=>h'.2⟩
theorem qGE {p v:Int} {l:List Cl}:(yi p v l).map (·.1)=if zj p l=none then l.map (·.1)++[p]else l.map (·.1):=by
 induction l with
 |nil=>simp[yi,zj]
 |cons c l ih=>
  unfold yi zj
  split
  ·rename_i h;simp[h]
  ·rw[List.map_cons,ih]
   split<;>simp
theorem UnC.put {l:List Cl} {p v:Int} (h:UnC l):UnC (yi p v l):=by
 unfold UnC;rw[qGE]
 split
 ·rename_i hp;rw[OT]at hp;rw[List.nodup_append];exact⟨h,by simp,λa ha b hb=>by rw[List.mem_singleton]at hb;subst hb;rintro rfl;exact hp ha⟩
 ·exact h
theorem qWE {l:List Cl}:∀{cs:List Cl},UnC cs→(∀c∈cs,zj c.1 l=none)→yb l cs=l++cs:=by
 intro cs
 induction cs generalizing l with
 |nil=>intro _ _;simp[yb]
 |cons c cs ih=>
  intro hu hn;have hu':UnC cs:=(List.nodup_cons.1 hu).2;have hc:c.1∉cs.map (·.1):=(List.nodup_cons.1 hu).1;show yb (yi c.1 c.2 l) cs=_
  rw[ih hu' (λd hd=>by
   rw[Oa,iQ (by rintro h;exact hc (by rw[← h];exact List.mem_map_of_mem hd))]
   exact hn d (iX _ hd)),Xw (hn c (iK ..)),List.append_assoc]
  rfl
theorem V6 {cs:List Cl} (h:UnC cs):yb [] cs=cs:=by rw[qWE h (λ_ _=>rfl),List.nil_append]
def Xc (m:Nat) (l:List Cl) (p v:Int):Int×List Cl :=
 if p<1∨256≤p then(2,l)else if zj p l=none∧m≤l.length then(5,l)else(0,yi p v l)
def J6 (m:Nat) (l:List Cl):List Cl→Int×List Cl
 |[]=>(0,l)
 |c::cs=>if(Xc m l c.1 c.2).1=0 then J6 m (Xc m l c.1 c.2).2 cs else Xc m l c.1 c.2
theorem qJ9 {m:Nat} {l:List Cl} {c:Cl} {cs:List Cl}:J6 m l (c::cs)=if(Xc m l c.1 c.2).1=0 then J6 m (Xc m l c.1 c.2).2 cs else Xc m l c.1 c.2:=rfl
theorem YM {m:Nat}:∀{cs l:List Cl},InC cs→l.length+cs.length≤m→J6 m l cs=(0,yb l cs):=by
 intro cs
 induction cs with
 |nil=>intro l _ _;rfl
 |cons c cs ih=>
  intro l hi hl;have hc:=hi c (iK ..);have hp:Xc m l c.1 c.2=(0,yi c.1 c.2 l):=by unfold Xc;rw[iQ omQ,iQ (by simp at hl;omega)]
  unfold J6
  rw[hp,iJ rfl,ih (λd hd=>hi d (iX _ hd)) (by
   have:=Yl (p:=c.1) (v:=c.2) (l:=l);simp at hl;show(yi c.1 c.2 l).length+cs.length≤m
   split at this<;>omega)]
  rfl
abbrev LvM:Type:=List Cl×List Int
def Yi (p:Int):List LvM→Option Int
 |[]=>none
 |x::r=>match zj p x.1 with |some v=>some v |none=>Yi p r
def yl (lv:List LvM):Nat:=(lv.map λx=>x.1.length).sum
def jn (lv:List LvM):List Cl:=lv.foldl (λout x=>yb x.1 out) []
def wV (lv:List LvM):List Int:=lv.reverse.flatMap (·.2)
structure OkL (most:Nat) (lv:List LvM):Prop where
  held:yl lv≤most
  le:most≤96
  ins:∀x∈lv,InC x.1
  un:∀x∈lv,UnC x.1
  one:1≤lv.length
  deep:lv.length≤6
def gX (most:Nat) (lv:List LvM) (p v:Int):Int×List LvM :=
 match lv with
 |[]=>(0,[])
 |x::r=>if p<1∨256≤p then(2,lv)else if zj p x.1=none∧most≤yl lv then(5,lv)else(0,(yi p v x.1,x.2)::r)
def vT (most:Nat) (was lv:List LvM):List Cl→Int×List LvM
 |[]=>(0,lv)
 |c::cs=>if(gX most lv c.1 c.2).1=0 then vT most was (gX most lv c.1 c.2).2 cs else((gX most lv c.1 c.2).1,was)
def kr (lv:List LvM):Int×List LvM:=if 6≤lv.length then(9,lv)else(0,([],[])::lv)
def ko (lv:List LvM):Int×List LvM:=if lv.length=1 then(10,lv)else(0,lv.tail)
def Qh (lv:List LvM):Int×List LvM:=match lv with
 |x::y::r=>(0,(yb y.1 x.1,y.2++x.2)::r)
 |_=>(10,lv)
def Je (lv:List LvM) (b:Int):List LvM:=match lv with
 |x::r=>(x.1,x.2++[b])::r
 |[]=>[]
theorem gK {most:Nat} {was lv:List LvM} {c:Cl} {cs:List Cl}:vT most was lv (c::cs)=if(gX most lv c.1 c.2).1=0 then vT most was (gX most lv c.1 c.2).2 cs else((gX most lv c.1 c.2).1,was):=rfl
theorem zo {x:LvM} {r:List LvM}:yl (x::r)=x.1.length+yl r:=by simp[yl]
theorem Mu {most:Nat} {lv:List LvM} {p v:Int} (O:OkL most lv):OkL most (gX most lv p v).2∧(gX most lv p v).2.length=lv.length:=by
 cases lv with
 |nil=>have:=O.one;simp at this
 |cons x r=>
  unfold gX;dsimp only
  split
  ·exact⟨O,rfl⟩
  ·rename_i hp
   split
   ·exact⟨O,rfl⟩
   ·rename_i h1;have hh:=O.held;rw[zo]at hh;refine⟨⟨?_,O.le,?_,?_,by simp,O.deep⟩,rfl⟩
    ·show yl ((yi p v x.1,x.2)::r)≤most;rw[zo,Yl]
     split
     ·rename_i h2;rw[zo]at h1;have:¬most≤x.1.length+yl r:=λh3=>h1 ⟨h2,h3⟩;omega
     ·exact hh
    ·intro y hy;rcases List.mem_cons.1 hy with rfl |hy
     ·exact(O.ins x (iK ..)).put omQ
     ·exact O.ins y (iX _ hy)
    ·intro y hy;rcases List.mem_cons.1 hy with rfl |hy
     ·exact(O.un x (iK ..)).put
     ·exact O.un y (iX _ hy)
theorem O1 {most:Nat} {was:List LvM} (W:OkL most was):∀{cs:List Cl} {lv:List LvM},OkL most lv→lv.length=was.length→OkL most (vT most was lv cs).2∧(vT most was lv cs).2.length=was.length:=by
 intro cs
 induction cs with
 |nil=>intro lv O hl;exact⟨O,hl⟩
 |cons c cs ih=>
  intro lv O hl;unfold vT
  split
  ·exact ih (Mu O).1 ((Mu O).2.trans hl)
  ·exact⟨W,rfl⟩
theorem qjM {most:Nat} {lv:List LvM} (O:OkL most lv):OkL most (kr lv).2:=by
 unfold kr
 split
 ·exact O
 ·refine⟨by rw[zo];have:=O.held;simpa using this,O.le,?_,?_,by simp,by simp;omega⟩
  ·intro y hy;rcases List.mem_cons.1 hy with rfl |hy
   ·intro c hc;cases hc
   ·exact O.ins y hy
  ·intro y hy;rcases List.mem_cons.1 hy with rfl |hy
   ·exact List.nodup_nil
   ·exact O.un y hy
theorem qqF {most:Nat} {lv:List LvM} (O:OkL most lv):OkL most (ko lv).2:=by
 unfold ko
 split
 ·exact O
 ·rename_i h1;cases lv with
  |nil=>have:=O.one;simp at this
  |cons x r=>
   have hh:=O.held;have h2:=O.deep;rw[zo]at hh;simp at h1 h2;refine⟨by show yl r≤most;omega,O.le,λy hy=>O.ins y (iX _ hy),λy hy=>O.un y (iX _ hy),?_,by show r.length≤6;omega⟩;show 1≤r.length;cases r with
   |nil=>simp at h1
   |cons _ _=>simp
theorem Kc:∀{cs l:List Cl},(yb l cs).length≤l.length+cs.length:=by
 intro cs
 induction cs with
 |nil=>intro l;exact Nat.le_refl _
 |cons c cs ih=>
  intro l;have:=ih (l:=yi c.1 c.2 l);have h2:=Yl (p:=c.1) (v:=c.2) (l:=l);show(yb (yi c.1 c.2 l) cs).length≤_;rw[List.length_cons]
  split at h2<;>omega
theorem InC.puts:∀{cs l:List Cl},InC l→InC cs→InC (yb l cs):=by
 intro cs
 induction cs with
 |nil=>intro l h _;exact h
 |cons c cs ih=>intro l h hc;exact ih (h.put (hc c (iK ..))) λd hd=>hc d (iX _ hd)
theorem UnC.puts:∀{cs l:List Cl},UnC l→UnC (yb l cs):=by
 intro cs
 induction cs with
 |nil=>intro l h;exact h
 |cons c cs ih=>intro l h;exact ih h.put
theorem qq7 {most:Nat} {lv:List LvM} (O:OkL most lv):OkL most (Qh lv).2:=by
 match lv,O with
 |[],O=>exact O
 |[x],O=>exact O
 |x::y::r,O=>
  have hh:=O.held;have h2:=O.deep;rw[zo,zo]at hh;have:=Kc (cs:=x.1) (l:=y.1);refine⟨by show yl ((yb y.1 x.1,y.2++x.2)::r)≤most;rw[zo];dsimp only;omega,O.le,?_,?_,by simp[Qh],by simp[Qh]at h2 ⊢;omega⟩
  ·intro z hz;rcases List.mem_cons.1 hz with rfl |hz
   ·exact(O.ins y osQ).puts (O.ins x osQ)
   ·exact O.ins z (by simp[hz])
  ·intro z hz;rcases List.mem_cons.1 hz with rfl |hz
   ·exact(O.un y osQ).puts
   ·exact O.un z (by simp[hz])
theorem qYH {most:Nat} {lv:List LvM} {b:Int} (O:OkL most lv):OkL most (Je lv b):=by
 cases lv with
 |nil=>exact O
 |cons x r=>
  refine⟨O.held,O.le,?_,?_,by simp[Je],O.deep⟩
  ·intro z hz;rcases List.mem_cons.1 hz with rfl |hz
   ·exact O.ins x osQ
   ·exact O.ins z (by simp[hz])
  ·intro z hz;rcases List.mem_cons.1 hz with rfl |hz
   ·exact O.un x osQ
   ·exact O.un z (by simp[hz])
end
section
variable {g h:AH} {L R:List SP}
def WrC (w m:Nat) (l:List Cl):SP:=.ex λv=>.all [qk w [.int .i64 (m:Int),v],qA 177 2 l.length v (l.flatMap jL)]
theorem WrC.E {w m:Nat} {l:List Cl} (H:HS g h (WrC w m l::R)):∃v,HS g h (qk w [.int .i64 (m:Int),v]::qA 177 2 l.length v (l.flatMap jL)::R):=by obtain⟨v,H⟩:=H.exE;exact⟨v,H.allE⟩
theorem WrC.I {w m:Nat} {l:List Cl} {v:AV} (H:HS g h (qk w [.int .i64 (m:Int),v]::qA 177 2 l.length v (l.flatMap jL)::R)):HS g h (WrC w m l::R) :=
 HS.exI v (HS.allI H)
theorem Z1 (l:List Cl):qo (l.flatMap jL)=true:=by unfold qo;rw[List.all_eq_true];intro v hv;obtain⟨c,_,hc⟩:=List.mem_flatMap.1 hv;simp[jL]at hc;rcases hc with rfl |rfl<;>rfl
theorem Gq {l:List Cl} {i:Nat} {c:Cl} (h:l[i]? =some c):((l.flatMap jL).drop (i*2)).take 2=jL c:=by obtain⟨hi,e⟩:=List.getElem?_eq_some_iff.1 h;rw[XJ (sz:=2) jL (λ_=>rfl),List.drop_eq_getElem_cons hi,e,List.flatMap_cons];rfl
theorem qqf {l:List Cl} {i:Nat} {p x v:Int} (h:l[i]? =some (p,x)):(l.flatMap jL).set (i*2+1) (.int .u64 v)=(l.set i (p,v)).flatMap jL:=by
 have hi:=(List.getElem?_eq_some_iff.1 h).1;apply List.ext_getElem?;intro j;have hd:j=j/2*2+j%2:=by omega
 have hm:j%2<2:=by omega
 rw[List.getElem?_set,YT (sz:=2) jL (λ_=>rfl)];have e1:=Js (sz:=2) jL (λ_=>rfl) l (j/2) (j%2) hm;have e2:=Js (sz:=2) jL (λ_=>rfl) (l.set i (p,v)) (j/2) (j%2) hm;rw[← hd]at e1 e2;rw[e1,e2,List.getElem?_set];by_cases h1:i*2+1=j
 ·have:j/2=i:=by omega
  have h3:j%2=1:=by omega
  rw[iJ h1,iJ omQ,iJ this.symm,iJ hi,h3];rfl
 ·rw[iQ h1];by_cases h2:i=j/2
  ·have h3:j%2=0:=by omega
   rw[iJ h2,iJ hi,h3,← h2,h];rfl
  ·rw[iQ h2]
def zI (o:Option Nat):Int:=match o with |some i=>(i:Int) |none=>-1
theorem NR {n:Nat} (hn:1≤n) {m:Nat} (hm:m≤96) (H:HS g h R):t_w n 171 [.int .i64 (m:Int)] h λv h'=>∃w,v=.ptr w 0∧HS g h' (WrC w m []::R):=by
 refine t_e1 (S:=S171) rfl omQ λk hk=>?_;unfold S171;try simp only[iZ]
 refine zZ (ze (qH rfl (qI H rfl λw h2 H2=>qq ⟨w,rfl,?_⟩)));rw[show max ((0:Nat):Int) (min (m:Int) ((96:Nat):Int))=(m:Int) by omega]at H2;exact WrC.I ((H2.nils (e:=177) (sz:=2)).sel (P:=qk w [.int .i64 (m:Int),.nils]) e_1 :)
theorem qKr {n:Nat} (hn:2≤n) {p:Int} {v:AV} {c0:Nat} {l:List Cl} (H:HS g h L) (S:Rd g L 2 l.length v (l.flatMap jL)) (s:Sel L (qk c0 [.int .i64 p]) R) (hl:l.length<1000000) :
  t_w n 307 [v,.fn 308 [] [.ptr c0 0]] h λv h'=>v=.int .i64 (zI (Yv p l))∧HS g h' L:=by
 refine t_e2 (S:=S307) rfl omQ λk hk=>?_;unfold S307;try simp only[iZ]
 refine xC (S.sl H) ?_
 refine(jw (λm s h'=>∃i:Nat,s=(.int .i64 (i:Int),.int .i64 (l.length:Int),.fn 308 [] [.ptr c0 0],v,())∧i≤l.length∧m=l.length-i∧HS g h' L∧
  (∀j,j<i→∀c,l[j]? =some c→c.1≠p)) ?_ (m:=l.length) (by show _<1000000000;omega) ⟨0,rfl,by omega,by omega,H,λj hj=>by omega⟩)
 rintro m ih s' h' hih ⟨i,rfl,h1,rfl,H,h2⟩;dsimp only;refine z7 (λhlt=>qZ ?_) λhge=>qJ (qx (qq ⟨?_,H⟩))
 ·have hi:i<l.length:=by omega
  have hc:l[i]? =some l[i]:=iW hi;refine zH (l:=jL l[i]) (S.sl H) hi omQ (Gq hc) ?_;refine qW (Q':=λv h2=>v=.bool (decide (l[i].1=p))∧HS g h2 L) (qvt (g:=(tD2 S308)) rfl omQ λk hk=>?_) ?_
  ·show wp (S308 (callT tab qj k) _ _ _).1 _;unfold S308;try simp only[ iZ]
   refine qI H rfl λb h3 H3=>?_;refine qQ (qX ‹_› .here rfl ?_);refine qX H3 (.there s) rfl (Jt (qq ⟨rfl,H3.drop⟩))
  ·rintro _ h3 ⟨rfl,H3⟩;refine qkR (λhe=>qx (qq ⟨?_,H3⟩)) λhne=>qb omQ ?_
   ·rw[qQT hi h2 ⟨l[i].2,by rw[hc,← he]⟩];rfl
   ·refine hih (l.length-(i+1)) _ _ omQ ⟨i+1,rfl,by omega,rfl,H3,λj hj c hc'=>?_⟩;by_cases h4:j<i
    ·exact h2 j h4 c hc'
    ·obtain rfl:j=i:=by omega
     rw[hc]at hc';cases hc';exact hne
 ·rw[qGf λc hc=>?_]
  ·rfl
  ·obtain⟨j,hj⟩:=List.getElem?_of_mem hc;exact h2 j (by have:=(List.getElem?_eq_some_iff.1 hj).1;omega) c hj
theorem Zu {n:Nat} (hn:3≤n) {w m:Nat} {l:List Cl} {p:Int} (H:HS g h (WrC w m l::R)) (hl:l.length<1000000) :
  t_w n 242 [.ptr w 0,.int .i64 p] h λv h'=>v=.int .i64 (zI (Yv p l))∧HS g h' (WrC w m l::R):=by
 refine t_e2 (S:=S242) rfl omQ λk hk=>?_;unfold S242;try simp only[iZ]
 obtain⟨v,H⟩:=WrC.E H;refine Xg H ⟨rfl,rfl⟩ λc0 h2 H2=>?_;refine qG (qQ (qX ‹_› e_1 rfl ?_));refine qW (qKr (p:=p) omQ H2 (H2.rd e_2) .here hl) ?_;rintro _ h3 ⟨rfl,H3⟩;exact qq ⟨rfl,WrC.I H3.drop⟩
theorem qXM {n:Nat} (hn:4≤n) {w m:Nat} {l:List Cl} {p:Int} (H:HS g h (WrC w m l::R)) (hl:l.length<1000000) :
  t_w n 239 [.ptr w 0,.int .i64 p] h λv h'=>v=.tup [.int .u64 ((zj p l).getD 0),.bool (zj p l).isSome]∧HS g h' (WrC w m l::R):=by
 refine t_e2 (S:=S239) rfl omQ λk hk=>?_;unfold S239;try simp only[iZ]
 refine qW (Zu omQ H hl) ?_;rintro _ h3 ⟨rfl,H3⟩;cases hi:Yv p l with
 |none=>refine zK (by show¬((0:Nat):Int)≤ -1;omega) ?_;refine qJ ?_;exact qq ⟨by rw[ME.1 hi];rfl,H3⟩
 |some i=>obtain⟨h1,⟨x,h2,h2'⟩,_⟩:=Mc hi;refine zv (by show((0:Nat):Int)≤(i:Int);omega) ?_;obtain⟨v,H4⟩:=WrC.E H3;refine qZ (qG (qQ (qX ‹_› .here rfl ?_)));refine xo (x:=.int .u64 x) (H4.sl e_1) omQ h1 ?_ (qq ⟨by rw[h2'];rfl,H3⟩);rw[Js (sz:=2) jL (λ_=>rfl) _ _ _ omQ,h2];rfl
theorem qZb {n:Nat} (hn:4≤n) {w m:Nat} {l:List Cl} {p x:Int} (H:HS g h (WrC w m l::R)) (hl:l.length<1000000) :
  t_w n 204 [.ptr w 0,.int .i64 p,.int .u64 x] h λv h'=>v=.int .i64 (Xc m l p x).1∧HS g h' (WrC w m (Xc m l p x).2::R):=by
 refine t_e3 (S:=S204) rfl omQ λk hk=>?_;unfold S204;try simp only[iZ]
 unfold Xc;by_cases hp:p<1∨256≤p
 ·rw[iJ hp]
  repeat' (first |with_reducible refine qZ ?_ |with_reducible refine qJ ?_ |(with_reducible refine qa ?_;try dsimp only) |(with_reducible refine qp ?_;try dsimp only) |(with_reducible refine qR ?_;try dsimp only) |(with_reducible refine qc ?_;try dsimp only) |(with_reducible refine jt ?_;try dsimp only) |with_reducible refine qE ?_ |with_reducible refine qC ?_ |(with_reducible refine qV ?_;try dsimp only) |with_reducible refine qx ?_ |with_reducible refine jW ?_ |with_reducible refine jk ?_ |with_reducible refine qb omQ ?_ |with_reducible refine jr omQ ?_ |with_reducible refine yN omQ ?_ |with_reducible refine vo omQ ?_ |with_reducible refine zZ ?_ |with_reducible refine ze ?_ |with_reducible refine qz omQ ?_ |with_reducible refine qK omQ ?_ |with_reducible refine qu omQ ?_ |with_reducible refine q8 omQ ?_ |with_reducible refine jB omQ ?_ |with_reducible refine jK omQ ?_ |with_reducible refine QA omQ ?_ |with_reducible refine Q6 omQ ?_ |with_reducible refine yj omQ ?_ |with_reducible refine xW omQ ?_ |with_reducible refine zv omQ ?_ |with_reducible refine zK omQ ?_ |with_reducible refine z7 (λhc=>?_) (λhc=>?_) |with_reducible refine wF (λhc=>?_) (λhc=>?_) |with_reducible refine wL (λhc=>?_) (λhc=>?_) |with_reducible refine yq (λhc=>?_) (λhc=>?_) |with_reducible refine vp (λhc=>?_) (λhc=>?_) |with_reducible refine vw (λhc=>?_) (λhc=>?_) |with_reducible refine gS (λhc=>?_) (λhc=>?_))
  all_goals exact qq ⟨rfl,H⟩
 rw[iQ hp];refine jK omQ ?_;refine qV ?_;(try dsimp only);refine qc ?_;(try dsimp only);refine zK omQ ?_;refine qC (qJ ?_)
 refine qW (Zu omQ H hl) ?_;rintro _ h3 ⟨rfl,H3⟩;cases hi:Yv p l with
 |none=>
  refine zK (by show¬((0:Nat):Int)≤ -1;omega) ?_;have hg:=ME.1 hi;obtain⟨v,H4⟩:=WrC.E H3;refine qJ (qG (qQ (qX ‹_› .here rfl ?_)));refine qi ‹_› e_1 ?_;refine qG (qQ (qX ‹_› .here rfl ?_));by_cases hf:m≤l.length
  ·rw[iJ ⟨hg,hf⟩];refine zv omQ ?_;refine qZ ?_;exact qq ⟨rfl,H3⟩
  ·rw[iQ (λh=>hf h.2)];refine zK omQ ?_;refine qJ (qG (qQ (qX ‹_› .here rfl ?_)));refine qH rfl ?_;refine qe (sz:=2) (l:=[.int .i64 p,.int .u64 x]) H4 rfl rfl rfl rfl λv5 h5 H5=>?_;refine jR (H5.sel e_2) (H5.sl .here) omQ omQ rfl λv6 h6 H6=>?_;refine qG (qQ (qg H6 e_2 (H6.one .here) osQ λh7 H7=>qq ⟨rfl,WrC.I (v:=v6) ?_⟩));rw[Xw hg,List.flatMap_append,List.length_append];exact H7.sub (.cons .here (.cons .here (.drop (.refl))))
 |some i=>obtain⟨h1,⟨y,h2,h2'⟩,h5⟩:=Mc hi;refine zv (by show((0:Nat):Int)≤(i:Int);omega) ?_;obtain⟨v,H4⟩:=WrC.E H3;refine qZ (qG (qQ (qX ‹_› .here rfl ?_)));rw[iQ (λh=>by rw[h2']at h;cases h.1)];refine qwR (H4.sel e_1) h1 omQ ⟨rfl,rfl⟩ λh6 H6=>qq ⟨rfl,WrC.I (v:=v) ?_⟩;rw[qqf h2]at H6;dsimp only;rw[h5,List.length_set];exact H6.sub (.cons e_1 (.refl))
theorem Z5 {n:Nat} (hn:1≤n) {v:AV} {l:List Cl} (H:HS g h L) (s:Sel L (qA 177 2 l.length v (l.flatMap jL)) R) (hl:l.length<1000000) :
  t_w n 103 [v] h λv' h'=>HS g h' (qA 177 2 l.length v' (l.flatMap jL)::L):=by
 refine t_e1 (S:=S103) rfl omQ λk hk=>?_;unfold S103;try simp only[iZ]
 refine Xj H s (λ_ h0=>qZ (qq ?_)) (qJ ?_)
 ·have:=iA h0;subst this;exact H.nils
 ·refine qe (n:=0) (l:=[]) (sz:=2) H rfl rfl rfl rfl λv2 h2 H2=>?_;refine jR H2 (H2.sl (.there s)) omQ omQ (Z1 l) λv3 h3 H3=>qq ?_;rw[Nat.zero_add,List.nil_append]at H3;exact H3
theorem Yb {n:Nat} (hn:2≤n) {w m:Nat} {l:List Cl} (H:HS g h (WrC w m l::R)) (hl:l.length<1000000) :
  t_w n 173 [.ptr w 0] h λv h'=>HS g h' (qA 177 2 l.length v (l.flatMap jL)::WrC w m l::R):=by
 refine t_e1 (S:=S173) rfl omQ λk hk=>?_;unfold S173;try simp only[iZ]
 obtain⟨v,H⟩:=WrC.E H;refine qG (qQ (qX ‹_› .here rfl ?_));refine qW (Z5 omQ H e_1 hl) λv3 h3 H3=>qq ?_;have:=WrC.I (v:=v) (w:=w) (m:=m) (l:=l) (H3.sub (L':=_::_::qA 177 2 l.length v3 (l.flatMap jL)::R) (.cons e_1 (.cons e_1 .refl)));exact this.sub (.cons e_1 (.refl))
theorem qk3 {n:Nat} (hn:1≤n) {w m:Nat} {l:List Cl} (H:HS g h (WrC w m l::R)) :
  t_w n 338 [.ptr w 0] h λv h'=>v=.int .i64 (l.length:Int)∧h'=h:=by
 refine t_e1 (S:=S338) rfl omQ λk hk=>?_;unfold S338;try simp only[iZ]
 obtain⟨v,H⟩:=WrC.E H;refine qG (qQ (qX ‹_› .here rfl ?_));refine qi ‹_› e_1 ?_;exact qq ⟨rfl,rfl⟩
def wu (m:Nat) (l cs:List Cl):Int×List Cl:=if(J6 m l cs).1=0 then J6 m l cs else((J6 m l cs).1,l)
theorem YF {n:Nat} (hn:5≤n) {w m:Nat} {l cs:List Cl} {c:AV} (H:HS g h (WrC w m l::R)) (S:Rd g R 2 cs.length c (cs.flatMap jL)) (hl:l.length<100000) (hc:cs.length<100000) :
  t_w n 172 [.ptr w 0,c] h λv h'=>v=.int .i64 (wu m l cs).1∧HS g h' (WrC w m (wu m l cs).2::R):=by
 refine t_e2 (S:=S172) rfl omQ λk hk=>?_;unfold S172;try simp only[iZ]
 refine qW (Yb omQ H omQ) λv0 h1 H1=>?_;refine xC (S.sl H1.drop.drop) ?_
 refine jw (λk s h'=>∃(i:Nat) (l':List Cl),s=(.int .i64 (i:Int),.int .i64 (cs.length:Int),c,v0,.ptr w 0,())∧i≤cs.length∧k=cs.length-i∧l'.length≤l.length+i∧
  HS g h' (WrC w m l'::qA 177 2 l.length v0 (l.flatMap jL)::R)∧J6 m l cs=J6 m l' (cs.drop i)) ?_ (m:=cs.length) (by show _<1000000000;omega) ⟨0,l,rfl,by omega,by omega,by omega,H1.sub (.cons e_1 (.refl)),rfl⟩
 rintro k ih s h2 hih ⟨i,l',rfl,h1,rfl,hl',H,hT⟩;dsimp only;refine z7 (λhlt=>qZ ?_) λhge=>qJ (qx (qq ?_))
 ·have hi:i<cs.length:=by omega
  have hci:cs[i]? =some cs[i]:=iW hi;refine zH (l:=jL cs[i]) (S.sl H.drop.drop) hi omQ (Gq hci) ?_;refine qI H rfl λb h3 H3=>qd H3 .here rfl (by show 0+2≤2;omega) rfl λh4 H4=>?_;have H5:HS g h4 (qk b (jL cs[i])::WrC w m l'::qA 177 2 l.length v0 (l.flatMap jL)::R):=H4;unfold jL at H5;refine qQ (qX ‹_› .here rfl ?_);refine qQ (qX ‹_› .here rfl ?_);refine qW (qZb omQ H5.drop omQ) ?_;rintro _ h6 ⟨rfl,H6⟩;rw[List.drop_eq_getElem_cons hi,qJ9]at hT;refine vw (λhne=>qZ ?_) λhe=>qJ (qb omQ ?_)
  ·have hne:¬(Xc m l' cs[i].1 cs[i].2).1=0:=by simpa using hne
   rw[iQ hne]at hT;obtain⟨v7,H7⟩:=WrC.E H6;refine qG (qQ (qg H7 .here (H7.one e_2) osQ λh8 H8=>qx (qq ?_)));unfold wu;rw[hT,iQ hne];exact⟨rfl,WrC.I (v:=v0) (H8.sub (.cons .here (.cons e_1 (.drop .refl))))⟩
  ·have he':(Xc m l' cs[i].1 cs[i].2).1=0:=by simpa using he
   rw[iJ he']at hT;refine hih (cs.length-(i+1)) _ _ omQ ⟨i+1,_,rfl,by omega,rfl,?_,H6,hT⟩;have:=Yl (p:=cs[i].1) (v:=cs[i].2) (l:=l');unfold Xc
   repeat' split
   all_goals dsimp only
   all_goals first |omega |(split at this<;>omega)
 ·rw[List.drop_of_length_le omQ]at hT;have hT:J6 m l cs=(0,l'):=hT;unfold wu;rw[hT,iJ rfl];exact⟨rfl,H.sub (.cons .here (.drop .refl))⟩
end
section
variable {g h:AH} {L R:List SP}
def LvC (a:Nat) (x:LvM):SP:=.ex λw=>.ex λfv=>.all [qk a [.ptr w 0,fv],WrC w 96 x.1,qA 3 1 x.2.length fv (x.2.map (.int .i64))]
theorem LvC.E {a:Nat} {x:LvM} (H:HS g h (LvC a x::R)):∃w fv,HS g h (qk a [.ptr w 0,fv]::WrC w 96 x.1::qA 3 1 x.2.length fv (x.2.map (.int .i64))::R):=by obtain⟨w,H⟩:=H.exE;obtain⟨fv,H⟩:=H.exE;exact⟨w,fv,H.allE⟩
theorem LvC.I {a w:Nat} {fv:AV} {x:LvM} (H:HS g h (qk a [.ptr w 0,fv]::WrC w 96 x.1::qA 3 1 x.2.length fv (x.2.map (.int .i64))::R)):HS g h (LvC a x::R) :=
 HS.exI w (HS.exI fv (HS.allI H))
def xc (ps:List Nat):List AV:=ps.reverse.map λa=>.ptr a 0
def LgC (q most:Nat) (lv:List LvM):SP:=.ex λv=>.ex λps:List Nat=>.all (.pur (ps.length=lv.length)::qk q [.int .i64 (most:Int),v]::qA 244 1 lv.length v (xc ps)::List.zipWith LvC ps lv)
theorem LgC.E {q most:Nat} {lv:List LvM} (H:HS g h (LgC q most lv::R)):∃v ps,ps.length=lv.length∧HS g h (qk q [.int .i64 (most:Int),v]::qA 244 1 lv.length v (xc ps)::(List.zipWith LvC ps lv++R)):=by obtain⟨v,H⟩:=H.exE;obtain⟨ps,H⟩:=H.exE;obtain⟨e,H⟩:=HS.purE (H.allE);exact⟨v,ps,e,H⟩
theorem LgC.I {q most:Nat} {lv:List LvM} {v:AV} {ps:List Nat} (e:ps.length=lv.length) (H:HS g h (qk q [.int .i64 (most:Int),v]::qA 244 1 lv.length v (xc ps)::(List.zipWith LvC ps lv++R))):HS g h (LgC q most lv::R) :=
 HS.exI v (HS.exI ps (HS.allI (HS.purI e H)))
theorem LgC.E1 {q most:Nat} {x:LvM} {r:List LvM} (H:HS g h (LgC q most (x::r)::R)):∃v a ps,ps.length=r.length∧HS g h (qk q [.int .i64 (most:Int),v]::qA 244 1 (r.length+1) v (xc (a::ps))::LvC a x::(List.zipWith LvC ps r++R)):=by
 obtain⟨v,ps,e,H⟩:=LgC.E H;cases ps with
 |nil=>simp at e
 |cons a ps=>exact⟨v,a,ps,by simpa using e,H⟩
theorem LgC.I1 {q most:Nat} {x:LvM} {r:List LvM} {v:AV} {a:Nat} {ps:List Nat} (e:ps.length=r.length) (H:HS g h (qk q [.int .i64 (most:Int),v]::qA 244 1 (r.length+1) v (xc (a::ps))::LvC a x::(List.zipWith LvC ps r++R))):HS g h (LgC q most (x::r)::R) :=
 LgC.I (ps:=a::ps) (by simp[e]) H
theorem qQO (a:Nat) (ps:List Nat):(xc (a::ps))[ps.length]? =some (.ptr a 0):=by unfold xc;rw[List.reverse_cons,List.map_append,List.getElem?_append_right osQ];simp
theorem Gk {ps:List Nat} {i:Nat} (hi:i<ps.length):(xc ps)[i]? =(ps[ps.length-1-i]?).map λa=>.ptr a 0:=by unfold xc;rw[List.getElem?_map,List.getElem?_reverse hi]
theorem KA {ps:List Nat}:∀{lv:List LvM} {i a:Nat} {x:LvM},ps[i]? =some a→lv[i]? =some x→∃T,Sel (List.zipWith LvC ps lv++R) (LvC a x) T:=by
 induction ps with
 |nil=>intro lv i a x h;simp at h
 |cons b ps ih=>
  intro lv i a x h1 h2;cases lv with
  |nil=>simp at h2
  |cons y lv=>
   cases i with
   |zero=>simp at h1 h2;subst h1;subst h2;exact⟨_,.here⟩
   |succ i=>obtain⟨T,s⟩:=ih (lv:=lv) (i:=i) (by simpa using h1) (by simpa using h2);exact⟨_,.there s⟩
theorem YG {n q:Nat} (hn:1≤n) {m v:AV} {a:Nat} {ps:List Nat} {R1 R2:List SP} {e:TypeId} (H:HS g h L) (s1:Sel L (qk q [m,v]) R1) (s2:Sel L (qA e 1 (ps.length+1) v (xc (a::ps))) R2) (hl:ps.length<1000000) :
  t_w n 240 [.ptr q 0] h λr h'=>r=.ptr a 0∧h'=h:=by
 refine t_e1 (S:=S240) rfl omQ λk hk=>?_;unfold S240;try simp only[iZ]
 refine qG (qQ (qX H s1 rfl (qG (qQ (qX H s1 rfl (qi H s2 (jr omQ ?_)))))));rw[show((ps.length+1:Nat):Int)-((1:Nat):Int)=((ps.length:Nat):Int) by omega];exact jI (H.sl s2) (qQO a ps) (qq ⟨rfl,rfl⟩)
theorem Md {n:Nat} (hn:2≤n) (H:HS g h R):t_w n 188 [] h λv h'=>∃a,v=.ptr a 0∧HS g h' (LvC a ([],[])::R):=by
 refine t_e0 (S:=S188) rfl omQ λk hk=>?_;unfold S188;try simp only[iZ]
 refine qW (NR (m:=96) omQ omQ H) ?_;rintro _ h2 ⟨w,rfl,H2⟩;refine qH rfl (qI H2 rfl λa h3 H3=>qq ⟨a,rfl,?_⟩);exact LvC.I (w:=w) (fv:=.nils) ((H3.nils (e:=3) (sz:=1)).sub (.cons e_1 (.cons e_1 (.cons .here (.refl)))))
theorem qz8 {n:Nat} (hn:3≤n) {m:Int} (H:HS g h R):t_w n 157 [.int .i64 m] h λv h'=>∃q,v=.ptr q 0∧HS g h' (LgC q (max 0 (min m 96)).toNat [([],[])]::R):=by
 refine t_e1 (S:=S157) rfl omQ λk hk=>?_;unfold S157;try simp only[iZ]
 refine zZ (ze (qW (Md omQ H) ?_));rintro _ h2 ⟨a,rfl,H2⟩;refine qe (n:=1) (l:=[.ptr a 0]) (sz:=1) H2 rfl rfl rfl rfl λv h3 H3=>?_;have h1:=H3.one .here;refine qH (l:=[.int .i64 (max ((0:Nat):Int) (min m ((96:Nat):Int))),v]) (by simp only[yB,h1.1];rfl) ?_;refine qI H3 (by show(true&&(v.one&&true))=true;rw[h1.2];rfl) λq h4 H4=>qq ⟨q,rfl,?_⟩;refine LgC.I1 (v:=v) (a:=a) (ps:=[]) rfl ?_;rw[show(((max 0 (min m 96)).toNat:Nat):Int)=max ((0:Nat):Int) (min m ((96:Nat):Int)) by omega];exact H4
theorem qGp {n q most:Nat} (hn:2≤n) {lv:List LvM} {b:Int} (H:HS g h (LgC q most lv::R)) (O:OkL most lv) (hf:∀x∈lv,x.2.length<1000000) :
  t_w n 336 [.ptr q 0,.int .i64 b] h λ_ h'=>HS g h' (LgC q most (Je lv b)::R):=by
 cases lv with
 |nil=>have:=O.one;simp at this
 |cons x r=>
 refine t_e2 (S:=S336) rfl omQ λk hk=>?_;unfold S336;try simp only[iZ]
 obtain⟨v,a,ps,e,H⟩:=LgC.E1 H;rw[← e]at H;refine qW (YG omQ H .here e_1 (by have:=O.deep;simp at this;omega)) ?_;rintro _ _ ⟨rfl,rfl⟩;obtain⟨w,fv,H2⟩:=LvC.E (H.sel e_2);refine qG (qQ (qX ‹_› .here rfl ?_));refine qe (n:=1) (l:=[.int .i64 b]) (sz:=1) H2 rfl rfl rfl rfl λv3 h3 H3=>?_;have:=hf x (iK ..);refine jR (H3.sel (P:=qA 3 1 x.2.length fv (x.2.map (.int .i64))) e_3) (H3.sl .here) omQ omQ rfl λv4 h4 H4=>?_;refine qG (qQ (qg H4 e_2 (H4.one .here) osQ λh5 H5=>qq ?_));refine LgC.I1 (v:=v) (a:=a) (ps:=ps) e ?_;rw[← e];have:=LvC.I (a:=a) (w:=w) (fv:=v4) (x:=(x.1,x.2++[b])) (R:=qk q [.int .i64 (most:Int),v]::qA 244 1 (ps.length+1) v (xc (a::ps))::(List.zipWith LvC ps r++R))
  (by rw[List.map_append,List.length_append];exact H5.sub (.cons .here (.cons e_2 (.cons .here (.cons e_1 (.cons e_1 (.drop (.refl))))))))
 exact this.sub (.cons e_1 (.cons e_1 (.refl)))
theorem qGC {n q most:Nat} (hn:1≤n) {lv:List LvM} (H:HS g h (LgC q most lv::R)) (O:OkL most lv) (hf:(wV lv).length<1000000) :
  t_w n 154 [.ptr q 0] h λv h'=>HS g h' (qA 3 1 (wV lv).length v ((wV lv).map (.int .i64))::LgC q most lv::R):=by
 refine t_e1 (S:=S154) rfl omQ λk hk=>?_;unfold S154;try simp only[iZ]
 have hd:=O.deep;obtain⟨v,ps,e,H⟩:=LgC.E H;refine qG (qQ (qX ‹_› .here rfl ?_));refine qi ‹_› e_1 ?_
 refine jw (λm s h'=>∃(i:Nat) (acc:AV),s=(.int .i64 (i:Int),.int .i64 (lv.length:Int),v,acc,())∧i≤lv.length∧m=lv.length-i∧
  HS g h' (qA 3 1 ((lv.reverse.take i).flatMap (·.2)).length acc (((lv.reverse.take i).flatMap (·.2)).map (.int .i64))::qk q [.int .i64 (most:Int),v]::qA 244 1 lv.length v (xc ps)::(List.zipWith LvC ps lv++R)))
  ?_ (m:=lv.length) (by have:=O.deep;show _<1000000000;omega) ⟨0,.nils,rfl,by omega,by omega,H.nils⟩
 rintro m ih s h' hih ⟨i,acc,rfl,h1,rfl,H⟩;dsimp only;refine z7 (λhlt=>qZ ?_) λhge=>qJ (qx (qq ?_))
 ·have hi:i<lv.length:=by omega
  have ha:ps[ps.length-1-i]? =some (ps[ps.length-1-i]'omQ):=iW _;have hx:lv[ps.length-1-i]? =some (lv[ps.length-1-i]'omQ):=iW _;generalize ps[ps.length-1-i]'omQ=a at ha;have hx2:lv.reverse[i]? =some (lv[ps.length-1-i]'omQ):=by rw[List.getElem?_reverse hi,← hx,e]
  generalize lv[ps.length-1-i]'omQ=x at hx hx2;refine jI (H.sl e_2) (by rw[Gk omQ,ha];rfl) ?_;obtain⟨T,s⟩:=KA (R:=R) ha hx;have H2:=H.sel (.there (.there (.there s)));obtain⟨w,fv,H3⟩:=LvC.E H2;refine qG (qQ (qX ‹_› .here rfl ?_));have hlen:((lv.reverse.take i).flatMap (·.2)).length+x.2.length≤(wV lv).length:=by
   have e1:lv.reverse.flatMap (·.2)=(lv.reverse.take (i+1)).flatMap (·.2)++(lv.reverse.drop (i+1)).flatMap (·.2):=by rw[← List.flatMap_append,List.take_append_drop]
   unfold wV;rw[e1,List.take_add_one,hx2];simp
  refine jR (H3.sel (P:=qA 3 1 ((lv.reverse.take i).flatMap (·.2)).length acc (((lv.reverse.take i).flatMap (·.2)).map (.int .i64))) e_3) (H3.sl e_2) omQ omQ ?_ λv4 h4 H4=>qb omQ ?_
  ·simp[qo,AV.one]
  refine hih (lv.length-(i+1)) _ _ omQ ⟨i+1,v4,rfl,by omega,rfl,?_⟩;rw[List.take_add_one,hx2,Option.toList_some,List.flatMap_append,List.map_append,List.length_append,List.flatMap_cons,List.flatMap_nil,List.append_nil];have H5:=LvC.I (a:=a) (w:=w) (fv:=fv) (x:=x) (H4.sub (.cons e_1 (.cons e_1 (.cons e_1 .refl))));exact HS.unsel (.there (.there (.there s))) (H5.sub (.refl))
 ·obtain rfl:i=lv.length:=by omega
  rw[List.take_of_length_le osQ]at H;exact(LgC.I (v:=v) (ps:=ps) e (HS.back (A:=_::_::List.zipWith LvC ps lv) H)).sub (.cons e_1 (.refl))
theorem rsum (l:List Nat):l.reverse.sum=l.sum:=by
 induction l with
 |nil=>rfl
 |cons a l ih=>rw[List.reverse_cons,List.sum_append,ih,List.sum_cons];simp[Nat.add_comm]
theorem qqA {n q most:Nat} (hn:2≤n) {lv:List LvM} (H:HS g h (LgC q most lv::R)) (O:OkL most lv) :
  t_w n 306 [.ptr q 0] h λv h'=>v=.int .i64 ((most:Int)-(yl lv:Int))∧h'=h:=by
 refine t_e1 (S:=S306) rfl omQ λk hk=>?_;unfold S306;try simp only[iZ]
 obtain⟨v,ps,e,H⟩:=LgC.E H;have hh:=O.held;have hl:=O.le;have hd:=O.deep;refine qG (qQ (qX ‹_› .here rfl ?_));refine qG (qQ (qX ‹_› .here rfl ?_));refine qi ‹_› e_1 ?_;refine jw (λm s h'=>∃(i:Nat),s=(.int .i64 (i:Int),.int .i64 (lv.length:Int),v,.int .i64 ((most:Int)-(((lv.reverse.take i).map λx=>x.1.length).sum:Nat)),())∧i≤lv.length∧m=lv.length-i∧h'=h)
  ?_ (m:=lv.length) (by show _<1000000000;omega) ⟨0,by simp,by omega,by omega,rfl⟩
 rintro m ih s h' hih ⟨i,rfl,h1,rfl,rfl⟩;dsimp only;have hsum:∀j,((lv.reverse.take j).map λx=>x.1.length).sum+((lv.reverse.drop j).map λx=>x.1.length).sum=yl lv:=by intro j;rw[← List.sum_append,← List.map_append,List.take_append_drop,List.map_reverse,rsum];rfl
 refine z7 (λhlt=>qZ ?_) λhge=>qJ (qx (qq ⟨?_,rfl⟩))
 ·have hi:i<lv.length:=by omega
  have ha:ps[ps.length-1-i]? =some (ps[ps.length-1-i]'omQ):=iW _;have hx:lv[ps.length-1-i]? =some (lv[ps.length-1-i]'omQ):=iW _;generalize ps[ps.length-1-i]'omQ=a at ha;have hx2:lv.reverse[i]? =some (lv[ps.length-1-i]'omQ):=by rw[List.getElem?_reverse hi,← hx,e]
  generalize lv[ps.length-1-i]'omQ=x at hx hx2;refine jI (H.sl e_1) (by rw[Gk omQ,ha];rfl) ?_;obtain⟨T,s⟩:=KA (R:=R) ha hx;obtain⟨w,fv,H3⟩:=LvC.E (H.sel (.there (.there s)));refine qG (qQ (qX ‹_› .here rfl ?_));refine qW (qk3 omQ (H3.sel e_1)) ?_;rintro _ _ ⟨rfl,rfl⟩;have h2:=hsum i;have h3:=hsum (i+1);have h4:((lv.reverse.take (i+1)).map λx=>x.1.length).sum=((lv.reverse.take i).map λx=>x.1.length).sum+x.1.length:=by rw[List.take_add_one,hx2,Option.toList_some,List.map_append,List.sum_append];simp
  refine jr omQ (qb omQ (hih (lv.length-(i+1)) _ _ omQ ⟨i+1,?_,by omega,rfl,rfl⟩));rw[h4];refine Prod.ext ?_ (Prod.ext rfl (Prod.ext rfl (Prod.ext ?_ rfl)))
  ·show AV.int _ _=AV.int _ _
   congr 1
  ·show AV.int _ _=AV.int _ _
   congr 1
   omega
 ·have h2:=hsum i;rw[List.drop_of_length_le (by simp;omega)]at h2;rw[show((lv.reverse.take i).map λx=>x.1.length).sum=yl lv by simpa using h2]
theorem qZS {k b0 l:Nat} {v:AV} {ps:List Nat} {Inv:Nat→AH→Prop} {Fin:AH→Prop}
  (hrd:∀i h,Inv i h→h.at b0 0=some v∧Sl (λ_=>True) h 1 ps.length v (xc ps))
  (hy:∀i a h,ps[i]? =some a→Inv i h→wp (callT tab qj k (.yield l) [.int .i64 ((ps.length-1-i:Nat):Int),.ptr a 0] h) λr h'=>(r=.bool true∧Inv (i+1) h')∨(r=.bool false∧Fin h'))
  (hl:ps.length<1000000) (h0:Inv 0 h):wp (callT tab qj (k+1) (.fn 203 [] [.ptr b0 0]) [.yield l] h) λ_ h'=>Inv ps.length h'∨Fin h':=by
 refine qvt (g:=(tD2 S203)) rfl omQ λk' hk=>?_;obtain rfl:k'=k:=by omega
 show wp (S203 _ _ _ _).1 _;unfold S203
 try simp only[iI,uU,iZ]
 obtain⟨r1,r2⟩:=hrd 0 h h0;refine kh r1 (xC r2 (jr omQ ?_));refine jw (λm s h'=>∃i:Nat,s=(.int .i64 ((ps.length:Int)-((1:Nat):Int)-(i:Int)),.ptr b0 0,.yield l,())∧i≤ps.length∧m=ps.length-i∧Inv i h') ?_ (m:=ps.length) (by show _<1000000000;omega) ⟨0,by simp,by omega,by omega,h0⟩;rintro m ih s h' hih ⟨i,rfl,h1,rfl,hI⟩;dsimp only;obtain⟨r1,r2⟩:=hrd i h' hI;refine yq (λhlt=>qZ ?_) λhge=>qJ (qx (qq (.inl ?_)))
 ·have hi:i<ps.length:=by omega
  have ha:ps[i]? =some ps[i]:=iW hi;rw[show(ps.length:Int)-((1:Nat):Int)-(i:Int)=((ps.length-1-i:Nat):Int) by omega];refine kh r1 (jI r2 (by rw[Gk omQ,show ps.length-1-(ps.length-1-i)=i by omega,ha];rfl) ?_);refine qW (hy i _ h' ha hI) ?_;rintro _ h2 (⟨rfl,hI2⟩ |⟨rfl,hF⟩)
  ·refine jW (qJ (jr omQ (hih (ps.length-(i+1)) _ _ omQ ⟨i+1,?_,by omega,rfl,hI2⟩)));refine Prod.ext ?_ rfl;show AV.int _ _=AV.int _ _
   congr 1
   omega
  ·exact jk (qZ (qx (qq (.inr hF))))
 ·obtain rfl:i=ps.length:=by omega
  exact hI
theorem qXc {p:Int}:∀{lv:List LvM},(∀(j:Nat) x,lv[j]? =some x→zj p x.1=none)→Yi p lv=none:=by
 intro lv
 induction lv with
 |nil=>intro _;rfl
 |cons x r ih=>intro h;unfold Yi;rw[h 0 x rfl];exact ih λj y hy=>h (j+1) y (by simpa using hy)
theorem qV2 {p v:Int}:∀{lv:List LvM} {i:Nat} {x:LvM},(∀j,j<i→∀x,lv[j]? =some x→zj p x.1=none)→lv[i]? =some x→zj p x.1=some v→Yi p lv=some v:=by
 intro lv
 induction lv with
 |nil=>intro i x _ h;simp at h
 |cons y r ih=>
  intro i x h1 h2 h3;unfold Yi;cases i with
  |zero=>simp at h2;subst h2;rw[h3]
  |succ i=>rw[h1 0 omQ y rfl];exact ih (i:=i) (x:=x) (λj hj z hz=>h1 (j+1) omQ z (by simpa using hz)) (by simpa using h2) h3
theorem OkL.len {most:Nat} {lv:List LvM} (O:OkL most lv) {x:LvM} (hx:x∈lv):x.1.length≤96:=by
 have h1:=O.held;have h2:=O.le;have:x.1.length≤yl lv:=by
  clear h1 O
  induction lv with
  |nil=>cases hx
  |cons y r ih=>
   rw[zo];rcases List.mem_cons.1 hx with rfl |hx
   ·omega
   ·have:=ih hx;omega
 omega
theorem Ge {n:Nat} (hn:1≤n) {v:AV} (h1:One v) (H:HS g h L):t_w n 170 [v] h λr h'=>∃b,r=.fn 203 [] [.ptr b 0]∧HS g h' (qk b [v]::L):=by
 refine t_e1 (S:=S170) rfl omQ λk hk=>?_;unfold S170;try simp only[iZ]
 exact Xg H h1 λb h2 H2=>qq ⟨b,rfl,H2⟩
theorem qx5 {n q most:Nat} (hn:8≤n) {lv:List LvM} {p:Int} (H:HS g h (LgC q most lv::R)) (O:OkL most lv) :
  t_w n 201 [.ptr q 0,.int .i64 p] h λv h'=>v=.tup [.int .u64 ((Yi p lv).getD 0),.bool (Yi p lv).isSome]∧HS g h' (LgC q most lv::R):=by
 (refine qw (g:=W201) rfl omQ λk hk=>?_;show wp (S201 (callT tab qj k) _ _ _) _;unfold S201;try simp only[iI,uU,iZ])
 obtain⟨v,ps,e,H⟩:=LgC.E H;have hd:=O.deep;refine Xg H ⟨rfl,rfl⟩ λb1 h1 H=>Xg H ⟨rfl,rfl⟩ λb2 h2 H=>Xg H ⟨rfl,rfl⟩ λb3 h3 H=>?_;refine qG (qQ (qX ‹_› e_3 rfl ?_));refine qW (Ge omQ (H.one e_4) H) ?_;rintro _ h4 ⟨b4,rfl,H⟩;have H5:=(H.newBlk .dfd).newBlk (.loop .ready none 201 [1,0,1,0] [5,4,3] [.ptr b3 0,.ptr b2 0,.ptr b1 0] h4.nx);generalize(h4.new .dfd).nx=l at H5 ⊢;generalize h4.nx=d at H5 ⊢;obtain⟨k2,rfl⟩:∃k2,k=k2+1:=⟨k-1,by omega⟩
 refine ZB (qZS (b0:=b4) (v:=v) (ps:=ps)
  (Inv:=λi h'=>HS g h' (kK l (.loop .ready none 201 [1,0,1,0] [5,4,3] [.ptr b3 0,.ptr b2 0,.ptr b1 0] d)::kK d .dfd::qk b4 [v]::qk b3 [.bool false]::qk b2 [.int .u64 ((0:Nat):Int)]::qk b1 [.int .i64 p]::
   qk q [.int .i64 (most:Int),v]::qA 244 1 lv.length v (xc ps)::(List.zipWith LvC ps lv++R))∧∀j,j<i→∀x,lv[j]? =some x→zj p x.1=none)
  (Fin:=λh'=>∃x,Yi p lv=some x∧HS g h' (kK l (.loop .done (some .ret) 201 [1,0,1,0] [5,4,3] [.ptr b3 0,.ptr b2 0,.ptr b1 0] d)::kK d .dfd::qk b4 [v]::qk b3 [.bool true]::qk b2 [.int .u64 x]::qk b1 [.int .i64 p]::
   qk q [.int .i64 (most:Int),v]::qA 244 1 lv.length v (xc ps)::(List.zipWith LvC ps lv++R)))
  ?_ ?_ omQ ⟨H5,λj hj=>by omega⟩) ?_
 ·rintro i h' ⟨H,_⟩;obtain⟨et,A⟩:=H.obj (b:=b4) e_2;exact⟨A.at 0,e▸H.sl e_7⟩
 ·rintro i a h' ha ⟨H,hno⟩;have hi:=(List.getElem?_eq_some_iff.1 ha).1;have hx:lv[i]? =some (lv[i]'omQ):=iW _;have hm:lv[i]'omQ∈lv:=List.getElem_mem _;generalize lv[i]'omQ=x at hx hm;have hxl:=O.len hm;refine Zg (H.blk .here) (w:=V1) rfl omQ λk3 hk3=>?_;show wp (B1 _ _ _ _ _ (.int .i64 ((ps.length-1-i:Nat):Int)) _ _) _;unfold B1
  try simp only[iI,uU,iZ]
  refine O4 H .here λh6 H=>?_;obtain⟨T,s⟩:=KA (R:=R) ha hx;obtain⟨w,fv,H7⟩:=LvC.E (H.sel (.there (.there (.there (.there (.there (.there (.there (.there s)))))))));refine qG (qQ (qX ‹_› .here rfl ?_));refine qX ‹_› e_8 rfl ?_;refine qW (qXM omQ (H7.sel e_1) omQ) ?_;rintro _ h8 ⟨rfl,H8⟩;refine qy rfl ?_;refine qy rfl ?_;cases hg:zj p x.1 with
  |none=>
   refine qJ (qZ7 H8 e_3 λh9 H9=>.inl ⟨rfl,?_,λj hj y hy=>?_⟩)
   ·have H10:=LvC.I (a:=a) (w:=w) (fv:=fv) (x:=x) (H9.sub (.cons e_2 (.cons e_1 (.cons e_1 .refl))));exact HS.unsel (.there (.there (.there (.there (.there (.there (.there (.there s)))))))) (H10.sub (.refl))
   ·by_cases hj':j<i
    ·exact hno j hj' y hy
    ·obtain rfl:j=i:=by omega
     rw[hx]at hy;cases hy;exact hg
  |some z=>refine qZ (qg H8 (b:=b2) e_7 ⟨rfl,rfl⟩ osQ λh9 H9=>qg H9 (b:=b3) e_7 ⟨rfl,rfl⟩ osQ λh10 H10=>qks H10 e_5 λh11 H11=>.inr ⟨rfl,z,qV2 hno hx hg,?_⟩);have H12:=LvC.I (a:=a) (w:=w) (fv:=fv) (x:=x) (H11.sub (.cons e_4 (.cons e_3 (.cons e_3 .refl))));exact HS.unsel (.there (.there (.there (.there (.there (.there (.there (.there s)))))))) (H12.sub (.cons .here (.cons .here (.cons e_2 (.cons e_2 (.cons .here (.cons .here (.refl))))))))
 ·rintro _ h6 (⟨H,hno⟩ |⟨x,hx,H⟩)
  ·have hg:Yi p lv=none:=qXc λj x hj=>hno j (by have:=(List.getElem?_eq_some_iff.1 hj).1;omega) x hj;refine Nq H .here (λh=>by cases h) λh7 H=>O0 (qg H (b:=b2) e_4 ⟨rfl,rfl⟩ osQ λh8 H=>qg H (b:=b3) e_4 ⟨rfl,rfl⟩ osQ λh9 H=>Gw H e_3 λh10 H=>?_);refine qX ‹_› e_2 rfl ?_;refine qX ‹_› e_1 rfl ?_;refine qq ⟨by rw[hg];rfl,?_⟩;exact LgC.I (v:=v) (ps:=ps) e (H.sub (.cons e_6 (.cons e_6 (.drop (.drop (.drop (.drop (.drop (.drop (.refl))))))))))
  ·refine Nq H .here (λh=>by cases h) λh7 H=>qq8 (qg9 rfl (Gw H e_1 λh8 H=>?_));refine qX ‹_› e_4 rfl ?_;refine qX ‹_› e_3 rfl ?_;refine qq ⟨by rw[hx];rfl,?_⟩;exact LgC.I (v:=v) (ps:=ps) e (H.sub (.cons e_6 (.cons e_6 (.drop (.drop (.drop (.drop (.drop (.drop (.refl))))))))))
theorem qgt {x:LvM} {r:List LvM} {most:Nat} {p v:Int} (O:OkL most (x::r)) (hp:¬(p<1∨256≤p)) (hf:¬(zj p x.1=none∧most≤yl (x::r))):Xc 96 x.1 p v=(0,yi p v x.1):=by have h1:=O.held;have h2:=O.le;rw[zo]at h1 hf;unfold Xc;rw[iQ hp,iQ (λh=>hf ⟨h.1,by omega⟩)]
theorem qZT {n q most:Nat} (hn:5≤n) {lv:List LvM} {p v:Int} (H:HS g h (LgC q most lv::R)) (O:OkL most lv) :
  t_w n 241 [.ptr q 0,.int .i64 p,.int .u64 v] h λr h'=>r=.int .i64 (gX most lv p v).1∧HS g h' (LgC q most (gX most lv p v).2::R):=by
 cases lv with
 |nil=>have:=O.one;simp at this
 |cons x r=>
 have hxl:=O.len (x:=x) (iK ..);refine t_e3 (S:=S241) rfl omQ λk hk=>?_;unfold S241;try simp only[iZ]
 unfold gX;by_cases hp:p<1∨256≤p
 ·simp only[iJ hp]
  repeat' (first |with_reducible refine qZ ?_ |with_reducible refine qJ ?_ |(with_reducible refine qa ?_;try dsimp only) |(with_reducible refine qp ?_;try dsimp only) |(with_reducible refine qR ?_;try dsimp only) |(with_reducible refine qc ?_;try dsimp only) |(with_reducible refine jt ?_;try dsimp only) |with_reducible refine qE ?_ |with_reducible refine qC ?_ |(with_reducible refine qV ?_;try dsimp only) |with_reducible refine qx ?_ |with_reducible refine jW ?_ |with_reducible refine jk ?_ |with_reducible refine qb omQ ?_ |with_reducible refine jr omQ ?_ |with_reducible refine yN omQ ?_ |with_reducible refine vo omQ ?_ |with_reducible refine zZ ?_ |with_reducible refine ze ?_ |with_reducible refine qz omQ ?_ |with_reducible refine qK omQ ?_ |with_reducible refine qu omQ ?_ |with_reducible refine q8 omQ ?_ |with_reducible refine jB omQ ?_ |with_reducible refine jK omQ ?_ |with_reducible refine QA omQ ?_ |with_reducible refine Q6 omQ ?_ |with_reducible refine yj omQ ?_ |with_reducible refine xW omQ ?_ |with_reducible refine zv omQ ?_ |with_reducible refine zK omQ ?_ |with_reducible refine z7 (λhc=>?_) (λhc=>?_) |with_reducible refine wF (λhc=>?_) (λhc=>?_) |with_reducible refine wL (λhc=>?_) (λhc=>?_) |with_reducible refine yq (λhc=>?_) (λhc=>?_) |with_reducible refine vp (λhc=>?_) (λhc=>?_) |with_reducible refine vw (λhc=>?_) (λhc=>?_) |with_reducible refine gS (λhc=>?_) (λhc=>?_))
  all_goals exact qq ⟨rfl,H⟩
 simp only[iQ hp];refine jK omQ ?_;refine qV ?_;(try dsimp only);refine qc ?_;(try dsimp only);refine zK omQ ?_;refine qC (qJ ?_)
 have hH:=H;obtain⟨sv,a,ps,e,H⟩:=LgC.E1 H;rw[← e]at H;refine qW (YG omQ H .here e_1 (by have:=O.deep;simp at this;omega)) ?_;rintro _ _ ⟨rfl,rfl⟩;obtain⟨w,fv,H2⟩:=LvC.E (H.sel e_2);refine qG (qQ (qX ‹_› .here rfl ?_));refine qW (qXM omQ (H2.sel e_1) omQ) ?_;rintro _ h3 ⟨rfl,H3⟩;refine qy rfl ?_;refine qy rfl ?_;have H4:HS g h3 (LgC q most (x::r)::R):=by have H4:=LvC.I (a:=a) (w:=w) (fv:=fv) (x:=x) (H3.sub (.cons e_1 (.cons .here .refl)));refine LgC.I1 (v:=sv) (a:=a) (ps:=ps) e ?_;rw[← e];exact H4.sub (.cons e_1 (.cons e_1 (.refl)))
 have fin:¬(zj p x.1=none∧most≤yl (x::r))→∀h5,HS g h5 (WrC w 96 x.1::qk a [.ptr w 0,fv]::qA 3 1 x.2.length fv (x.2.map (.int .i64))::qk q [.int .i64 (most:Int),sv]::qA 244 1 (ps.length+1) sv (xc (a::ps))::(List.zipWith LvC ps r++R))→
   t_w k 204 [.ptr w 0,.int .i64 p,.int .u64 v] h5 λr' h'=>r'=.int .i64 0∧HS g h' (LgC q most ((yi p v x.1,x.2)::r)::R):=by
  intro hf h5 H5;refine(qZb omQ H5 omQ).mono ?_;rintro _ h6 ⟨rfl,H6⟩;rw[qgt O hp hf]at H6 ⊢;refine⟨rfl,LgC.I1 (v:=sv) (a:=a) (ps:=ps) e ?_⟩;rw[← e];have H7:=LvC.I (a:=a) (w:=w) (fv:=fv) (x:=(yi p v x.1,x.2)) (H6.sub (.cons e_1 (.cons .here .refl)));exact H7.sub (.cons e_1 (.cons e_1 (.refl)))
 cases hg:zj p x.1 with
 |some z=>
  simp only[Option.isSome_some];refine jW (qV ?_);(try dsimp only);refine qR ?_;(try dsimp only);refine qC (qJ ?_)
  rw[iQ (λh=>by cases h.1)];refine qW (fin (λh=>by rw[hg]at h;cases h.1) h3 (H3.sub (.refl))) ?_;rintro _ h6 ⟨rfl,H6⟩;exact qq ⟨rfl,H6⟩
 |none=>
  simp only[Option.isSome_none];refine jk (qV ?_);(try dsimp only);refine qa ?_;(try dsimp only)
  refine qW (qqA omQ H4 O) ?_;rintro _ _ ⟨rfl,rfl⟩;have hh:=O.held;refine vp (λh0=>?_) λh0=>?_
  ·refine qE (qZ ?_);rw[iJ ⟨by trivial,by omega⟩];exact qq ⟨rfl,H4⟩
  ·refine qE (qJ ?_);rw[iQ (λh=>h0 omQ)];refine qW (fin (λh=>h0 omQ) _ (H3.sub (.refl))) ?_;rintro _ h6 ⟨rfl,H6⟩;exact qq ⟨rfl,H6⟩
theorem GH {most:Nat} {x:LvM} {r:List LvM} {p v:Int}:∃c,(gX most (x::r) p v).2=(c,x.2)::r:=by
 unfold gX;dsimp only
 split
 ·exact⟨x.1,rfl⟩
 ·split
  ·exact⟨x.1,rfl⟩
  ·exact⟨_,rfl⟩
theorem qYf {n q most:Nat} (hn:7≤n) {lv:List LvM} {cs:List Cl} {c:AV} (H:HS g h (LgC q most lv::R)) (O:OkL most lv) (S:Rd g R 2 cs.length c (cs.flatMap jL)) (hc:cs.length<100000) :
  t_w n 202 [.ptr q 0,c] h λr h'=>r=.int .i64 (vT most lv lv cs).1∧HS g h' (LgC q most (vT most lv lv cs).2::R):=by
 cases lv with
 |nil=>have:=O.one;simp at this
 |cons x r=>
 have hxl:=O.len (x:=x) (iK ..);have hxi:=O.ins x (iK ..);have hxu:=O.un x (iK ..);refine t_e2 (S:=S202) rfl omQ λk hk=>?_;unfold S202;try simp only[iZ]
 refine qW (NR (m:=96) omQ omQ H) ?_;rintro _ h1 ⟨w0,rfl,H1⟩;obtain⟨sv,a,ps,e,H2⟩:=LgC.E1 (H1.sel e_1);rw[← e]at H2;refine qW (YG omQ H2 .here e_1 (by have:=O.deep;simp at this;omega)) ?_;rintro _ _ ⟨rfl,rfl⟩;obtain⟨w,fv,H3⟩:=LvC.E (H2.sel e_2);refine qG (qQ (qX ‹_› .here rfl ?_));refine qW (Yb omQ (H3.sel (P:=WrC w 96 x.1) e_1) omQ) λva h4 H4=>?_;refine qW (YF (cs:=x.1) (l:=[]) (m:=96) (w:=w0) omQ (H4.sel (.there (.there (.there (.there (.there (.there (Sel.skip _ .here))))))))  (.own .here) osQ omQ) ?_;rintro _ h5 ⟨_,H5⟩;have ht:wu 96 [] x.1=(0,x.1):=by unfold wu;rw[YM hxi (by simpa using hxl),V6 hxu,iJ rfl]
 rw[ht]at H5;have H6:HS g h5 (LgC q most (x::r)::WrC w0 96 x.1::R):=by have H7:=LvC.I (a:=a) (w:=w) (fv:=fv) (x:=x) (H5.sub (.cons e_3 (.cons e_2 (.cons e_2 .refl))));refine LgC.I1 (v:=sv) (a:=a) (ps:=ps) e ?_;rw[← e];have H8:HS g h5 (WrC w0 96 x.1::(qk q [.int .i64 (most:Int),sv]::qA 244 1 (ps.length+1) sv (xc (a::ps))::LvC a x::List.zipWith LvC ps r)++R):=H7.sub (.cons e_1 (.cons e_2 (.cons e_2 (.cons .here (.drop .refl)))));exact HS.back H8
 clear H1 H2 H3 H4 H5;refine xC (S.sl H6.drop.drop) ?_
 refine jw (λk s h'=>∃(i:Nat) (c':List Cl),s=(.int .i64 (i:Int),.int .i64 (cs.length:Int),c,.ptr w0 0,.ptr q 0,())∧i≤cs.length∧k=cs.length-i∧OkL most ((c',x.2)::r)∧
  HS g h' (LgC q most ((c',x.2)::r)::WrC w0 96 x.1::R)∧vT most (x::r) (x::r) cs=vT most (x::r) ((c',x.2)::r) (cs.drop i)) ?_ (m:=cs.length) (by show _<1000000000;omega) ⟨0,x.1,rfl,by omega,by omega,O,H6,rfl⟩
 rintro k2 ih s h2 hih ⟨i,c',rfl,h1,rfl,O',H,hT⟩;dsimp only;refine z7 (λhlt=>qZ ?_) λhge=>qJ (qx (qq ?_))
 ·have hi:i<cs.length:=by omega
  have hci:cs[i]? =some cs[i]:=iW hi;refine zH (l:=jL cs[i]) (S.sl H.drop.drop) hi omQ (Gq hci) ?_;refine qI H rfl λb h3 H3=>qd H3 .here rfl (by show 0+2≤2;omega) rfl λh4 H4=>?_;have H5:HS g h4 (qk b (jL cs[i])::LgC q most ((c',x.2)::r)::WrC w0 96 x.1::R):=H4;unfold jL at H5;refine qQ (qX ‹_› .here rfl ?_);refine qQ (qX ‹_› .here rfl ?_);refine qW (qZT omQ H5.drop O') ?_;rintro _ h6 ⟨rfl,H6⟩;rw[List.drop_eq_getElem_cons hi,gK]at hT;have O2:=(Mu (p:=cs[i].1) (v:=cs[i].2) O').1;obtain⟨c2,hc2⟩:=GH (most:=most) (x:=(c',x.2)) (r:=r) (p:=cs[i].1) (v:=cs[i].2);refine vw (λhne=>qZ ?_) λhe=>qJ (qb omQ ?_)
  ·have hne:¬(gX most ((c',x.2)::r) cs[i].1 cs[i].2).1=0:=by simpa using hne
   rw[iQ hne]at hT;rw[hc2]at H6;obtain⟨sv,a,ps,e,H7⟩:=LgC.E1 H6;rw[← e]at H7;refine qW (YG omQ H7 .here e_1 (by have:=O.deep;simp at this;omega)) ?_;rintro _ _ ⟨rfl,rfl⟩;obtain⟨w,fv,H8⟩:=LvC.E (H7.sel e_2);refine qG (qQ (qg H8 .here ⟨rfl,rfl⟩ osQ λh9 H9=>qx (qq ?_)));rw[hT];refine⟨rfl,LgC.I1 (v:=sv) (a:=a) (ps:=ps) e ?_⟩;rw[← e];obtain⟨T,sT,uT⟩:∃T,Sel (List.zipWith LvC ps r++WrC w0 96 x.1::R) (WrC w0 96 x.1) T∧T=List.zipWith LvC ps r++R:=⟨_,Sel.skip _ .here,rfl⟩;subst uT;have H10:=LvC.I (a:=a) (w:=w0) (fv:=fv) (x:=x) (H9.sub (.cons .here (.cons (.there (.there (.there (.there sT)))) (.cons e_1 (.drop .refl)))));exact H10.sub (.cons e_1 (.cons e_1 (.refl)))
  ·have he':(gX most ((c',x.2)::r) cs[i].1 cs[i].2).1=0:=by simpa using he
   rw[iJ he',hc2]at hT;rw[hc2]at H6 O2;exact hih (cs.length-(i+1)) _ _ omQ ⟨i+1,c2,rfl,by omega,rfl,O2,H6,hT⟩
 ·rw[List.drop_of_length_le omQ]at hT;have hT:vT most (x::r) (x::r) cs=(0,(c',x.2)::r):=hT;rw[hT];exact⟨rfl,H.sub (.cons .here (.drop .refl))⟩
theorem UC (a:Nat) (ps:List Nat):xc (a::ps)=xc ps++[.ptr a 0]:=by unfold xc;rw[List.reverse_cons,List.map_append];rfl
theorem Vh (ps:List Nat):(xc ps).length=ps.length:=by simp[xc]
theorem qY2 {n q most:Nat} (hn:3≤n) {lv:List LvM} (H:HS g h (LgC q most lv::R)) (O:OkL most lv) :
  t_w n 337 [.ptr q 0] h λv h'=>v=.int .i64 (kr lv).1∧HS g h' (LgC q most (kr lv).2::R):=by
 refine t_e1 (S:=S337) rfl omQ λk hk=>?_;unfold S337;try simp only[iZ]
 have hH:=H;obtain⟨v,ps,e,H⟩:=LgC.E H;unfold kr;by_cases h6:6≤lv.length
 ·rw[iJ h6];refine qG (qQ (qX ‹_› .here rfl ?_));refine qi ‹_› e_1 ?_;refine zv omQ ?_;refine qZ ?_;exact qq ⟨rfl,hH⟩
 ·rw[iQ h6];refine qG (qQ (qX ‹_› .here rfl ?_));refine qi ‹_› e_1 ?_;refine zK omQ ?_;refine qJ (qV ?_);(try dsimp only);refine qG (qQ (qX ‹_› .here rfl ?_))
  refine qW (Md omQ H) ?_;rintro _ h2 ⟨a,rfl,H2⟩;refine qe (n:=1) (l:=[.ptr a 0]) (sz:=1) H2 rfl rfl rfl rfl λv3 h3 H3=>?_;refine jR (H3.sel e_3) (H3.sl .here) omQ omQ rfl λv4 h4 H4=>?_;refine qG (qQ (qg H4 (b:=q) e_3 (H4.one .here) osQ λh5 H5=>?_));refine qU ‹_› .here rfl ‹_› e_1 rfl (HS.lt ‹_› .here) ?_;refine qq ⟨rfl,LgC.I1 (v:=v4) (a:=a) (ps:=ps) e ?_⟩;rw[UC];exact H5.sub (.cons .here (.cons .here (.cons e_1 (.drop (.refl)))))
theorem Z0 {n q:Nat} (hn:1≤n) {m v:AV} {a:Nat} {ps:List Nat} (h1:1≤ps.length) (hl:ps.length<1000) (H:HS g h (qk q [m,v]::qA 244 1 (ps.length+1) v (xc (a::ps))::R)) :
  t_w n 305 [.ptr q 0] h λr h'=>r=.int .i64 0∧∃v',HS g h' (qk q [m,v']::qA 244 1 ps.length v' (xc ps)::R):=by
 refine t_e1 (S:=S305) rfl omQ λk hk=>?_;unfold S305;try simp only[iZ]
 refine qG (qQ (qX ‹_› .here rfl ?_));refine qi ‹_› e_1 ?_;refine qK omQ ?_;refine qJ (qG (qQ (qX ‹_› .here rfl ?_)));refine qG (qQ (qX ‹_› .here rfl ?_));refine qi ‹_› e_1 ?_;refine jr omQ ?_;rw[show((ps.length+1:Nat):Int)-((1:Nat):Int)=((ps.length:Nat):Int) by omega];refine XY (H.sel e_1) omQ omQ λv' H2=>?_;refine qG (qQ (qg H2 (b:=q) e_1 (H2.one .here) osQ λh3 H3=>qq ⟨rfl,v',?_⟩));rw[UC,Nat.mul_one,← Vh ps,List.take_left,Vh]at H3;exact H3.sub (.cons .here (.refl))
theorem Od {n q most:Nat} (hn:1≤n) {lv:List LvM} (H:HS g h (LgC q most lv::R)) (O:OkL most lv) :
  t_w n 305 [.ptr q 0] h λv h'=>v=.int .i64 (ko lv).1∧HS g h' (LgC q most (ko lv).2::R):=by
 unfold ko;by_cases h1:lv.length=1
 ·rw[iJ h1];refine t_e1 (S:=S305) rfl omQ λk hk=>?_;unfold S305;try simp only[iZ]
  have hH:=H;obtain⟨v,ps,e,H⟩:=LgC.E H;refine qG (qQ (qX ‹_› .here rfl ?_));refine qi ‹_› e_1 ?_;refine qz omQ ?_;refine qZ ?_;exact qq ⟨rfl,hH⟩
 ·rw[iQ h1];cases lv with
  |nil=>have:=O.one;simp at this
  |cons x r=>
  have hd:=O.deep;simp at h1 hd;have h1':1≤r.length:=by cases r with |nil=>simp at h1 |cons _ _=>simp
  obtain⟨v,a,ps,e,H⟩:=LgC.E1 H;rw[← e]at H;refine(Z0 hn omQ omQ H).mono ?_;rintro _ h2 ⟨rfl,v',H2⟩;refine⟨rfl,LgC.I (v:=v') (ps:=ps) e ?_⟩;show HS g h2 (_::qA 244 1 r.length v' _::(List.zipWith LvC ps r++R));rw[← e];exact H2.sub (.cons .here (.cons .here (.drop .refl)))
theorem qqn {n q most:Nat} (hn:6≤n) {lv:List LvM} (H:HS g h (LgC q most lv::R)) (O:OkL most lv) (hf:∀x∈lv,x.2.length<1000000) :
  t_w n 303 [.ptr q 0] h λv h'=>v=.int .i64 (Qh lv).1∧HS g h' (LgC q most (Qh lv).2::R):=by
 rcases lv with _ |⟨x,_ |⟨y,r⟩⟩
 ·have:=O.one;simp at this
 ·
  refine t_e1 (S:=S303) rfl omQ λk hk=>?_;unfold S303;try simp only[iZ]
  obtain⟨v,a,ps,e,H2⟩:=LgC.E1 H;rw[← e]at H2;refine qW (YG omQ H2 .here e_1 (by simp at e;simp[e])) ?_;rintro _ _ ⟨rfl,rfl⟩;refine qW (Od omQ H O) ?_;rintro _ h3 ⟨rfl,H3⟩;rw[show ko [x]=(10,[x])from rfl]at H3 ⊢;refine qu omQ ?_;refine qZ ?_;exact qq ⟨rfl,H3⟩
 ·
  have hx:=hf x osQ;have hy:=hf y osQ;have hxi:=O.ins x osQ;have hd:=O.deep;have hh:=O.held;have hle:=O.le;rw[zo,zo]at hh;simp at hd;refine t_e1 (S:=S303) rfl omQ λk hk=>?_;unfold S303;try simp only[iZ]
  obtain⟨v,a,ps,e,H2⟩:=LgC.E1 H;rw[← e]at H2;refine qW (YG omQ H2 .here e_1 (by simp at e;omega)) ?_;rintro _ _ ⟨rfl,rfl⟩;simp at e;refine qW (Z0 omQ omQ omQ H2) ?_;rintro _ h3 ⟨rfl,v',H3⟩;cases ps with
  |nil=>simp at e
  |cons b ps=>
  simp at e;refine q8 omQ ?_;refine qJ (qW (YG omQ H3 .here e_1 omQ) ?_);rintro _ _ ⟨rfl,rfl⟩;have H4:HS g _ (LvC b y::LvC a x::qk q [.int .i64 (most:Int),v']::qA 244 1 (ps.length+1) v' (xc (b::ps))::(List.zipWith LvC ps r++R)):=H3.sub (.cons e_3 (.cons e_2 (.cons .here (.cons .here .refl))));obtain⟨w1,f1,H4⟩:=LvC.E H4;obtain⟨w2,f2,H5⟩:=LvC.E (H4.sel e_3);refine qG (qQ (qX ‹_› e_3 rfl ?_));refine qG (qQ (qX ‹_› .here rfl ?_));refine jR (H5.sel e_5) (H5.sl e_2) omQ omQ ?_ λv6 h6 H6=>?_
  ·simp[qo,AV.one]
  refine qG (qQ (qg H6 (b:=b) e_4 (H6.one .here) osQ λh7 H7=>?_));simp only[List.set_cons_zero,List.set_cons_succ]at H7;refine qV ?_;(try dsimp only);refine qG (qQ (qX ‹_› .here rfl ?_));refine qG (qQ (qX ‹_› e_2 rfl ?_))
  refine qW (Yb omQ (H7.sel (P:=WrC w2 96 x.1) e_3) omQ) λv8 h8 H8=>?_;refine qW (YF (cs:=x.1) (l:=y.1) (m:=96) (w:=w1) omQ (H8.sel (P:=WrC w1 96 y.1) e_6) (.own .here) omQ omQ) ?_;rintro _ h9 ⟨rfl,H9⟩;have ht:wu 96 y.1 x.1=(0,yb y.1 x.1):=by unfold wu;rw[YM hxi omQ,iJ rfl]
  rw[ht]at H9 ⊢;refine qU ‹_› .here rfl ‹_› e_2 rfl (HS.lt ‹_› .here) ?_;refine qq ⟨rfl,LgC.I1 (v:=v') (a:=b) (ps:=ps) omQ ?_⟩;show HS g h9 (_::qA 244 1 (r.length+1) v' _::_);rw[← e];have H10:=LvC.I (a:=b) (w:=w1) (fv:=v6) (x:=(yb y.1 x.1,y.2++x.2)) (R:=qk q [.int .i64 (most:Int),v']::qA 244 1 (ps.length+1) v' (xc (b::ps))::(List.zipWith LvC ps r++R))
   (by rw[List.map_append,List.length_append];exact H9.sub (.cons e_3 (.cons .here (.cons e_2 (.cons e_4 (.cons e_4 (.drop (.drop (.drop (.drop (.refl)))))))))))
  exact H10.sub (.cons e_1 (.cons e_1 (.refl)))
theorem UB:∀(lv:List LvM) (out:List Cl),(lv.foldl (λout x=>yb x.1 out) out).length≤out.length+yl lv:=by
 intro lv
 induction lv with
 |nil=>intro out;simp
 |cons x r ih=>intro out;have h1:=ih (yb x.1 out);have h2:=Kc (cs:=out) (l:=x.1);rw[List.foldl_cons,zo];omega
theorem VA:∀(lv:List LvM) (out:List Cl),InC out→(∀x∈lv,InC x.1)→InC (lv.foldl (λout x=>yb x.1 out) out):=by
 intro lv
 induction lv with
 |nil=>intro out h _;exact h
 |cons x r ih=>intro out h hx;exact ih _ ((hx x (iK ..)).puts h) λy hy=>hx y (iX _ hy)
theorem qVI (l1 l2:List LvM):yl (l1++l2)=yl l1+yl l2:=by simp[yl]
theorem qKD {n q most:Nat} (hn:9≤n) {lv:List LvM} (H:HS g h (LgC q most lv::R)) (O:OkL most lv) :
  t_w n 144 [.ptr q 0] h λv h'=>HS g h' (qA 177 2 (jn lv).length v ((jn lv).flatMap jL)::LgC q most lv::R):=by
 (refine qw (g:=W144) rfl omQ λk hk=>?_;show wp (S144 (callT tab qj k) _ _) _;unfold S144;try simp only[iI,uU,iZ])
 obtain⟨v,ps,e,H⟩:=LgC.E H;have hd:=O.deep;have hle:=O.le;have hhe:=O.held;refine Xg (H.nils (e:=177) (sz:=2)) ⟨rfl,rfl⟩ λb1 h1 H=>?_;refine qG (qQ (qX ‹_› e_2 rfl ?_));refine qW (Ge omQ (H.one e_3) H) ?_;rintro _ h4 ⟨b4,rfl,H⟩;have H5:=(H.newBlk .dfd).newBlk (.loop .ready none 144 [1,1,0,1,0] [3] [.ptr b1 0] h4.nx);generalize(h4.new .dfd).nx=l at H5 ⊢;generalize h4.nx=d at H5 ⊢;obtain⟨k2,rfl⟩:∃k2,k=k2+1:=⟨k-1,by omega⟩
 refine ZB (qZS (b0:=b4) (v:=v) (ps:=ps)
  (Inv:=λi h'=>∃ov,HS g h' (kK l (.loop .ready none 144 [1,1,0,1,0] [3] [.ptr b1 0] d)::kK d .dfd::qk b4 [v]::qk b1 [ov]::qA 177 2 (jn (lv.take i)).length ov ((jn (lv.take i)).flatMap jL)::
   qk q [.int .i64 (most:Int),v]::qA 244 1 lv.length v (xc ps)::(List.zipWith LvC ps lv++R)))
  (Fin:=λ_=>False) ?_ ?_ omQ ⟨.nils,H5⟩) ?_
 ·rintro i h' ⟨ov,H⟩;obtain⟨et,A⟩:=H.obj (b:=b4) e_2;exact⟨A.at 0,e▸H.sl e_6⟩
 ·rintro i a h' ha ⟨ov,H⟩;have hi:=(List.getElem?_eq_some_iff.1 ha).1;have hx:lv[i]? =some (lv[i]'omQ):=iW _;have hm:lv[i]'omQ∈lv:=List.getElem_mem _;generalize lv[i]'omQ=x at hx hm;have hxl:=O.len hm;have hxi:=O.ins x hm;have hxu:=O.un x hm;have hml:(jn (lv.take i)).length+x.1.length≤96:=by
   have h1:=UB (lv.take i) [];have h2:yl lv=yl (lv.take i)+(x.1.length+yl (lv.drop (i+1))):=by
    rw[← zo,← qVI]
    congr 1
    have h3:lv.drop i=x::lv.drop (i+1):=by
     have hi':i<lv.length:=by omega
     rw[List.drop_eq_getElem_cons hi'];rw[iW hi']at hx;rw[Option.some.inj hx]
    rw[← h3,List.take_append_drop]
   unfold jn;simp at h1;omega
  have hmi:InC (jn (lv.take i)):=VA _ _ (λc hc=>by cases hc) λy hy=>O.ins y (List.mem_of_mem_take hy);have hms:jn (lv.take (i+1))=yb x.1 (jn (lv.take i)):=by unfold jn;rw[List.take_add_one,hx,Option.toList_some,List.foldl_append];rfl
  refine Zg (H.blk .here) (w:=V0) rfl omQ λk3 hk3=>?_;show wp (B0 _ _ _ (.int .i64 ((ps.length-1-i:Nat):Int)) _ _) _;unfold B0
  try simp only[iI,uU,iZ]
  refine O4 H .here λh6 H=>?_;refine qW (NR (m:=96) omQ omQ H) ?_;rintro _ h7 ⟨w0,rfl,H⟩;obtain⟨T,s⟩:=KA (R:=R) ha hx;obtain⟨w,fv,H7⟩:=LvC.E (H.sel (.there (.there (.there (.there (.there (.there (.there (.there s)))))))));refine qG (qQ (qX ‹_› .here rfl ?_));refine qW (Yb omQ (H7.sel (P:=WrC w 96 x.1) e_1) omQ) λva h8 H8=>?_;refine qW (YF (cs:=x.1) (l:=[]) (m:=96) (w:=w0) omQ (H8.sel (P:=WrC w0 96 []) e_4) (.own .here) osQ omQ) ?_;rintro _ h9 ⟨_,H9⟩;have ht:wu 96 [] x.1=(0,x.1):=by unfold wu;rw[YM hxi (by simpa using hxl),V6 hxu,iJ rfl]
  rw[ht]at H9;dsimp only at H9;refine qX ‹_› e_8 rfl ?_;have ht2:wu 96 x.1 (jn (lv.take i))=(0,yb x.1 (jn (lv.take i))):=by unfold wu;rw[YM hmi omQ,iJ rfl]
  have S2:Rd g _ 2 (jn (lv.take i)).length ov ((jn (lv.take i)).flatMap jL):=H9.drop.rd (L:=qA 177 2 x.1.length va (x.1.flatMap jL)::WrC w 96 x.1::qk a [.ptr w 0,fv]::qA 3 1 x.2.length fv (x.2.map (.int .i64))::
   kK l (.loop .busy none 144 [1,1,0,1,0] [3] [.ptr b1 0] d)::kK d .dfd::qk b4 [v]::qk b1 [ov]::qA 177 2 (jn (lv.take i)).length ov ((jn (lv.take i)).flatMap jL)::
   qk q [.int .i64 (most:Int),v]::qA 244 1 lv.length v (xc ps)::T) e_8
  refine qW (YF omQ H9 S2 omQ omQ) ?_;rintro _ h10 ⟨_,H10⟩;rw[ht2]at H10;dsimp only at H10;have hpl:=Kc (cs:=jn (lv.take i)) (l:=x.1);refine qW (Yb omQ H10 omQ) λvb h11 H11=>?_;refine qg H11 (b:=b1) e_9 (H11.one .here) osQ λh12 H12=>qZ7 H12 e_7 λh13 H13=>.inl ⟨rfl,vb,?_⟩;rw[hms]
  have H14:=LvC.I (a:=a) (w:=w) (fv:=fv) (x:=x) (R:=kK l (.loop .ready none 144 [1,1,0,1,0] [3] [.ptr b1 0] d)::kK d .dfd::qk b4 [v]::qk b1 [vb]::
   qA 177 2 (yb x.1 (jn (lv.take i))).length vb ((yb x.1 (jn (lv.take i))).flatMap jL)::qk q [.int .i64 (most:Int),v]::qA 244 1 lv.length v (xc ps)::T) (H13.sub (.cons e_6 (.cons e_5 (.cons e_5 (.cons .here (.cons e_4 (.cons e_4 (.cons .here (.cons .here (.cons e_3 (.cons e_3 (.drop (.drop (.drop (.refl)))))))))))))))
  exact HS.unsel (.there (.there (.there (.there (.there (.there (.there s))))))) H14
 ·rintro _ h6 (⟨ov,H⟩ |hF)
  ·rw[List.take_of_length_le omQ]at H;refine Nq H .here (λh=>by cases h) λh7 H=>O0 ?_;refine qX ‹_› e_3 rfl ?_;refine Gw H e_1 λh10 H=>qq ?_
   exact(LgC.I (v:=v) (ps:=ps) e (HS.back (A:=_::_::List.zipWith LvC ps lv) (H.sub (L':=qA 177 2 (jn lv).length ov ((jn lv).flatMap jL)::qk q [.int .i64 (most:Int),v]::
    qA 244 1 lv.length v (xc ps)::(List.zipWith LvC ps lv++R)) (.cons e_4 (.cons e_4 (.cons e_4 (.drop (.drop (.drop (.drop (.refl))))))))))).sub (.cons e_1 (.refl))
  ·exact hF.elim
end
section
variable {g h:AH} {L R:List SP}
structure VM where
  sz:Nat
  K:List Cl
  most:Nat
  lv:List LvM
  need:Int
structure OkV (M:VM):Prop where
  lo:32≤M.sz
  hi:M.sz≤256
  lvs:OkL M.most M.lv
  ins:∀c∈M.K,1≤c.1∧c.1<M.sz
  un:UnC M.K
  fr:∀x∈M.lv,x.2.length<100000
def yC (M:VM) (p x:Int):Int×VM :=
 if 1≤p∧p<M.sz then match zj p M.K with
  |some y=>(if y=x then 0 else 14,M)
  |none=>(0,{ M with K:=M.K++[(p,x)] })
 else(2,M)
def qf (M:VM) (p:Int):(Int×Int)×VM :=
 if 1≤p∧p<M.sz then match Yi p M.lv with
  |some x=>((x,0),M)
  |none=>match zj p M.K with
   |some x=>((x,0),M)
   |none=>((0,11),{ M with need:=p })
 else((0,2),M)
def ju (M:VM) (cs:List Cl):Int×VM :=
 if∀c∈cs,1≤c.1∧c.1<M.sz then((vT M.most M.lv M.lv cs).1,{ M with lv:=(vT M.most M.lv M.lv cs).2 })else(2,M)
def freeV (M:VM) (b:Int):VM:={ M with lv:=Je M.lv b }
def yp (M:VM):Int×VM:=((kr M.lv).1,{ M with lv:=(kr M.lv).2 })
def xx (M:VM):Int×VM:=((ko M.lv).1,{ M with lv:=(ko M.lv).2 })
def vF (M:VM):Int×VM:=((Qh M.lv).1,{ M with lv:=(Qh M.lv).2 })
theorem KP:∀(n:Nat) (l:List Int),l.Nodup→(∀x∈l,0≤x∧x<n)→l.length≤n:=by
 intro n
 induction n with
 |zero=>
  intro l _ h;cases l with
  |nil=>exact Nat.le_refl _
  |cons x l=>have:=h x (iK ..);omega
 |succ n ih=>
  intro l hd h;by_cases hx:(n:Int)∈l
  ·have:=ih (l.erase n) (hd.erase _) (λx hx'=>by
    have h1:=h x (List.mem_of_mem_erase hx');have h2:x≠n:=by rintro rfl;exact(List.Nodup.not_mem_erase hd) hx'
    omega)
   rw[List.length_erase_of_mem hx]at this;omega
  ·have:=ih l hd (λx hx'=>by
    have h1:=h x hx';have h2:x≠n:=by rintro rfl;exact hx hx'
    omega)
   omega
theorem OkV.klen {M:VM} (O:OkV M):M.K.length≤256:=by
 have hu:(M.K.map (·.1)).Nodup:=O.un
 have:=KP M.sz _ hu (λx hx=>by
  obtain⟨c,hc,rfl⟩:=List.mem_map.1 hx;have:=O.ins c hc
  omega)
 rw[List.length_map]at this;have:=O.hi;omega
def QM (f:Int×Bool):List AV:=[.int .u64 f.1,.bool f.2]
def gC (K:List Cl) (i:Nat):Int×Bool:=match zj (i:Int) K with |some x=>(x,true) |none=>(0,false)
def yM (sz:Nat) (K:List Cl):List (Int×Bool):=(List.range sz).map (gC K)
theorem Jx (sz:Nat) (K:List Cl):(yM sz K).length=sz:=by simp[yM]
theorem QJ {sz:Nat} {K:List Cl} {i:Nat} (hi:i<sz):(yM sz K)[i]? =some (gC K i):=by simp[yM,List.getElem?_range hi]
theorem vk {α:Type} {sz:Nat} {enc:α→List AV} (he:∀a,(enc a).length=sz) {l:List α} {i:Nat} {a:α} (h:l[i]? =some a):((l.flatMap enc).drop (i*sz)).take sz=enc a:=by obtain⟨hi,e⟩:=List.getElem?_eq_some_iff.1 h;rw[XJ (sz:=sz) enc he,List.drop_eq_getElem_cons hi,e,List.flatMap_cons,← he a,List.take_left]
theorem M3 {α:Type} {sz:Nat} {enc:α→List AV} (he:∀a,(enc a).length=sz) {l:List α} {i:Nat} {a:α} (hi:i<l.length):kT (l.flatMap enc) (i*sz) (enc a)=(l.set i a).flatMap enc:=by
 have h1:(l.flatMap enc).take (i*sz)=(l.take i).flatMap enc:=by
  have e1:l.flatMap enc=(l.take i).flatMap enc++(l.drop i).flatMap enc:=by rw[← List.flatMap_append,List.take_append_drop]
  have e2:((l.take i).flatMap enc).length=i*sz:=by rw[YT (sz:=sz) enc he,List.length_take,Nat.min_eq_left omQ]
  rw[e1,← e2,List.take_left]
 have h2:(l.flatMap enc).drop (i*sz+sz)=(l.drop (i+1)).flatMap enc:=by rw[show i*sz+sz=(i+1)*sz by rw[Nat.add_mul,Nat.one_mul],XJ (sz:=sz) enc he]
 unfold kT;rw[he,h1,h2,List.set_eq_take_append_cons_drop,iJ hi,List.flatMap_append,List.flatMap_cons,List.append_assoc]
theorem qK9 {α:Type} {enc:α→List AV} {a:α}:∀n,vY (enc a) n=(List.replicate n a).flatMap enc:=by
 intro n
 induction n with
 |zero=>rfl
 |succ n ih=>rw[vY,ih,List.replicate_succ,List.flatMap_cons]
theorem qJr (sz:Nat):yM sz []=List.replicate sz (0,false):=by unfold yM;rw[show gC []=λ_=>((0,false):Int×Bool)from rfl,List.map_const',List.length_range]
theorem qZC {sz:Nat} {K:List Cl} {i:Nat} {x:Int} (hi:i<sz) (hn:zj (i:Int) K=none):yM sz (K++[((i:Int),x)])=(yM sz K).set i (x,true):=by
 have e:∀j:Nat,zj (j:Int) (K++[((i:Int),x)])=if j=i then some x else zj (j:Int) K:=by
  intro j;rw[← Xw hn,Oa];by_cases h:j=i
  ·rw[iJ h,iJ (by rw[h])]
  ·rw[iQ h,iQ omQ]
 apply List.ext_getElem?;intro j;rw[List.getElem?_set,Jx];by_cases hj:j<sz
 ·rw[QJ hj];by_cases h:i=j
  ·subst h;rw[iJ rfl,iJ hi];unfold gC;rw[e,iJ rfl]
  ·rw[iQ h,QJ hj];unfold gC;rw[e,iQ omQ]
 ·rw[List.getElem?_eq_none (by rw[Jx];omega),iQ omQ,List.getElem?_eq_none (by rw[Jx];omega)]
def ViewC (v:Nat) (M:VM):SP:=.ex λfv=>.ex λov=>.ex λq=>.ex λe=>.all [qk v [fv,ov,.ptr q 0,.int .i64 M.need],qA e 2 M.sz fv ((yM M.sz M.K).flatMap QM),
 qA 3 1 M.K.length ov (M.K.map λc=>.int .i64 c.1),LgC q M.most M.lv]
theorem ViewC.E {v:Nat} {M:VM} (H:HS g h (ViewC v M::R)):∃fv ov q e,HS g h (qk v [fv,ov,.ptr q 0,.int .i64 M.need]::qA e 2 M.sz fv ((yM M.sz M.K).flatMap QM)::
  qA 3 1 M.K.length ov (M.K.map λc=>.int .i64 c.1)::LgC q M.most M.lv::R):=by
 obtain⟨fv,H⟩:=H.exE;obtain⟨ov,H⟩:=H.exE;obtain⟨q,H⟩:=H.exE;obtain⟨e,H⟩:=H.exE;exact⟨fv,ov,q,e,H.allE⟩
theorem ViewC.I {v:Nat} {M:VM} {fv ov:AV} {q:Nat} {e:TypeId} (H:HS g h (qk v [fv,ov,.ptr q 0,.int .i64 M.need]::qA e 2 M.sz fv ((yM M.sz M.K).flatMap QM)::
  qA 3 1 M.K.length ov (M.K.map λc=>.int .i64 c.1)::LgC q M.most M.lv::R)):HS g h (ViewC v M::R) :=
 HS.exI fv (HS.exI ov (HS.exI q (HS.exI e (HS.allI H))))
def szZ (n:Int):Nat:=(max 32 (min n 256)).toNat
theorem Ze (n:Int):32≤szZ n∧szZ n≤256:=by unfold szZ;omega
def Ni (words most:Int):VM:=⟨szZ words,[],(max 0 (min most 96)).toNat,[([],[])],0⟩
theorem qXP {m:Nat} (hm:m≤96):OkL m [([],[])]:=⟨by simp[yl],hm,by intro x hx;simp at hx;subst hx;intro c hc;simp at hc,by intro x hx;simp at hx;subst hx;exact List.nodup_nil,by simp,by simp⟩
theorem qzr (words most:Int):OkV (Ni words most) :=
 ⟨(Ze _).1,(Ze _).2,qXP (by show(max 0 (min most 96)).toNat≤96;omega),by intro c hc;simp[Ni]at hc,List.nodup_nil,by intro x hx;simp[Ni]at hx;subst hx;simp⟩
theorem qvF {n:Nat} (hn:4≤n) {w m:Int} (H:HS g h R):t_w n 133 [.int .i64 w,.int .i64 m] h λr h'=>∃v,r=.ptr v 0∧HS g h' (ViewC v (Ni w m)::R):=by
 refine t_e2 (S:=S133) rfl omQ λk hk=>?_;unfold S133;try simp only[iZ]
 refine zZ (ze ?_);have hb:=Ze w;rw[show max ((32:Nat):Int) (min w ((256:Nat):Int))=((szZ w:Nat):Int) by unfold szZ;omega];refine YS (sz:=2) H rfl (Nat.le_refl _) omQ λfv h2 H2=>?_;refine qW (qz8 omQ H2) ?_;rintro _ h3 ⟨q,rfl,H3⟩;have h1:=H3.one e_1;refine qH (l:=[fv,.nils,.ptr q 0,.int .i64 0]) (by unfold yB;rw[h1.1];rfl) ?_;refine qI H3 (by show(fv.one&&(true&&(true&&(true&&true))))=true;rw[h1.2];rfl) λv h4 H4=>qq ⟨v,rfl,?_⟩;rw[List.take_of_length_le (by rw[wc];exact Nat.le_refl _),show vY [AV.int .u64 ((0:Nat):Int),AV.bool false] (szZ w)=(yM (szZ w) []).flatMap QM by rw[qJr,← qK9];rfl]at H4;exact ViewC.I (M:=Ni w m) ((H4.nils (e:=3) (sz:=1)).sub (.cons e_1 (.cons e_2 (.cons .here (.cons .here (.refl))))))
theorem Ux {n:Nat} (hn:1≤n) {v:Nat} {M:VM} (H:HS g h (ViewC v M::R)):t_w n 198 [.ptr v 0] h λr h'=>r=.int .i64 (M.sz:Int)∧h'=h:=by
 refine t_e1 (S:=S198) rfl omQ λk hk=>?_;unfold S198;try simp only[iZ]
 obtain⟨fv,ov,q,e,H⟩:=ViewC.E H;refine qG (qQ (qX ‹_› .here rfl ?_));refine qi ‹_› e_1 ?_;exact qq ⟨rfl,rfl⟩
theorem Nr {n:Nat} (hn:1≤n) {v:Nat} {M:VM} {p:Int} (H:HS g h (ViewC v M::R)):t_w n 200 [.ptr v 0,.int .i64 p] h λr h'=>r=.bool (decide (1≤p∧p<M.sz))∧h'=h:=by
 refine t_e2 (S:=S200) rfl omQ λk hk=>?_;unfold S200;try simp only[iZ]
 obtain⟨fv,ov,q,e,H⟩:=ViewC.E H;by_cases h1:1≤p
 ·refine zv omQ ?_;refine qV ?_;(try dsimp only);refine qa ?_;(try dsimp only);refine qG (qQ (qX ‹_› .here rfl ?_));refine qi ‹_› e_1 ?_
  refine kF (qE (qq ⟨?_,rfl⟩))
  congr 1
  exact decide_eq_decide.2 ⟨λh2=>⟨h1,h2⟩,λh2=>h2.2⟩
 ·refine zK omQ ?_;refine qV ?_;(try dsimp only);refine qR ?_;(try dsimp only);refine qC ?_
  exact qq ⟨by rw[iV (λh2=>h1 h2.1)],rfl⟩
theorem Z6 {M:VM} {p x:Int} (O:OkV M):OkV (yC M p x).2:=by
 unfold yC
 split
 ·rename_i hp
  split
  ·exact O
  ·rename_i hn;refine⟨O.lo,O.hi,O.lvs,?_,?_,O.fr⟩
   ·intro c hc;rcases List.mem_append.1 hc with hc |hc
    ·exact O.ins c hc
    ·rw[List.mem_singleton]at hc;subst hc;exact hp
   ·have:=O.un.put (p:=p) (v:=x);rw[Xw hn]at this;exact this
 ·exact O
theorem qqL {n:Nat} (hn:2≤n) {v:Nat} {M:VM} {p x:Int} (H:HS g h (ViewC v M::R)) (O:OkV M) :
  t_w n 179 [.ptr v 0,.int .i64 p,.int .u64 x] h λr h'=>r=.int .i64 (yC M p x).1∧HS g h' (ViewC v (yC M p x).2::R):=by
 refine t_e3 (S:=S179) rfl omQ λk hk=>?_;unfold S179;try simp only[iZ]
 refine qW (Nr omQ H) ?_;rintro _ _ ⟨rfl,rfl⟩;have hO:=O.hi;unfold yC;by_cases hp:1≤p∧p<M.sz
 ·rw[iJ hp];rw[iG hp];obtain⟨i,rfl⟩:∃i:Nat,p=(i:Int):=⟨p.toNat,by omega⟩;have hi:i<M.sz:=by omega
  have hH:=H;obtain⟨fv,ov,q,e,H⟩:=ViewC.E H;refine jW (qJ (qG (qQ (qX ‹_› .here rfl ?_))));refine zH (l:=QM (gC M.K i)) (H.sl e_1) hi omQ (vk (enc:=QM) (sz:=2) (λ_=>rfl) (QJ hi)) ?_;refine qI H rfl λb h3 H3=>qd H3 .here rfl (by show 0+2≤2;omega) rfl λh4 H4=>?_
  have H5:HS g h4 (qk b (QM (gC M.K i))::qk v [fv,ov,.ptr q 0,.int .i64 M.need]::qA e 2 M.sz fv ((yM M.sz M.K).flatMap QM)::
   qA 3 1 M.K.length ov (M.K.map λc=>.int .i64 c.1)::LgC q M.most M.lv::R):=H4
  unfold QM at H5;cases hg:zj (i:Int) M.K with
  |some y=>
   rw[show gC M.K i=(y,true) by unfold gC;rw[hg]]at H5;refine qQ (qX ‹_› .here rfl ?_);refine qZ (qQ (qX ‹_› .here rfl ?_));have H6:=ViewC.I (H5.drop);by_cases hy:y=x
   ·refine q8 omQ ?_;refine qJ (qq ⟨by dsimp only;rw[iJ hy];rfl,H6⟩)
   ·refine qu omQ ?_;refine qZ (qq ⟨by dsimp only;rw[iQ hy];rfl,H6⟩)
  |none=>
   rw[show gC M.K i=(0,false) by unfold gC;rw[hg]]at H5;have hkl:=O.klen;refine qQ (qX ‹_› .here rfl ?_);refine qJ (qG (qQ (qX ‹_› e_1 rfl ?_)));refine qH rfl ?_;refine qJM (l:=[.int .u64 x,.bool true]) (H5.drop.sel (P:=qA e 2 M.sz fv ((yM M.sz M.K).flatMap QM)) e_1) hi rfl rfl λh6 H6=>?_
   rw[show kT ((yM M.sz M.K).flatMap QM) (i*2) [AV.int .u64 x,AV.bool true]=(yM M.sz (M.K++[((i:Int),x)])).flatMap QM by
    rw[qZC hi hg,← M3 (enc:=QM) (sz:=2) (λ_=>rfl) (by rw[Jx];exact hi)];rfl]at H6
   refine qG (qQ (qX ‹_› e_1 rfl ?_));refine qe (n:=1) (l:=[.int .i64 (i:Int)]) (sz:=1) H6 rfl rfl rfl rfl λv7 h7 H7=>?_;refine jR (H7.sel (P:=qA 3 1 M.K.length ov (M.K.map λc=>.int .i64 c.1)) e_3) (H7.sl .here) omQ omQ rfl λv8 h8 H8=>?_;refine qG (qQ (qg H8 e_3 (H8.one .here) osQ λh9 H9=>qq ⟨rfl,ViewC.I (M:={ M with K:=M.K++[((i:Int),x)] }) (fv:=fv) (ov:=v8) (q:=q) (e:=e) ?_⟩));rw[List.map_append,List.length_append];exact H9.sub (.cons .here (.cons e_2 (.cons .here (.cons e_1 (.drop (.refl))))))
 ·rw[iQ hp,iV hp];refine jk (qZ ?_);exact qq ⟨rfl,H⟩
theorem xO {M:VM} {p:Int} (O:OkV M):OkV (qf M p).2:=by
 unfold qf
 repeat' split
 all_goals exact⟨O.lo,O.hi,O.lvs,O.ins,O.un,O.fr⟩
theorem Qn {n:Nat} (hn:9≤n) {v:Nat} {M:VM} {p:Int} (H:HS g h (ViewC v M::R)) (O:OkV M) :
  t_w n 167 [.ptr v 0,.int .i64 p] h λr h'=>r=.tup [.int .u64 (qf M p).1.1,.int .i64 (qf M p).1.2]∧HS g h' (ViewC v (qf M p).2::R):=by
 refine t_e2 (S:=S167) rfl omQ λk hk=>?_;unfold S167;try simp only[iZ]
 refine qW (Nr omQ H) ?_;rintro _ _ ⟨rfl,rfl⟩;have hO:=O.hi;unfold qf;by_cases hp:1≤p∧p<M.sz
 ·rw[iJ hp];rw[iG hp];obtain⟨i,rfl⟩:∃i:Nat,p=(i:Int):=⟨p.toNat,by omega⟩;have hi:i<M.sz:=by omega
  obtain⟨fv,ov,q,e,H⟩:=ViewC.E H;refine jW (qJ (qG (qQ (qX ‹_› .here rfl ?_))));refine qW (qx5 omQ (H.sel (P:=LgC q M.most M.lv) e_3) O.lvs) ?_;rintro _ h2 ⟨rfl,H2⟩;refine qy rfl ?_;refine qy rfl ?_;cases hl:Yi (i:Int) M.lv with
  |some y=>simp only[Option.isSome_some,Option.getD_some];refine qZ ?_;exact qq ⟨rfl,ViewC.I (H2.sub (.cons e_1 (.cons e_1 (.cons e_1 (.refl)))))⟩
  |none=>
   simp only[Option.isSome_none];refine qJ (qG (qQ (qX ‹_› e_1 rfl ?_)));refine zH (l:=QM (gC M.K i)) (H2.sl e_2) hi omQ (vk (enc:=QM) (sz:=2) (λ_=>rfl) (QJ hi)) ?_;refine qI H2 rfl λb h3 H3=>qd H3 .here rfl (by show 0+2≤2;omega) rfl λh4 H4=>?_
   have H5:HS g h4 (qk b (QM (gC M.K i))::LgC q M.most M.lv::qk v [fv,ov,.ptr q 0,.int .i64 M.need]::qA e 2 M.sz fv ((yM M.sz M.K).flatMap QM)::
    qA 3 1 M.K.length ov (M.K.map λc=>.int .i64 c.1)::R):=H4
   unfold QM at H5;cases hg:zj (i:Int) M.K with
   |some y=>rw[show gC M.K i=(y,true) by unfold gC;rw[hg]]at H5;refine qQ (qX ‹_› .here rfl ?_);refine qZ (qQ (qX ‹_› .here rfl ?_));exact qq ⟨rfl,ViewC.I (H5.drop.sub (.cons e_1 (.cons e_1 (.cons e_1 (.refl)))))⟩
   |none=>rw[show gC M.K i=(0,false) by unfold gC;rw[hg]]at H5;refine qQ (qX ‹_› .here rfl ?_);refine qJ (qG (qQ ?_));refine qg H5 (b:=v) e_2 ⟨rfl,rfl⟩ osQ λh9 H9=>qq ⟨rfl,ViewC.I (M:={ M with need:=(i:Int) }) (fv:=fv) (ov:=ov) (q:=q) (e:=e) (H9.sub (.cons .here (.cons e_2 (.cons e_2 (.cons e_1 (.drop (.refl)))))))⟩
 ·rw[iQ hp,iV hp];refine jk (qZ ?_);exact qq ⟨rfl,H⟩
theorem qxh {most:Nat} {lv:List LvM} {p v:Int} {n:Nat} (h:∀x∈lv,x.2.length<n):∀x∈(gX most lv p v).2,x.2.length<n:=by
 cases lv with
 |nil=>exact h
 |cons y r=>
  obtain⟨c,hc⟩:=GH (most:=most) (x:=y) (r:=r) (p:=p) (v:=v);rw[hc];intro x hx;rcases List.mem_cons.1 hx with rfl |hx
  ·exact h y (iK ..)
  ·exact h x (iX _ hx)
theorem qWl {most:Nat} {was:List LvM} {n:Nat} (hw:∀x∈was,x.2.length<n):∀{cs:List Cl} {lv:List LvM},(∀x∈lv,x.2.length<n)→∀x∈(vT most was lv cs).2,x.2.length<n:=by
 intro cs
 induction cs with
 |nil=>intro lv h;exact h
 |cons c cs ih=>
  intro lv h;rw[gK]
  split
  ·exact ih (qxh h)
  ·exact hw
theorem OI {M:VM} {cs:List Cl} (O:OkV M):OkV (ju M cs).2:=by
 unfold ju
 split
 ·exact⟨O.lo,O.hi,(O1 O.lvs O.lvs rfl).1,O.ins,O.un,qWl O.fr O.fr⟩
 ·exact O
theorem Y4 {n:Nat} (hn:8≤n) {v:Nat} {M:VM} {cs:List Cl} {c:AV} (H:HS g h (ViewC v M::R)) (O:OkV M) (S:Rd g R 2 cs.length c (cs.flatMap jL)) (hc:cs.length<100000) :
  t_w n 169 [.ptr v 0,c] h λr h'=>r=.int .i64 (ju M cs).1∧HS g h' (ViewC v (ju M cs).2::R):=by
 refine t_e2 (S:=S169) rfl omQ λk hk=>?_;unfold S169;try simp only[iZ]
 refine xC (S.sl H.drop) ?_;refine jw (λk s h'=>∃i:Nat,s=(.int .i64 (i:Int),.int .i64 (cs.length:Int),c,c,.ptr v 0,())∧i≤cs.length∧k=cs.length-i∧HS g h' (ViewC v M::R)∧∀j,j<i→∀d,cs[j]? =some d→1≤d.1∧d.1<M.sz)
  ?_ (m:=cs.length) (by show _<1000000000;omega) ⟨0,rfl,by omega,by omega,H,λj hj=>by omega⟩
 rintro k2 ih s h2 hih ⟨i,rfl,h1,rfl,H,hno⟩;dsimp only;refine z7 (λhlt=>qZ ?_) λhge=>qJ ?_
 ·have hi:i<cs.length:=by omega
  have hci:cs[i]? =some cs[i]:=iW hi;refine zH (l:=jL cs[i]) (S.sl H.drop) hi omQ (Gq hci) ?_;refine qI H rfl λb h3 H3=>qd H3 .here rfl (by show 0+2≤2;omega) rfl λh4 H4=>?_;have H5:HS g h4 (qk b (jL cs[i])::ViewC v M::R):=H4;unfold jL at H5;refine qQ (qX ‹_› .here rfl ?_);refine qW (Nr omQ H5.drop) ?_;rintro _ _ ⟨rfl,rfl⟩;by_cases hin:1≤cs[i].1∧cs[i].1<M.sz
  ·rw[iG hin];refine jW (qJ (qb omQ ?_));refine hih (cs.length-(i+1)) _ _ omQ ⟨i+1,rfl,by omega,rfl,H5.drop,λj hj d hd=>?_⟩;by_cases hj':j<i
   ·exact hno j hj' d hd
   ·obtain rfl:j=i:=by omega
    rw[hci]at hd;cases hd;exact hin
  ·rw[iV hin];refine jk (qZ (qx ?_));unfold ju;rw[iQ (λh=>hin (h _ (List.getElem_mem hi)))];exact qq ⟨rfl,H5.drop⟩
 ·have hall:∀d∈cs,1≤d.1∧d.1<M.sz:=by
   intro d hd;obtain⟨j,hj⟩:=List.getElem?_of_mem hd;exact hno j (by have:=(List.getElem?_eq_some_iff.1 hj).1;omega) d hj
  obtain⟨fv,ov,q,e,H⟩:=ViewC.E H;refine qG (qQ (qX ‹_› .here rfl ?_));refine qW (qYf omQ (H.sel (P:=LgC q M.most M.lv) e_3) O.lvs (S.more.more.more) hc) ?_;rintro _ h4 ⟨rfl,H4⟩;unfold ju;rw[iJ hall];exact qx (qq ⟨rfl,ViewC.I (M:={ M with lv:=(vT M.most M.lv M.lv cs).2 }) (fv:=fv) (ov:=ov) (q:=q) (e:=e) (H4.sub (.cons e_1 (.cons e_1 (.cons e_1 (.refl)))))⟩)
theorem qYR {n:Nat} (hn:4≤n) {v:Nat} {M:VM} (H:HS g h (ViewC v M::R)) (O:OkV M) :
  t_w n 301 [.ptr v 0] h λr h'=>r=.int .i64 (yp M).1∧HS g h' (ViewC v (yp M).2::R):=by
 refine t_e1 (S:=S301) rfl omQ λk hk=>?_;unfold S301;try simp only[iZ]
 obtain⟨fv,ov,q,e,H⟩:=ViewC.E H;refine qG (qQ (qX ‹_› .here rfl ?_));refine qW (qY2 omQ (H.sel (P:=LgC q M.most M.lv) e_3) O.lvs) ?_;rintro _ h2 ⟨rfl,H2⟩;exact qq ⟨rfl,ViewC.I (M:=(yp M).2) (fv:=fv) (ov:=ov) (q:=q) (e:=e) (H2.sub (.cons e_1 (.cons e_1 (.cons e_1 (.cons .here (.refl))))))⟩
theorem N9 {n:Nat} (hn:2≤n) {v:Nat} {M:VM} (H:HS g h (ViewC v M::R)) (O:OkV M) :
  t_w n 237 [.ptr v 0] h λr h'=>r=.int .i64 (xx M).1∧HS g h' (ViewC v (xx M).2::R):=by
 refine t_e1 (S:=S237) rfl omQ λk hk=>?_;unfold S237;try simp only[iZ]
 obtain⟨fv,ov,q,e,H⟩:=ViewC.E H;refine qG (qQ (qX ‹_› .here rfl ?_));refine qW (Od omQ (H.sel (P:=LgC q M.most M.lv) e_3) O.lvs) ?_;rintro _ h2 ⟨rfl,H2⟩;exact qq ⟨rfl,ViewC.I (M:=(xx M).2) (fv:=fv) (ov:=ov) (q:=q) (e:=e) (H2.sub (.cons e_1 (.cons e_1 (.cons e_1 (.cons .here (.refl))))))⟩
theorem Zt {n:Nat} (hn:7≤n) {v:Nat} {M:VM} (H:HS g h (ViewC v M::R)) (O:OkV M) :
  t_w n 235 [.ptr v 0] h λr h'=>r=.int .i64 (vF M).1∧HS g h' (ViewC v (vF M).2::R):=by
 refine t_e1 (S:=S235) rfl omQ λk hk=>?_;unfold S235;try simp only[iZ]
 obtain⟨fv,ov,q,e,H⟩:=ViewC.E H;refine qG (qQ (qX ‹_› .here rfl ?_));refine qW (qqn omQ (H.sel (P:=LgC q M.most M.lv) e_3) O.lvs λx hx=>Nat.lt_trans (O.fr x hx) omQ) ?_;rintro _ h2 ⟨rfl,H2⟩;exact qq ⟨rfl,ViewC.I (M:=(vF M).2) (fv:=fv) (ov:=ov) (q:=q) (e:=e) (H2.sub (.cons e_1 (.cons e_1 (.cons e_1 (.cons .here (.refl))))))⟩
theorem qYD {n:Nat} (hn:3≤n) {v:Nat} {M:VM} {b:Int} (H:HS g h (ViewC v M::R)) (O:OkV M) :
  t_w n 300 [.ptr v 0,.int .i64 b] h λ_ h'=>HS g h' (ViewC v (freeV M b)::R):=by
 refine t_e2 (S:=S300) rfl omQ λk hk=>?_;unfold S300;try simp only[iZ]
 obtain⟨fv,ov,q,e,H⟩:=ViewC.E H;refine qG (qQ (qX ‹_› .here rfl ?_));refine qW (qGp omQ (H.sel (P:=LgC q M.most M.lv) e_3) O.lvs λx hx=>Nat.lt_trans (O.fr x hx) omQ) ?_;intro _ h2 H2;exact qq (ViewC.I (M:=freeV M b) (fv:=fv) (ov:=ov) (q:=q) (e:=e) (H2.sub (.cons e_1 (.cons e_1 (.cons e_1 (.cons .here (.refl)))))))
theorem U5 {n:Nat} (hn:1≤n) {v:Nat} {M:VM} (H:HS g h (ViewC v M::R)) :
  t_w n 116 [.ptr v 0] h λr h'=>r=.int .i64 M.need∧h'=h:=by
 refine t_e1 (S:=S116) rfl omQ λk hk=>?_;unfold S116;try simp only[iZ]
 obtain⟨fv,ov,q,e,H⟩:=ViewC.E H;refine qG (qQ (qX ‹_› .here rfl ?_));exact qq ⟨rfl,rfl⟩
theorem Vs {n:Nat} (hn:10≤n) {v:Nat} {M:VM} (H:HS g h (ViewC v M::R)) (O:OkV M) :
  t_w n 118 [.ptr v 0] h λr h'=>HS g h' (qA 177 2 (jn M.lv).length r ((jn M.lv).flatMap jL)::ViewC v M::R):=by
 refine t_e1 (S:=S118) rfl omQ λk hk=>?_;unfold S118;try simp only[iZ]
 obtain⟨fv,ov,q,e,H⟩:=ViewC.E H;refine qG (qQ (qX ‹_› .here rfl ?_));refine qW (qKD omQ (H.sel (P:=LgC q M.most M.lv) e_3) O.lvs) ?_;intro r h2 H2;refine qq ?_;have H3:=ViewC.I (v:=v) (M:=M) (fv:=fv) (ov:=ov) (q:=q) (e:=e) (R:=qA 177 2 (jn M.lv).length r ((jn M.lv).flatMap jL)::R) (H2.sub (.cons e_2 (.cons e_2 (.cons e_2 (.cons e_1 (.refl))))));exact H3.sub (.cons e_1 (.refl))
theorem qGD {n:Nat}:∀{l:List LvM},(∀x∈l,x.2.length<n)→(l.flatMap (·.2)).length≤l.length*n:=by
 intro l h
 induction l with
 |nil=>simp
 |cons x r ih=>have h1:=h x (iK ..);have h2:=ih λy hy=>h y (iX _ hy);rw[List.flatMap_cons,List.length_append,List.length_cons,Nat.add_mul,Nat.one_mul];omega
theorem qQ6 {n:Nat} {lv:List LvM} (h:∀x∈lv,x.2.length<n):(wV lv).length≤lv.length*n:=by have:=qGD (l:=lv.reverse) (n:=n) λx hx=>h x (List.mem_reverse.1 hx);rw[List.length_reverse]at this;exact this
theorem qKS {n:Nat} (hn:2≤n) {v:Nat} {M:VM} (H:HS g h (ViewC v M::R)) (O:OkV M) :
  t_w n 126 [.ptr v 0] h λr h'=>HS g h' (qA 3 1 (wV M.lv).length r ((wV M.lv).map (.int .i64))::ViewC v M::R):=by
 refine t_e1 (S:=S126) rfl omQ λk hk=>?_;unfold S126;try simp only[iZ]
 obtain⟨fv,ov,q,e,H⟩:=ViewC.E H;refine qG (qQ (qX ‹_› .here rfl ?_));have hfl:=qQ6 O.fr;have hd:=O.lvs.deep;refine qW (qGC omQ (H.sel (P:=LgC q M.most M.lv) e_3) O.lvs omQ) ?_;intro r h2 H2;refine qq ?_;have H3:=ViewC.I (v:=v) (M:=M) (fv:=fv) (ov:=ov) (q:=q) (e:=e) (R:=qA 3 1 (wV M.lv).length r ((wV M.lv).map (.int .i64))::R) (H2.sub (.cons e_2 (.cons e_2 (.cons e_2 (.cons e_1 (.refl))))));exact H3.sub (.cons e_1 (.refl))
def kf (zs:List Int) (i:Nat):Int:=zs[i]?.getD 0
def kW (zs:List Int):List Cl:=(List.range (szZ zs.length-1)).map λi=>(((i+1:Nat):Int),kf zs (i+1))
def w6 (zs:List Int) (most:Int):VM:=⟨szZ zs.length,kW zs,(max 0 (min most 96)).toNat,[([],[])],0⟩
theorem qY3 (zs:List Int):(kW zs).length=szZ zs.length-1:=by simp[kW]
theorem qQ1 (zs:List Int) {i:Nat} (hi:i+1<szZ zs.length):(kW zs)[i]? =some (((i+1:Nat):Int),kf zs (i+1)):=by unfold kW;rw[List.getElem?_map,List.getElem?_range omQ];rfl
theorem qj6 (zs:List Int) {i:Nat} {p:Int} (hp:(i:Int)<p):zj p ((kW zs).take i)=none:=by rw[OT];intro hm;obtain⟨c,hc,he⟩:=List.mem_map.1 hm;obtain⟨j,hj⟩:=List.getElem?_of_mem hc;have hjl:=(List.getElem?_eq_some_iff.1 hj).1;simp[qY3]at hjl;rw[List.getElem?_take_of_lt omQ,qQ1 zs omQ]at hj;cases hj;dsimp only at he;omega
def preV (zs:List Int) (most:Int) (i:Nat):VM:={ w6 zs most with K:=(kW zs).take i }
theorem qz7 (zs:List Int) (most:Int) (i:Nat):OkV (preV zs most i):=by
 have hb:=Ze (zs.length:Int);refine⟨hb.1,hb.2,qXP (by show(max 0 (min most 96)).toNat≤96;omega),?_,?_,by intro x hx;simp[preV,w6]at hx;subst hx;simp⟩
 ·intro c hc;obtain⟨j,hj⟩:=List.getElem?_of_mem (List.mem_of_mem_take hc);have hjl:=(List.getElem?_eq_some_iff.1 hj).1;rw[qY3]at hjl;rw[qQ1 zs omQ]at hj;cases hj;show 1≤((j+1:Nat):Int)∧((j+1:Nat):Int)<((szZ zs.length:Nat):Int);omega
 ·show((((kW zs).take i).map (·.1))).Nodup;refine List.Nodup.sublist ((List.take_sublist i _).map _) ?_;unfold kW;rw[List.map_map];refine List.Pairwise.map _ ?_ (List.nodup_range (n:=szZ zs.length-1));intro a b hab;simp;omega
theorem qVo (zs:List Int) (most:Int):OkV (w6 zs most):=by have:=qz7 zs most (kW zs).length;unfold preV at this;rw[List.take_length]at this;exact this
end
section
abbrev qO:Type:=Int×Int×Int×Int×Int
def jX (x:qO):List AV:=[.int .i64 x.1,.int .i64 x.2.1,.int .i64 x.2.2.1,.int .i64 x.2.2.2.1,.int .u64 x.2.2.2.2]
theorem Gn (l:List qO):qo (l.flatMap jX)=true:=by unfold qo;rw[List.all_eq_true];intro v hv;obtain⟨c,_,hc⟩:=List.mem_flatMap.1 hv;simp[jX]at hc;rcases hc with rfl |rfl |rfl |rfl |rfl<;>rfl
def jA (op:Int):(Int×Int)×(Int×Int)×(Int×Int) :=
 if op=1∨op=11∨op=21 then((0,7),(0,0),(0,0))
 else if op=2∨op=10 then((0,7),(0,7),(0,0))
 else if op=3∨op=4∨op=5∨op=6∨op=7 then((0,7),(0,7),(0,7))
 else if op=8∨op=9 then((0,7),(0,7),(0,15))
 else if op=12 then((0,0),(0,0),(0,40))
 else if op=13 then((0,7),(0,0),(0,40))
 else if op=23 then((1,12),(0,7),(0,6))
 else((0,0),(0,0),(0,0))
def vU (f:Int×Int) (n:Int):Bool:=decide (f.1≤n∧n≤f.2)
def ve (x:qO):Bool:=decide (1≤x.1∧x.1≤23)&&vU (jA x.1).1 x.2.1&&vU (jA x.1).2.1 x.2.2.1&&vU (jA x.1).2.2 x.2.2.2.1&&decide (x.2.2.2.2=0∨x.1=1)
def zi (op:Int):Bool:=decide (op=14∨op=17)
def jb (op:Int):Int:=if op=15 then 14 else if op=18 then 17 else if op=19 then 18 else 0
def qs (st:List Int):Int:=st.getLast?.getD (-1)
def qL (l:List qO) (i:Int):qO:=(l[i.toNat]?).getD (0,0,0,0,0)
def opM (l:List qO) (st:List Int):Int:=if st=[]then 0 else(qL l (qs st)).1
def zB (l:List qO) (st:List Int) (x:qO):Int :=
 if ve x=false then 8
 else if 0<jb x.1∧opM l st≠jb x.1 then 12
 else if x.1=16∧opM l st≠14 then 12
 else if zi x.1=true∧5≤st.length then 9
 else 0
def q9 (st:List Int) (i op:Int):List Int :=
 if zi op=true∨op=18 then(if 0<jb op then st.dropLast else st)++[i]else(if 0<jb op then st.dropLast else st)
def goM (l:List qO):List qO→Nat→List Int→(Int×Int) ⊕ List Int
 |[],_,st=>.inr st
 |x::r,i,st=>if zB l st x=0 then goM l r (i+1) (q9 st i x.1)else .inl (i,zB l st x)
def vI:List qO→Nat→List Int→List Int
 |[],_,_=>[]
 |x::r,i,st=>qs st::vI r (i+1) (q9 st i x.1)
def qM (a:List Int) (i:Int):Int:=(a[i.toNat]?).getD 0
def Ja (l:List qO) (a:List Int) (i:Nat) (x:qO):Prop :=
 (x.1=12∨x.1=13)∧((l.length:Int)<x.2.2.2.1∨(x.2.2.2.1=l.length∧qM a i≠ -1)∨(x.2.2.2.1<l.length∧qM a x.2.2.2.1≠qM a i))
instance {l:List qO} {a:List Int} {i:Nat} {x:qO}:Decidable (Ja l a i x):=by unfold Ja;infer_instance
def Jd (l:List qO) (a:List Int):List qO→Nat→Int×Int
 |[],_=>(0,0)
 |x::r,i=>if Ja l a i x then((i:Int),2)else Jd l a r (i+1)
def zt (l:List qO):Int×Int :=
 if l.length=0∨40<l.length then(0,4)
 else match goM l l 0 []with
  | .inl r=>r
  | .inr st=>if st=[]then Jd l (vI l 0 []) l 0 else(qs st,12)
def StOk (i:Nat) (st:List Int):Prop:=∀y∈st,0≤y∧y<(i:Int)
theorem StOk.nil {i:Nat}:StOk i []:=λ_ h=>by cases h
theorem StOk.dropLast {i:Nat} {st:List Int} (h:StOk i st):StOk i st.dropLast:=λy hy=>h y ((List.dropLast_sublist st).subset hy)
theorem StOk.behind {i:Nat} {st:List Int} {op:Int} (h:StOk i st):StOk (i+1) (q9 st i op):=by
 have h1:∀s,StOk i s→StOk (i+1) s:=λs hs y hy=>by have:=hs y hy;omega
 have h2:∀s,StOk i s→StOk (i+1) (s++[(i:Int)]):=by
  intro s hs y hy;rcases List.mem_append.1 hy with hy |hy
  ·exact h1 s hs y hy
  ·rw[List.mem_singleton]at hy;omega
 unfold q9
 repeat' split
 ·exact h2 _ h.dropLast
 ·exact h2 _ h
 ·exact h1 _ h.dropLast
 ·exact h1 _ h
theorem StOk.inmost {i:Nat} {st:List Int} (h:StOk i st) (hn:st≠[]):0≤qs st∧qs st<(i:Int):=by refine h _ ?_;unfold qs;rw[List.getLast?_eq_some_getLast hn];exact List.getLast_mem hn
theorem Kr (st:List Int) (i op:Int):(q9 st i op).length≤st.length+1:=by
 unfold q9
 repeat' split
 all_goals simp
 all_goals omega
theorem YX:qs []= -1:=rfl
theorem xK {l:List qO} {st:List Int} {x:qO} (h:zB l st x=0):ve x=true∧(0<jb x.1∨x.1=16→st≠[])∧(zi x.1=true→st.length<5):=by
 unfold zB at h
 split at h
 ·cases h
 ·rename_i h1
  split at h
  ·cases h
  ·rename_i h2
   split at h
   ·cases h
   ·rename_i h3
    split at h
    ·cases h
    ·rename_i h4
     refine⟨by simpa using h1,?_,λhb=>by
      by_cases h5:5≤st.length
      ·exact absurd ⟨hb,h5⟩ h4
      ·omega⟩
     rintro ho rfl;have h0:opM l []=0:=rfl;rw[h0]at h2 h3;rcases ho with ho |ho
     ·exact h2 ⟨ho,by omega⟩
     ·exact h3 ⟨ho,by omega⟩
theorem YH {l r:List qO} {x:qO} {i:Nat} {st:List Int}:goM l (x::r) i st=if zB l st x=0 then goM l r (i+1) (q9 st i x.1)else .inl (i,zB l st x):=rfl
theorem Ka:∀{r:List qO} {i:Nat} {st:List Int},(vI r i st).length=r.length:=by
 intro r
 induction r with
 |nil=>intro i st;rfl
 |cons x r ih=>intro i st;show(vI r (i+1) _).length+1=_;rw[ih];rfl
theorem qW9:∀{r:List qO} {i j:Nat} {st:List Int},j<r.length→∃s,(vI r i st)[j]? =some (qs s)∧(∀{l:List qO} {st':List Int},goM l r i st=.inr st'→StOk i st→StOk (i+j) s∧∀x,r[j]? =some x→zB l s x=0):=by
 intro r
 induction r with
 |nil=>intro i j st h;simp at h
 |cons x r ih=>
  intro i j st h;cases j with
  |zero=>
   refine⟨st,rfl,λ{l st'} hg hs=>⟨hs,?_⟩⟩;intro y hy;simp at hy;subst hy;rw[YH]at hg
   split at hg
   ·assumption
   ·cases hg
  |succ j=>
   obtain⟨s,h1,h2⟩:=ih (i:=i+1) (j:=j) (st:=q9 st i x.1) (by simp at h;omega);refine⟨s,h1,λ{l st'} hg hs=>?_⟩;rw[YH]at hg
   split at hg
   ·have:=h2 hg hs.behind;rw[show i+1+j=i+(j+1) by omega]at this;exact this
   ·cases hg
end
section
variable {g h:AH} {L R:List SP}
theorem Qx {D:Nat→Prop} {sz n:Nat} {v:AV} {xs:List AV} (S:Sl D h sz n v xs):One v:=by cases S<;>exact⟨rfl,rfl⟩
theorem vJ {v:AV} (o:One v):qo [v]=true:=by simp[qo,o.2]
theorem zA {g' ha:AH} {b off n nx:Nat} {xs ys l:List AV} {L2 R2:List SP} {K0:Go.Ae.R} {Q:AV→AH→Prop} (H:HS g h L) (s:Sel L (qk b xs) R) (hx:(xs.drop off).take n=l) (H2:HS g' ha L2) (s2:Sel L2 (qk b ys) R2) (hx2:(ys.drop off).take n=l) (hl:l.length=n) (h0:0<n) (hlt:b<nx)
  (w:wp K0 Q):wp (QR (.ptr b off) (some n) (.agg l) h ha nx K0) Q:=by
 obtain⟨e,A⟩:=H.obj s;obtain⟨e2,A2⟩:=H2.obj s2;exact qzi hl h0 (λi hi=>by rw[A.at,← hx,List.getElem?_take_of_lt hi,List.getElem?_drop]) (λi hi=>by rw[A2.at,← hx2,List.getElem?_take_of_lt hi,List.getElem?_drop]) hlt w
theorem ZU {u x:Bool} {r:AV} {K:AV→Go.Ae.R} {Q:AV→AH→Prop} (hr:u=true→r=.bool x) (w:wp (K (.bool (u&&x))) Q):wp (gp (.bool u) r (.bool false) K) Q:=by
 cases u
 ·exact w
 ·rw[hr rfl];exact w
end
section
variable {g h:AH} {L R:List SP}
theorem qvU {s:List UInt8} {K:AV→Go.Ae.R} {Q:AV→AH→Prop} {t:Bool} (ht:Oo .neq s []=some (.bool t)) (w:wp (K (.bool t)) Q):wp (Ng .neq (.str s) (.str []) K) Q:=by show wp (ob (Oo .neq s []) K) Q;rw[ht];exact w
theorem Yu {n:Nat} (hn:1≤n) {x:Int}:t_w n 163 [.int .i64 x] h λv h'=>v=.int .i64 (jb x)∧h'=h:=by
 refine t_e1 (S:=S163) rfl omQ λk hk=>?_;unfold S163;try simp only[iZ]
 repeat' (first |with_reducible refine qZ ?_ |with_reducible refine qJ ?_ |(with_reducible refine qa ?_;try dsimp only) |(with_reducible refine qp ?_;try dsimp only) |(with_reducible refine qR ?_;try dsimp only) |(with_reducible refine qc ?_;try dsimp only) |(with_reducible refine jt ?_;try dsimp only) |with_reducible refine qE ?_ |with_reducible refine qC ?_ |(with_reducible refine qV ?_;try dsimp only) |with_reducible refine qx ?_ |with_reducible refine jW ?_ |with_reducible refine jk ?_ |with_reducible refine qb omQ ?_ |with_reducible refine jr omQ ?_ |with_reducible refine yN omQ ?_ |with_reducible refine vo omQ ?_ |with_reducible refine zZ ?_ |with_reducible refine ze ?_ |with_reducible refine z7 (λhc=>?_) (λhc=>?_) |with_reducible refine wF (λhc=>?_) (λhc=>?_) |with_reducible refine wL (λhc=>?_) (λhc=>?_) |with_reducible refine yq (λhc=>?_) (λhc=>?_) |with_reducible refine vp (λhc=>?_) (λhc=>?_) |with_reducible refine vw (λhc=>?_) (λhc=>?_) |with_reducible refine gS (λhc=>?_) (λhc=>?_))
 all_goals refine qq ⟨?_,rfl⟩
 all_goals unfold jb
 all_goals congr 1
 all_goals (repeat' split)
 all_goals omega
theorem Kn {n:Nat} (hn:1≤n) {x:Int}:t_w n 191 [.int .i64 x] h λv h'=>v=.bool (zi x)∧h'=h:=by
 refine t_e1 (S:=S191) rfl omQ λk hk=>?_;unfold S191;try simp only[iZ]
 unfold zi;by_cases h1:x=14
 ·refine qz omQ ?_;refine qV ?_;(try dsimp only);refine qp ?_;(try dsimp only);refine qE ?_
  exact qq ⟨by rw[iG (.inl h1)],rfl⟩
 ·refine qK omQ ?_;refine qV ?_;(try dsimp only);refine qc ?_;(try dsimp only)
  refine Jt (qC ?_);exact qq ⟨by congr 1;exact decide_eq_decide.2 ⟨.inr,λh=>h.resolve_left h1⟩,rfl⟩
theorem qjo {n:Nat} (hn:1≤n) {x:Int}:t_w n 192 [.int .i64 x] h λv h'=>v=.bool (decide (x=12∨x=13))∧h'=h:=by
 refine t_e1 (S:=S192) rfl omQ λk hk=>?_;unfold S192;try simp only[iZ]
 by_cases h1:x=12
 ·refine qz omQ ?_;refine qV ?_;(try dsimp only);refine qp ?_;(try dsimp only);refine qE ?_
  exact qq ⟨by rw[iG (.inl h1)],rfl⟩
 ·refine qK omQ ?_;refine qV ?_;(try dsimp only);refine qc ?_;(try dsimp only)
  refine Jt (qC ?_);exact qq ⟨by congr 1;exact decide_eq_decide.2 ⟨.inr,λh=>h.resolve_left h1⟩,rfl⟩
theorem YZ {D:Nat→Prop} {n:Nat} (hn:1≤n) {st:List Int} {v:AV} (S:Sl D h 1 st.length v (st.map (.int .i64))) (hl:st.length<1000) :
  t_w n 160 [v] h λr h'=>r=.int .i64 (qs st)∧h'=h:=by
 refine t_e1 (S:=S160) rfl omQ λk hk=>?_;unfold S160;try simp only[iZ]
 refine xC S ?_;by_cases h0:st.length=0
 ·obtain rfl:=iA h0;refine qz omQ ?_;refine qZ ?_;exact qq ⟨rfl,rfl⟩
 ·refine qK omQ ?_;refine qJ (xC S ?_);refine jr omQ ?_;rw[show(st.length:Int)-((1:Nat):Int)=((st.length-1:Nat):Int) by omega];have hne:st≠[]:=by rintro rfl;exact h0 rfl
  refine jI S (x:=.int .i64 (qs st)) ?_ (qq ⟨rfl,rfl⟩);unfold qs;rw[List.getElem?_map,← List.getLast?_eq_getElem?,List.getLast?_eq_some_getLast hne];rfl
theorem Kt {n:Nat} (hn:1≤n) {f:Int×Int} {x:Int} (H:HS g h R):t_w n 213 [.agg [.int .i64 f.1,.int .i64 f.2],.int .i64 x] h λv h'=>v=.bool (vU f x)∧HS g h' R:=by
 refine t_e2 (S:=S213) rfl omQ λk hk=>?_;unfold S213;try simp only[iZ]
 refine qI H rfl λb h1 H1=>?_;unfold vU;by_cases c1:f.1≤x
 ·refine qQ (qX ‹_› .here rfl ?_);refine zv omQ ?_;refine qV ?_;(try dsimp only);refine qa ?_;(try dsimp only);refine qQ (qX ‹_› .here rfl ?_)
  refine Ml (qE ?_);exact qq ⟨by congr 1;exact decide_eq_decide.2 ⟨λh=>⟨c1,h⟩,λh=>h.2⟩,H1.drop⟩
 ·refine qQ (qX ‹_› .here rfl ?_);refine zK omQ ?_;refine qV ?_;(try dsimp only);refine qR ?_;(try dsimp only);refine qC ?_
  exact qq ⟨by rw[iV (λh=>c1 h.1)],H1.drop⟩
def vH (f:Int×Int):List AV:=[.int .i64 f.1,.int .i64 f.2]
theorem qQP {n:Nat} (hn:1≤n) {x:Int} (H:HS g h R):t_w n 211 [.int .i64 x] h λv h'=>v=.tup [.agg (vH (jA x).1),.agg (vH (jA x).2.1),.agg (vH (jA x).2.2)]∧HS g h' R:=by
 refine t_e1 (S:=S211) rfl omQ λk hk=>?_;unfold S211;try simp only[iZ]
 refine qI H rfl λb0 h1 H1=>?_;refine qI H1 rfl λb2 h2 H2=>?_;refine qI H2 rfl λb4 h3 H3=>?_;refine qH (l:=[.int .i64 ((0:Nat):Int),.int .i64 ((7:Nat):Int)]) rfl ?_;refine qI H3 rfl λb7 h4 H4=>?_;refine qd H4 (b:=b7) .here rfl osQ rfl λh5 H5=>?_;have H5:HS g h5 (qk b7 (vH (0,7))::qk b4 (vH (0,0))::qk b2 (vH (0,0))::qk b0 (vH (0,0))::R):=H5;clear H H1 H2 H3 H4;refine jd [] (λs h'=>s=(.ptr b4 0,.ptr b2 0,.ptr b0 0,())∧HS g h' (qk b0 (vH (jA x).1)::qk b2 (vH (jA x).2.1)::qk b4 (vH (jA x).2.2)::R)) ?_ ?_
 ·intro j hj;by_cases ha:x=1∨x=11∨x=21
  ·have e:jA x=((0,7),(0,0),(0,0)):=by unfold jA;rw[iJ ha]
   rw[e]at hj;rcases ha with rfl |rfl |rfl
   all_goals (first |with_reducible (refine qV ?_;(try dsimp only);refine qK omQ ?_;refine qJ ?_;refine qK omQ ?_;refine qJ ?_;refine qz omQ ?_;refine qZ ?_) |with_reducible (refine qV ?_;(try dsimp only);refine qK omQ ?_;refine qJ ?_;refine qz omQ ?_;refine qZ ?_;refine qZ ?_) |with_reducible (refine qV ?_;(try dsimp only);refine qz omQ ?_;refine qZ ?_;refine qZ ?_))
   all_goals refine qF H5 (b:=b7) (off:=0) .here rfl omQ rfl ?_
   all_goals refine qd H5 (b:=b0) e_3 rfl (by simp[vH]) rfl λh6 H6=>?_
   all_goals exact hj _ _ ⟨rfl,H6.sub (.cons .here (.cons e_2 (.cons e_1 (.drop .refl))))⟩
  by_cases hb:x=2∨x=10
  ·have e:jA x=((0,7),(0,7),(0,0)):=by unfold jA;rw[iQ ha,iJ hb]
   rw[e]at hj;rcases hb with rfl |rfl
   all_goals (first |with_reducible (refine qV ?_;(try dsimp only);refine qK omQ ?_;refine qJ ?_;refine qK omQ ?_;refine qJ ?_;refine qK omQ ?_;refine qJ ?_;refine qV ?_;(try dsimp only);refine qK omQ ?_;refine qJ ?_;refine qz omQ ?_;refine qZ ?_;refine qV ?_;(try dsimp only)) |with_reducible (refine qV ?_;(try dsimp only);refine qK omQ ?_;refine qJ ?_;refine qK omQ ?_;refine qJ ?_;refine qK omQ ?_;refine qJ ?_;refine qV ?_;(try dsimp only);refine qz omQ ?_;refine qZ ?_;refine qZ ?_;refine qV ?_;(try dsimp only)))
   all_goals refine qF H5 (b:=b7) (off:=0) .here rfl omQ rfl ?_
   all_goals refine qF H5 (b:=b7) (off:=0) .here rfl omQ rfl ?_
   all_goals refine qd H5 (b:=b0) e_3 rfl (by simp[vH]) rfl λh6 H6=>?_
   all_goals refine qd H6 (b:=b2) e_3 rfl (by simp[vH]) rfl λh7 H7=>?_
   all_goals refine zA H5 (b:=b7) .here rfl H6 e_1 rfl rfl omQ (HS.lt H5 .here) ?_
   all_goals exact hj _ _ ⟨rfl,H7.sub (.cons e_1 (.cons .here (.cons e_1 (.drop .refl))))⟩
  by_cases hc:x=3∨x=4∨x=5∨x=6∨x=7
  ·have e:jA x=((0,7),(0,7),(0,7)):=by unfold jA;rw[iQ ha,iQ hb,iJ hc]
   rw[e]at hj;rcases hc with rfl |rfl |rfl |rfl |rfl
   all_goals (first |with_reducible (refine qV ?_;(try dsimp only);refine qK omQ ?_;refine qJ ?_;refine qK omQ ?_;refine qJ ?_;refine qK omQ ?_;refine qJ ?_;refine qV ?_;(try dsimp only);refine qK omQ ?_;refine qJ ?_;refine qK omQ ?_;refine qJ ?_;refine qV ?_;(try dsimp only);refine qK omQ ?_;refine qJ ?_;refine qK omQ ?_;refine qJ ?_;refine qK omQ ?_;refine qJ ?_;refine qK omQ ?_;refine qJ ?_;refine qz omQ ?_;refine qZ ?_;refine qV ?_;(try dsimp only)) |with_reducible (refine qV ?_;(try dsimp only);refine qK omQ ?_;refine qJ ?_;refine qK omQ ?_;refine qJ ?_;refine qK omQ ?_;refine qJ ?_;refine qV ?_;(try dsimp only);refine qK omQ ?_;refine qJ ?_;refine qK omQ ?_;refine qJ ?_;refine qV ?_;(try dsimp only);refine qK omQ ?_;refine qJ ?_;refine qK omQ ?_;refine qJ ?_;refine qK omQ ?_;refine qJ ?_;refine qz omQ ?_;refine qZ ?_;refine qZ ?_;refine qV ?_;(try dsimp only)) |with_reducible (refine qV ?_;(try dsimp only);refine qK omQ ?_;refine qJ ?_;refine qK omQ ?_;refine qJ ?_;refine qK omQ ?_;refine qJ ?_;refine qV ?_;(try dsimp only);refine qK omQ ?_;refine qJ ?_;refine qK omQ ?_;refine qJ ?_;refine qV ?_;(try dsimp only);refine qK omQ ?_;refine qJ ?_;refine qK omQ ?_;refine qJ ?_;refine qz omQ ?_;refine qZ ?_;refine qZ ?_;refine qV ?_;(try dsimp only)) |with_reducible (refine qV ?_;(try dsimp only);refine qK omQ ?_;refine qJ ?_;refine qK omQ ?_;refine qJ ?_;refine qK omQ ?_;refine qJ ?_;refine qV ?_;(try dsimp only);refine qK omQ ?_;refine qJ ?_;refine qK omQ ?_;refine qJ ?_;refine qV ?_;(try dsimp only);refine qK omQ ?_;refine qJ ?_;refine qz omQ ?_;refine qZ ?_;refine qZ ?_;refine qV ?_;(try dsimp only)) |with_reducible (refine qV ?_;(try dsimp only);refine qK omQ ?_;refine qJ ?_;refine qK omQ ?_;refine qJ ?_;refine qK omQ ?_;refine qJ ?_;refine qV ?_;(try dsimp only);refine qK omQ ?_;refine qJ ?_;refine qK omQ ?_;refine qJ ?_;refine qV ?_;(try dsimp only);refine qz omQ ?_;refine qZ ?_;refine qZ ?_;refine qV ?_;(try dsimp only)))
   all_goals refine qF H5 (b:=b7) (off:=0) .here rfl omQ rfl ?_
   all_goals refine qF H5 (b:=b7) (off:=0) .here rfl omQ rfl ?_
   all_goals refine qF H5 (b:=b7) (off:=0) .here rfl omQ rfl ?_
   all_goals refine qd H5 (b:=b0) e_3 rfl (by simp[vH]) rfl λh6 H6=>?_
   all_goals refine qd H6 (b:=b2) e_3 rfl (by simp[vH]) rfl λh7 H7=>?_
   all_goals refine qd H7 (b:=b4) e_3 rfl (by simp[vH]) rfl λh8 H8=>?_
   all_goals refine zA H6 (b:=b7) e_1 rfl H7 e_2 rfl rfl omQ (HS.lt H5 .here) ?_
   all_goals refine zA H5 (b:=b7) .here rfl H6 e_1 rfl rfl omQ (HS.lt H5 .here) ?_
   all_goals refine zA H5 (b:=b7) .here rfl H6 e_1 rfl rfl omQ (HS.lt H5 .here) ?_
   all_goals exact hj _ _ ⟨rfl,H8.sub (.cons e_2 (.cons e_1 (.cons .here (.drop .refl))))⟩
  by_cases hd:x=8∨x=9
  ·have e:jA x=((0,7),(0,7),(0,15)):=by unfold jA;rw[iQ ha,iQ hb,iQ hc,iJ hd]
   rw[e]at hj;rcases hd with rfl |rfl
   all_goals (first |with_reducible (refine qV ?_;(try dsimp only);refine qK omQ ?_;refine qJ ?_;refine qK omQ ?_;refine qJ ?_;refine qK omQ ?_;refine qJ ?_;refine qV ?_;(try dsimp only);refine qK omQ ?_;refine qJ ?_;refine qK omQ ?_;refine qJ ?_;refine qV ?_;(try dsimp only);refine qK omQ ?_;refine qJ ?_;refine qK omQ ?_;refine qJ ?_;refine qK omQ ?_;refine qJ ?_;refine qK omQ ?_;refine qJ ?_;refine qK omQ ?_;refine qJ ?_;refine qV ?_;(try dsimp only);refine qK omQ ?_;refine qJ ?_;refine qz omQ ?_;refine qZ ?_;refine qV ?_;(try dsimp only)) |with_reducible (refine qV ?_;(try dsimp only);refine qK omQ ?_;refine qJ ?_;refine qK omQ ?_;refine qJ ?_;refine qK omQ ?_;refine qJ ?_;refine qV ?_;(try dsimp only);refine qK omQ ?_;refine qJ ?_;refine qK omQ ?_;refine qJ ?_;refine qV ?_;(try dsimp only);refine qK omQ ?_;refine qJ ?_;refine qK omQ ?_;refine qJ ?_;refine qK omQ ?_;refine qJ ?_;refine qK omQ ?_;refine qJ ?_;refine qK omQ ?_;refine qJ ?_;refine qV ?_;(try dsimp only);refine qz omQ ?_;refine qZ ?_;refine qZ ?_;refine qV ?_;(try dsimp only)))
   all_goals refine qF H5 (b:=b7) (off:=0) .here rfl omQ rfl ?_
   all_goals refine qF H5 (b:=b7) (off:=0) .here rfl omQ rfl ?_
   all_goals refine qH (l:=vH (0,15)) rfl ?_
   all_goals refine qd H5 (b:=b0) e_3 rfl (by simp[vH]) rfl λh6 H6=>?_
   all_goals refine qd H6 (b:=b2) e_3 rfl (by simp[vH]) rfl λh7 H7=>?_
   all_goals refine qd H7 (b:=b4) e_3 rfl (by simp[vH]) rfl λh8 H8=>?_
   all_goals refine zA H5 (b:=b7) .here rfl H6 e_1 rfl rfl omQ (HS.lt H5 .here) ?_
   all_goals exact hj _ _ ⟨rfl,H8.sub (.cons e_2 (.cons e_1 (.cons .here (.drop .refl))))⟩
  by_cases he:x=12
  ·have e:jA x=((0,0),(0,0),(0,40)):=by unfold jA;rw[iQ ha,iQ hb,iQ hc,iQ hd,iJ he]
   rw[e]at hj;subst he;refine qV ?_;(try dsimp only);refine qK omQ ?_;refine qJ (qK omQ ?_);refine qJ (qK omQ ?_);refine qJ (qV ?_);(try dsimp only);refine qK omQ ?_;refine qJ (qK omQ ?_);refine qJ (qV ?_);(try dsimp only);refine qK omQ ?_;refine qJ (qK omQ ?_);refine qJ (qK omQ ?_);refine qJ (qK omQ ?_);refine qJ (qK omQ ?_);refine qJ (qV ?_);(try dsimp only);refine qK omQ ?_;refine qJ (qK omQ ?_);refine qJ (qz omQ ?_);refine qZ (qH rfl ?_)
   refine qd H5 (b:=b4) e_1 rfl (by simp[vH]) rfl λh6 H6=>?_;exact hj _ _ ⟨rfl,H6.sub (.cons e_3 (.cons e_2 (.cons .here (.drop .refl))))⟩
  by_cases hf:x=13
  ·have e:jA x=((0,7),(0,0),(0,40)):=by unfold jA;rw[iQ ha,iQ hb,iQ hc,iQ hd,iQ he,iJ hf]
   rw[e]at hj;subst hf;refine qV ?_;(try dsimp only);refine qK omQ ?_;refine qJ (qK omQ ?_);refine qJ (qK omQ ?_);refine qJ (qV ?_);(try dsimp only);refine qK omQ ?_;refine qJ (qK omQ ?_);refine qJ (qV ?_);(try dsimp only);refine qK omQ ?_;refine qJ (qK omQ ?_);refine qJ (qK omQ ?_);refine qJ (qK omQ ?_);refine qJ (qK omQ ?_);refine qJ (qV ?_);(try dsimp only);refine qK omQ ?_;refine qJ (qK omQ ?_);refine qJ (qK omQ ?_);refine qJ (qz omQ ?_);refine qZ ?_
   refine qF H5 (b:=b7) (off:=0) .here rfl omQ rfl ?_;refine qH (l:=vH (0,40)) rfl ?_;refine qd H5 (b:=b0) e_3 rfl (by simp[vH]) rfl λh6 H6=>?_;refine qd H6 (b:=b4) e_2 rfl (by simp[vH]) rfl λh7 H7=>?_;exact hj _ _ ⟨rfl,H7.sub (.cons e_1 (.cons e_2 (.cons .here (.drop .refl))))⟩
  by_cases hg:x=23
  ·have e:jA x=((1,12),(0,7),(0,6)):=by unfold jA;rw[iQ ha,iQ hb,iQ hc,iQ hd,iQ he,iQ hf,iJ hg]
   rw[e]at hj;subst hg;refine qV ?_;(try dsimp only);refine qK omQ ?_;refine qJ (qK omQ ?_);refine qJ (qK omQ ?_);refine qJ (qV ?_);(try dsimp only);refine qK omQ ?_;refine qJ (qK omQ ?_);refine qJ (qV ?_);(try dsimp only);refine qK omQ ?_;refine qJ (qK omQ ?_);refine qJ (qK omQ ?_);refine qJ (qK omQ ?_);refine qJ (qK omQ ?_);refine qJ (qV ?_);(try dsimp only);refine qK omQ ?_;refine qJ (qK omQ ?_);refine qJ (qK omQ ?_);refine qJ (qK omQ ?_);refine qJ (qz omQ ?_);refine qZ (qH rfl ?_);refine qH rfl ?_;refine qH rfl ?_
   refine qd H5 (b:=b0) e_3 rfl (by simp[vH]) rfl λh6 H6=>?_;refine qd H6 (b:=b2) e_3 rfl (by simp[vH]) rfl λh7 H7=>?_;refine qd H7 (b:=b4) e_3 rfl (by simp[vH]) rfl λh8 H8=>?_;exact hj _ _ ⟨rfl,H8.sub (.cons e_2 (.cons e_1 (.cons .here (.drop .refl))))⟩
  ·have e:jA x=((0,0),(0,0),(0,0)):=by unfold jA;rw[iQ ha,iQ hb,iQ hc,iQ hd,iQ he,iQ hf,iQ hg]
   rw[e]at hj ⊢;refine qV ?_;(try dsimp only);refine qK omQ ?_;refine qJ (qK omQ ?_);refine qJ (qK omQ ?_);refine qJ (qV ?_);(try dsimp only);refine qK omQ ?_;refine qJ (qK omQ ?_);refine qJ (qV ?_);(try dsimp only);refine qK omQ ?_;refine qJ (qK omQ ?_);refine qJ (qK omQ ?_);refine qJ (qK omQ ?_);refine qJ (qK omQ ?_);refine qJ (qV ?_);(try dsimp only);refine qK omQ ?_;refine qJ (qK omQ ?_);refine qJ (qK omQ ?_);refine qJ (qK omQ ?_);refine qJ (qK omQ ?_);refine qJ ?_
   exact hj _ _ ⟨rfl,H5.sub (.cons e_3 (.cons e_2 (.cons e_1 (.drop .refl))))⟩
 ·rintro s h6 ⟨rfl,H6⟩;dsimp only;generalize jA x=F at*;refine qV (qF H6 (b:=b0) (off:=0) .here rfl omQ rfl ?_);refine qF H6 (b:=b2) (off:=0) e_1 rfl omQ rfl ?_;refine qF H6 (b:=b4) (off:=0) e_2 rfl omQ rfl ?_;refine qd H6 (b:=b0) .here rfl (by simp[vH]) rfl λh7 H7=>?_;refine qd H7 (b:=b2) e_1 rfl (by simp[vH]) rfl λh8 H8=>?_;refine qd H8 (b:=b4) e_2 rfl (by simp[vH]) rfl λh9 H9=>?_;refine zA H7 (b:=b4) e_2 rfl H8 e_2 rfl rfl omQ (HS.lt H6 e_2) ?_;refine zA H6 (b:=b4) e_2 rfl H7 e_2 rfl rfl omQ (HS.lt H6 e_2) ?_;refine zA H6 (b:=b2) e_1 rfl H7 e_1 rfl rfl omQ (HS.lt H6 e_1) ?_;refine qx (qF H9 (b:=b0) (off:=0) e_2 rfl omQ rfl ?_);refine qF H9 (b:=b2) (off:=0) e_1 rfl omQ rfl ?_;refine qF H9 (b:=b4) (off:=0) .here rfl omQ rfl ?_;exact qq ⟨rfl,H9.drop.drop.drop⟩
def nameL:List (List UInt8):=[[],[115,101,116],[109,111,118,101],[97,100,100],[115,117,98],[109,117,108],[108,101,115,115],[101,113,117,97,108],[108,111,97,100],[115,116,111,114,101],[97,108,108,111,99],[102,114,101,101],[106,117,109,112],[122,101,114,111],[111,112,101,110],[99,108,111,115,101],[117,110,100,111],[101,105,116,104,101,114],[111,114],[100,111,110,101],[114,101,116,114,121],[101,109,105,116],[102,97,105,108],[99,97,108,108]]
theorem qz2 {p:Nat} (hp:p<24):∃s,nameL[p]? =some s∧Oo .neq s []=some (.bool (decide (1≤(p:Int)∧(p:Int)≤23))):=by
 match p,hp with
 | 0,_=>exact⟨_,rfl,rfl⟩
 | 1,_=>exact⟨_,rfl,rfl⟩
 | 2,_=>exact⟨_,rfl,rfl⟩
 | 3,_=>exact⟨_,rfl,rfl⟩
 | 4,_=>exact⟨_,rfl,rfl⟩
 | 5,_=>exact⟨_,rfl,rfl⟩
 | 6,_=>exact⟨_,rfl,rfl⟩
 | 7,_=>exact⟨_,rfl,rfl⟩
 | 8,_=>exact⟨_,rfl,rfl⟩
 | 9,_=>exact⟨_,rfl,rfl⟩
 | 10,_=>exact⟨_,rfl,rfl⟩
 | 11,_=>exact⟨_,rfl,rfl⟩
 | 12,_=>exact⟨_,rfl,rfl⟩
 | 13,_=>exact⟨_,rfl,rfl⟩
 | 14,_=>exact⟨_,rfl,rfl⟩
 | 15,_=>exact⟨_,rfl,rfl⟩
 | 16,_=>exact⟨_,rfl,rfl⟩
 | 17,_=>exact⟨_,rfl,rfl⟩
 | 18,_=>exact⟨_,rfl,rfl⟩
 | 19,_=>exact⟨_,rfl,rfl⟩
 | 20,_=>exact⟨_,rfl,rfl⟩
 | 21,_=>exact⟨_,rfl,rfl⟩
 | 22,_=>exact⟨_,rfl,rfl⟩
 | 23,_=>exact⟨_,rfl,rfl⟩
 |k+24,h=>exact absurd h omQ
theorem qYO {n:Nat} (hn:2≤n) {x:Int} (H:HS g h R):t_w n 212 [.int .i64 x] h λv h'=>∃s,v=.str s∧Oo .neq s []=some (.bool (decide (1≤x∧x≤23)))∧HS g h' R:=by
 refine t_e1 (S:=S212) rfl omQ λk hk=>?_;unfold S212;try simp only[iZ]
 refine qW (Q':=λv h'=>∃e,HS g h' (qA e 1 24 v (nameL.map .str)::R)) ?_ ?_
 ·(refine qw (g:=W261) rfl omQ λk hk=>?_;show wp (S261 (callT tab qj k) _) _;unfold S261;try simp only[iI,uU,iZ])
  exact qe (n:=24) (l:=nameL.map .str) (sz:=1) H rfl rfl rfl rfl λv h1 H1=>qq ⟨_,H1⟩
 rintro v h1 ⟨e,H1⟩;refine qW (Q':=λw h'=>∃s,w=.str s∧Oo .neq s []=some (.bool (decide (1≤x∧x≤23)))∧h'=h1) ?_ ?_
 ·refine t_e2 (S:=S260) rfl omQ λk hk=>?_;unfold S260;try simp only[iZ]
  by_cases c0:x<0
  ·refine jB omQ ?_;refine qV ?_;(try dsimp only);refine qp ?_;(try dsimp only);refine qE (qZ ?_)
   exact qq ⟨[],rfl,by rw[iV omQ];rfl,rfl⟩
  ·refine jK omQ ?_;refine qV ?_;(try dsimp only);refine qc ?_;(try dsimp only);refine qi ‹_› .here ?_
   by_cases c1:x<24
   ·obtain⟨p,rfl⟩:∃p:Nat,x=(p:Int):=⟨x.toNat,by omega⟩;obtain⟨s,hs,ht⟩:=qz2 (show p<24 by omega);refine zK omQ ?_;refine qC (qJ (jI (H1.sl .here) (x:=.str s) (by rw[List.getElem?_map,hs];rfl) (qq ⟨s,rfl,ht,rfl⟩)))
   ·refine zv omQ ?_;refine qC (qZ ?_);exact qq ⟨[],rfl,by rw[iV omQ];rfl,rfl⟩
 ·rintro _ h2 ⟨s,rfl,ht,rfl⟩;exact qq ⟨s,rfl,ht,H1.drop⟩
theorem qj7 {n:Nat} (hn:3≤n) {x:qO} (H:HS g h R):t_w n 189 [.agg (jX x)] h λv h'=>v=.bool (ve x)∧HS g h' R:=by
 refine t_e1 (S:=S189) rfl omQ λk hk=>?_;unfold S189;try simp only[iZ]
 obtain⟨op,a,b,c,q⟩:=x;refine qI H rfl λb0 h1 H1=>?_;have H1:HS g h1 (qk b0 [.int .i64 op,.int .i64 a,.int .i64 b,.int .i64 c,.int .u64 q]::R):=H1;refine qQ (qX ‹_› .here rfl ?_);refine qW (qQP omQ H1) ?_;rintro _ h2 ⟨rfl,H2⟩;have hM:ve (op,a,b,c,q)=(decide (1≤op∧op≤23)&&vU (jA op).1 a&&vU (jA op).2.1 b&&vU (jA op).2.2 c&&decide (q=0∨op=1)):=rfl;rw[hM];generalize jA op=F at*;obtain⟨f1,f2,f3⟩:=F;dsimp only;refine qy rfl ?_;refine qy rfl ?_;refine qy rfl ?_;refine qI H2 rfl λb1 h3 H3=>?_;refine qI H3 rfl λb2 h4 H4=>?_;refine qI H4 rfl λb3 h5 H5=>?_;refine qd H5 (b:=b1) e_2 rfl osQ rfl λh6 H6=>?_;refine qd H6 (b:=b2) e_2 rfl osQ rfl λh7 H7=>?_;refine qd H7 (b:=b3) e_2 rfl osQ rfl λh8 H8=>?_;have H8:HS g h8 (qk b3 (vH f3)::qk b2 (vH f2)::qk b1 (vH f1)::qk b0 [.int .i64 op,.int .i64 a,.int .i64 b,.int .i64 c,.int .u64 q]::R):=H8;clear H H1 H2 H3 H4 H5 H6 H7;refine qQ (qX ‹_› e_3 rfl ?_);refine qW (qYO omQ H8) ?_;rintro _ h9 ⟨s,rfl,ht,H⟩;refine qvU ht ?_;clear H8;by_cases c1:1≤op∧op≤23
 rotate_left
 ·rw[iV c1];refine qV ?_;(try dsimp only);refine qR ?_;(try dsimp only);refine qC (qV ?_);(try dsimp only);refine qR ?_;(try dsimp only);refine qC (qV ?_);(try dsimp only);refine qR ?_;(try dsimp only);refine qC (qV ?_);(try dsimp only);refine qR ?_;(try dsimp only);refine qV ?_;(try dsimp only);refine jt ?_;(try dsimp only);refine qV ?_;(try dsimp only);refine qR ?_;(try dsimp only);refine qC ?_
  exact qq ⟨rfl,H.drop.drop.drop.drop⟩
 rw[iG c1];refine qV ?_;(try dsimp only);refine qa ?_;(try dsimp only)
 refine qF H (b:=b1) (off:=0) e_2 rfl omQ rfl ?_;refine qQ (qX ‹_› e_3 rfl ?_);refine qW (Kt omQ H) ?_;rintro _ h10 ⟨rfl,H10⟩;cases hf1:vU f1 a
 ·refine qE (qV ?_);(try dsimp only);refine qR ?_;(try dsimp only);refine qC (qV ?_);(try dsimp only);refine qR ?_;(try dsimp only);refine qC (qV ?_);(try dsimp only);refine qR ?_;(try dsimp only);refine qV ?_;(try dsimp only);refine jt ?_;(try dsimp only);refine qV ?_;(try dsimp only);refine qR ?_;(try dsimp only);refine qC ?_
  exact qq ⟨rfl,H10.drop.drop.drop.drop⟩
 refine qE (qV ?_);(try dsimp only);refine qa ?_;(try dsimp only)
 refine qF H10 (b:=b2) (off:=0) e_1 rfl omQ rfl ?_;refine qQ (qX ‹_› e_3 rfl ?_);refine qW (Kt omQ H10) ?_;rintro _ h11 ⟨rfl,H11⟩;cases hf2:vU f2 b
 ·refine qE (qV ?_);(try dsimp only);refine qR ?_;(try dsimp only);refine qC (qV ?_);(try dsimp only);refine qR ?_;(try dsimp only);refine qV ?_;(try dsimp only);refine jt ?_;(try dsimp only);refine qV ?_;(try dsimp only);refine qR ?_;(try dsimp only);refine qC ?_
  exact qq ⟨rfl,H11.drop.drop.drop.drop⟩
 refine qE (qV ?_);(try dsimp only);refine qa ?_;(try dsimp only)
 refine qF H11 (b:=b3) (off:=0) .here rfl omQ rfl ?_;refine qQ (qX ‹_› e_3 rfl ?_);refine qW (Kt omQ H11) ?_;rintro _ h12 ⟨rfl,H12⟩;cases hf3:vU f3 c
 ·refine qE (qV ?_);(try dsimp only);refine qR ?_;(try dsimp only);refine qV ?_;(try dsimp only);refine jt ?_;(try dsimp only);refine qV ?_;(try dsimp only);refine qR ?_;(try dsimp only);refine qC ?_
  exact qq ⟨rfl,H12.drop.drop.drop.drop⟩
 by_cases c2:q=0
 ·refine qE (qV ?_);(try dsimp only);refine qa ?_;(try dsimp only);refine qQ (qX ‹_› e_3 rfl ?_);refine qz omQ ?_;refine qV ?_;(try dsimp only);refine qp ?_;(try dsimp only);refine qV ?_;(try dsimp only);refine qa ?_;(try dsimp only);refine qE (qE ?_)
  exact qq ⟨by rw[iG (.inl c2)];rfl,H12.drop.drop.drop.drop⟩
 by_cases c3:op=1
 ·refine qE (qV ?_);(try dsimp only);refine qa ?_;(try dsimp only);refine qQ (qX ‹_› e_3 rfl ?_);refine qK omQ ?_;refine qV ?_;(try dsimp only);refine qc ?_;(try dsimp only);refine qQ (qX ‹_› e_3 rfl ?_);refine qz omQ ?_;refine qV ?_;(try dsimp only);refine qa ?_;(try dsimp only);refine qC (qE ?_)
  exact qq ⟨by rw[iG (.inr c3)];rfl,H12.drop.drop.drop.drop⟩
 ·refine qE (qV ?_);(try dsimp only);refine qa ?_;(try dsimp only);refine qQ (qX ‹_› e_3 rfl ?_);refine qK omQ ?_;refine qV ?_;(try dsimp only);refine qc ?_;(try dsimp only);refine qQ (qX ‹_› e_3 rfl ?_);refine qK omQ ?_;refine qV ?_;(try dsimp only);refine qa ?_;(try dsimp only);refine qC (qE ?_)
  exact qq ⟨by rw[iV (λh=>h.elim c2 c3)];rfl,H12.drop.drop.drop.drop⟩
end
section
variable {g h:AH} {L R:List SP}
theorem qxi {l:List qO} {i:Nat} (hi:i<l.length):qL l (i:Int)=l[i]:=by unfold qL;rw[show((i:Int)).toNat=i by omega,iW hi];rfl
theorem qqm {n:Nat} (hn:2≤n) {l:List qO} {st:List Int} {sv tv:AV} (H:HS g h R) (S:Rd g R 5 l.length sv (l.flatMap jX)) (T:Rd g R 1 st.length tv (st.map (.int .i64))) (hs:StOk l.length st) (hl:st.length<1000) :
  t_w n 190 [tv,.agg [sv]] h λv h'=>v=.int .i64 (opM l st)∧HS g h' R:=by
 refine t_e2 (S:=S190) rfl omQ λk hk=>?_;unfold S190;try simp only[iZ]
 refine qI H (vJ (Qx (S.sl H))) λb h1 H1=>?_;refine xC (T.sl H1.drop) ?_;unfold opM;by_cases h0:st=[]
 ·subst h0;rw[iJ rfl]
  skip
  exact qq ⟨rfl,H1.drop⟩
 ·have hl0:st.length≠0:=λh=>h0 (iA h);rw[iQ h0];refine qK omQ ?_;refine qJ (qV ?_);(try dsimp only);refine qQ (qX ‹_› .here rfl ?_)
  refine qW (YZ omQ (T.sl H1.drop) hl) ?_;rintro _ h1 ⟨rfl,rfl⟩;have hi:=hs.inmost h0;generalize qs st=p at*;obtain⟨p,rfl⟩:∃q:Nat,p=(q:Int):=⟨p.toNat,by omega⟩;have hp:p<l.length:=by omega
  refine xo (x:=.int .i64 l[p].1) (S.sl H1.drop) omQ hp (by rw[Js (sz:=5) jX (λ_=>rfl) _ _ _ omQ,iW hp];rfl) ?_;refine qU ‹_› .here rfl ‹_› .here rfl (HS.lt ‹_› .here) ?_;exact qq ⟨by rw[qxi hp],H1.drop⟩
theorem qX2 {n:Nat} (hn:4≤n) {l:List qO} {st:List Int} {sv tv:AV} {x:qO} (H:HS g h R) (S:Rd g R 5 l.length sv (l.flatMap jX)) (T:Rd g R 1 st.length tv (st.map (.int .i64))) (hs:StOk l.length st) (hl:st.length<1000) :
  t_w n 158 [.agg [sv],tv,.agg (jX x)] h λv h'=>v=.int .i64 (zB l st x)∧HS g h' R:=by
 refine t_e3 (S:=S158) rfl omQ λk hk=>?_;unfold S158;try simp only[iZ]
 refine qI H (vJ (Qx (S.sl H))) λb0 h1 H1=>?_;refine qI H1 rfl λb2 h2 H2=>?_;refine qF H2 (b:=b2) (off:=0) .here rfl omQ rfl ?_;refine qW (qj7 omQ H2) ?_;rintro _ h3 ⟨rfl,H3⟩;clear H H1 H2;obtain⟨op,a,b,c,q⟩:=x;have hW:zB l st (op,a,b,c,q)=if ve (op,a,b,c,q)=false then 8 else if 0<jb op∧opM l st≠jb op then 12 else if op=16∧opM l st≠14 then 12 else if zi op=true∧5≤st.length then 9 else 0:=rfl
 rw[hW];have H3:HS g h3 (qk b2 [.int .i64 op,.int .i64 a,.int .i64 b,.int .i64 c,.int .u64 q]::qk b0 [sv]::R):=H3;cases ve (op,a,b,c,q)
 ·refine jk (qZ ?_);exact qq ⟨rfl,H3.drop.drop⟩
 rw[iQ osQ]
 (first |with_reducible refine qZ ?_ |with_reducible refine qJ ?_ |(with_reducible refine qa ?_;try dsimp only) |(with_reducible refine qp ?_;try dsimp only) |(with_reducible refine qR ?_;try dsimp only) |(with_reducible refine qc ?_;try dsimp only) |(with_reducible refine jt ?_;try dsimp only) |with_reducible refine qE ?_ |with_reducible refine qC ?_ |(with_reducible refine qV ?_;try dsimp only) |with_reducible refine qx ?_ |with_reducible refine jW ?_ |with_reducible refine jk ?_ |with_reducible refine qb omQ ?_ |with_reducible refine jr omQ ?_ |with_reducible refine yN omQ ?_ |with_reducible refine vo omQ ?_ |with_reducible refine zZ ?_ |with_reducible refine ze ?_)
 (first |with_reducible refine qZ ?_ |with_reducible refine qJ ?_ |(with_reducible refine qa ?_;try dsimp only) |(with_reducible refine qp ?_;try dsimp only) |(with_reducible refine qR ?_;try dsimp only) |(with_reducible refine qc ?_;try dsimp only) |(with_reducible refine jt ?_;try dsimp only) |with_reducible refine qE ?_ |with_reducible refine qC ?_ |(with_reducible refine qV ?_;try dsimp only) |with_reducible refine qx ?_ |with_reducible refine jW ?_ |with_reducible refine jk ?_ |with_reducible refine qb omQ ?_ |with_reducible refine jr omQ ?_ |with_reducible refine yN omQ ?_ |with_reducible refine vo omQ ?_ |with_reducible refine zZ ?_ |with_reducible refine ze ?_)
 refine GW (λs h'=>s=(.bool (decide (0<jb op∧opM l st≠jb op)),.ptr b2 0,.ptr b0 0,tv,())∧HS g h' (qk b2 [.int .i64 op,.int .i64 a,.int .i64 b,.int .i64 c,.int .u64 q]::qk b0 [sv]::R)) ?_ ?_
 ·intro j hj;refine qQ (qX ‹_› .here rfl ?_);refine qW (Yu omQ) ?_;rintro _ h3 ⟨rfl,rfl⟩;by_cases h1:0<jb op
  ·refine yj omQ ?_;refine qa ?_;(try dsimp only)
   refine qF H3 (b:=b0) (off:=0) e_1 rfl omQ rfl ?_;refine qW (qqm omQ H3 S.more.more T.more.more hs hl) ?_;rintro _ h4 ⟨rfl,H4⟩;refine qQ (qX ‹_› .here rfl ?_);refine qW (Yu omQ) ?_;rintro _ h4 ⟨rfl,rfl⟩;refine Up (qE (qU ‹_› .here rfl ‹_› .here rfl (HS.lt ‹_› .here) ?_));refine hj _ _ ⟨?_,H4⟩
   congr 2
   exact decide_eq_decide.2 ⟨λh=>⟨h1,h⟩,λh=>h.2⟩
  ·refine xW omQ ?_;refine qR ?_;(try dsimp only);refine qC ?_
   refine hj _ _ ⟨?_,H3⟩;rw[iV (λh=>h1 h.1)]
 clear H3;rintro s h4 ⟨rfl,H⟩;dsimp only;by_cases hA:0<jb op∧opM l st≠jb op
 ·rw[iG hA,iJ hA];refine qZ ?_;exact qq ⟨rfl,H.drop.drop⟩
 rw[iV hA,iQ hA];refine qJ (qQ (qX ‹_› .here rfl ?_));refine Jt (GW (λs h'=>∃(r:AV) (u x:Bool),s=(r,.bool u,.ptr b2 0,tv,())∧(u=true→r=.bool x)∧((u&&x)=decide (op=16∧opM l st≠14))∧HS g h' (qk b2 [.int .i64 op,.int .i64 a,.int .i64 b,.int .i64 c,.int .u64 q]::qk b0 [sv]::R)) ?_ ?_)
 ·intro j hj;by_cases h1:op=16
  ·rw[iG (show op=((16:Nat):Int)from h1)];refine qa ?_;(try dsimp only)
   refine qF H (b:=b0) (off:=0) e_1 rfl omQ rfl ?_;refine qW (qqm omQ H S.more.more T.more.more hs hl) ?_;rintro _ h4 ⟨rfl,H4⟩;refine Up (hj _ _ ⟨_,true,decide (¬opM l st=14),rfl,λ_=>rfl,?_,H4⟩);rw[Bool.true_and];exact decide_eq_decide.2 ⟨λh=>⟨h1,h⟩,λh=>h.2⟩
  ·rw[iV (show¬op=((16:Nat):Int)from h1)];refine qR ?_;(try dsimp only)
   refine hj _ _ ⟨_,false,false,rfl,(λh=>by cases h),?_,H⟩;rw[iV (λh=>h1 h.1)];rfl
 clear H;rintro s h4 ⟨r,u,y,rfl,hr,hu,H⟩;dsimp only;refine ZU hr ?_;rw[hu];by_cases hB:op=16∧opM l st≠14
 ·rw[iG hB,iJ hB];refine qZ ?_;exact qq ⟨rfl,H.drop.drop⟩
 rw[iV hB,iQ hB];refine qJ (qQ (qX ‹_› .here rfl ?_));refine qW (Kn omQ) ?_;rintro _ h4 ⟨rfl,rfl⟩;cases hb:zi op
 ·rw[iQ osQ];refine qV ?_;(try dsimp only);refine qR ?_;(try dsimp only);refine qC (qJ ?_)
  exact qq ⟨rfl,H.drop.drop⟩
 ·refine qV ?_;(try dsimp only);refine qa ?_;(try dsimp only)
  refine xC (T.sl H.drop.drop) ?_;by_cases h5:5≤st.length
  ·rw[iJ ⟨rfl,h5⟩];refine zv omQ ?_;refine qE (qZ ?_);exact qq ⟨rfl,H.drop.drop⟩
  ·rw[iQ (λh=>h5 h.2)];refine zK omQ ?_;refine qE (qJ ?_);exact qq ⟨rfl,H.drop.drop⟩
def StC (v:AV) (st:List Int):SP:=qA 3 1 st.length v (st.map (.int .i64))
theorem UP {n:Nat} (hn:2≤n) {st:List Int} {tv:AV} {i op:Int} (H:HS g h (StC tv st::R)) (hs:0<jb op→st≠[]) (hl:st.length<1000) :
  t_w n 159 [tv,.int .i64 i,.int .i64 op] h λv h'=>HS g h' (StC v (q9 st i op)::R):=by
 refine t_e3 (S:=S159) rfl omQ λk hk=>?_;unfold S159;try simp only[iZ]
 refine jd [] (λs h'=>∃v,s=(.int .i64 op,.int .i64 i,v,())∧HS g h' (StC v (if 0<jb op then st.dropLast else st)::R)) ?_ ?_
 ·intro j hj;refine qW (Yu omQ) ?_;rintro _ h ⟨rfl,rfl⟩;by_cases h1:0<jb op
  ·have hne:=hs h1;have hl0:st.length≠0:=λh=>hne (iA h);rw[iJ h1]at hj;refine yj h1 (qZ ?_);refine xC (H.sl (e:=3) .here) ?_;refine jr omQ ?_;rw[show(st.length:Int)-((1:Nat):Int)=((st.length-1:Nat):Int) by omega];refine XY H omQ omQ λv H1=>?_;refine hj _ _ ⟨v,rfl,?_⟩;unfold StC;rw[List.length_dropLast,List.dropLast_eq_take,List.map_take];rw[Nat.mul_one]at H1;exact H1
  ·rw[iQ h1]at hj;refine xW h1 (qJ ?_);exact hj _ _ ⟨tv,rfl,H⟩
 clear H;rintro s h1 ⟨v,rfl,H⟩;unfold q9;have hl2:(if 0<jb op then st.dropLast else st).length<1000:=by
  split
  ·rw[List.length_dropLast];omega
  ·exact hl
 generalize(if 0<jb op then st.dropLast else st)=st at*;dsimp only;refine qV ?_;(try dsimp only)
 refine qW (Kn omQ) ?_;rintro _ h1 ⟨rfl,rfl⟩;have push:∀{K:AV→AH→Go.Ae.R} {Q:AV→AH→Prop},(∀v' h',HS g h' (StC v' (st++[i])::R)→wp (K v' h') Q)→
   wp (zb h1 3 [.int .i64 ((0:Nat):Int)] 1 [(0,1,.int .i64 i)] λv15 h16=>zl h16 3 1 v v15 K) Q:=by
  intro K Q w;refine qe (n:=1) (l:=[.int .i64 i]) (sz:=1) H rfl rfl rfl rfl λv5 h5 H5=>?_;refine jR (H5.sel e_1) (H5.sl .here) omQ omQ rfl λv6 h6 H6=>w v6 h6 ?_;unfold StC;rw[List.map_append,List.length_append];exact H6.sub (.cons .here (.drop .refl))
 cases hb:zi op
 ·by_cases h18:op=18
  ·rw[iJ (.inr h18)];refine qV ?_;(try dsimp only);refine qc ?_;(try dsimp only);refine qz omQ ?_;refine qC (qZ ?_)
   exact push λv' h' H'=>qx (qq H')
  ·rw[iQ (by simp;exact h18)];refine qV ?_;(try dsimp only);refine qc ?_;(try dsimp only);refine qK omQ ?_;refine qC (qJ (qx ?_))
   exact qq H
 ·rw[iJ (.inl rfl)];refine qV ?_;(try dsimp only);refine qp ?_;(try dsimp only);refine qE (qZ ?_)
  exact push λv' h' H'=>qx (qq H')
theorem Ys {l:List qO} {i:Nat} {st:List Int} (hi:i<l.length):goM l (l.drop i) i st=if zB l st l[i]=0 then goM l (l.drop (i+1)) (i+1) (q9 st i l[i].1)else .inl ((i:Int),zB l st l[i]):=by rw[List.drop_eq_getElem_cons hi];rfl
theorem Vm {l:List qO} {i:Nat} {st:List Int} (hi:i<l.length):vI (l.drop i) i st=qs st::vI (l.drop (i+1)) (i+1) (q9 st i l[i].1):=by rw[List.drop_eq_getElem_cons hi];rfl
theorem YJ {l:List qO} {a:List Int} {i:Nat} (hi:i<l.length):Jd l a (l.drop i) i=if Ja l a i l[i]then((i:Int),2)else Jd l a (l.drop (i+1)) (i+1):=by rw[List.drop_eq_getElem_cons hi];rfl
theorem Xb {l:List qO} {i:Nat} (hi:i<l.length):((l.flatMap jX).drop (i*5)).take 5=jX l[i]:=vk (sz:=5) (λ_=>rfl) (iW hi)
theorem Gm {n:Nat} (hn:3≤n) {l:List qO} {st':List Int} {sv:AV} (H:HS g h R) (S:Rd g R 5 l.length sv (l.flatMap jX)) (hg:goM l l 0 []=.inr st') (hl:l.length≤100) :
  t_w n 162 [.agg [sv]] h λv h'=>HS g h' (qA 3 1 l.length v ((vI l 0 []).map (.int .i64))::R):=by
 refine t_e1 (S:=S162) rfl omQ λk hk=>?_;unfold S162;try simp only[iZ]
 refine qI H (vJ (Qx (S.sl H))) λb0 h1 H1=>?_;refine qQ (qX ‹_› .here rfl ?_);refine xC (S.sl H1.drop) ?_;refine Jr (n:=l.length) H1 omQ λov h2 H2=>?_;refine qQ (qX ‹_› e_1 rfl ?_);refine xC (S.sl H2.drop.drop) ?_
 refine jw (λm s h'=>∃(i:Nat) (st A:List Int) (tv:AV),s=(.int .i64 (i:Int),.int .i64 (l.length:Int),sv,tv,ov,())∧i≤l.length∧m=l.length-i∧StOk i st∧st.length≤i∧goM l (l.drop i) i st=.inr st'∧A.length=i∧vI l 0 []=A++vI (l.drop i) i st∧
  HS g h' (qA 3 1 l.length ov ((A++List.replicate (l.length-i) 0).map (.int .i64))::StC tv st::R))
  ?_ (m:=l.length) (by show _<1000000000;omega) ⟨0,[],[],.nils,rfl,by omega,by omega,StOk.nil,by simp,hg,rfl,rfl,by
   rw[List.nil_append,List.map_replicate]
   exact(H2.nils (e:=3) (sz:=1)).sub (.cons e_1 (.cons .here (.drop .refl)))⟩
 clear H H1 H2;rintro m ih s h3 hih ⟨i,st,A,tv,rfl,hi,rfl,hs,hsl,hgo,hA,hR,H⟩;dsimp only;by_cases hlt:i<l.length
 ·rw[Ys hlt]at hgo;rw[Vm hlt]at hR;have hrow:=Xb hlt;generalize l[i]=x at*;by_cases hw:zB l st x=0
  rotate_left
  ·rw[iQ hw]at hgo;cases hgo
  rw[iJ hw]at hgo;have ho:=xK hw;refine jB omQ ?_;refine qZ (zH (S.sl H.drop.drop) hlt omQ hrow ?_);refine qI H rfl λb h4 H4=>?_;refine qd H4 (b:=b) .here rfl (by simp[jX]) rfl λh5 H5=>?_;have H5:HS g h5 (qk b (jX x)::qA 3 1 l.length ov ((A++List.replicate (l.length-i) 0).map (.int .i64))::StC tv st::R):=H5;unfold jX at H5;refine qW (YZ omQ (H5.sl (e:=3) e_2) omQ) ?_;rintro _ h5 ⟨rfl,rfl⟩;refine X0 (H5.sel e_1) omQ ⟨rfl,rfl⟩ λh6 H6=>?_;have hset:((A++List.replicate (l.length-i) 0).map (AV.int .i64)).set i (.int .i64 (qs st))=((A++[qs st])++List.replicate (l.length-(i+1)) 0).map (.int .i64):=by
   rw[← List.map_set]
   congr 1
   rw[List.set_append_right _ _ omQ,hA,Nat.sub_self,show l.length-i=(l.length-(i+1))+1 by omega,List.replicate_succ];simp
  rw[hset]at H6;refine qQ (qX ‹_› e_1 rfl ?_);refine qW (UP omQ (H6.sub (L':=StC tv st::qk b [.int .i64 x.1,.int .i64 x.2.1,.int .i64 x.2.2.1,.int .i64 x.2.2.2.1,.int .u64 x.2.2.2.2]::qA 3 1 l.length ov (((A++[qs st])++List.replicate (l.length-(i+1)) 0).map (.int .i64))::R) (.cons e_2 (.cons e_1 (.cons .here .refl)))) (λh=>ho.2.1 (.inl h)) omQ) ?_;intro tv2 h8 H8;refine qb omQ ?_;have hbl:=Kr st i x.1;exact hih (l.length-(i+1)) _ _ omQ ⟨i+1,q9 st i x.1,A++[qs st],tv2,rfl,by omega,rfl,hs.behind,by omega,hgo,by simp[hA],by rw[hR];simp,H8.sub (.cons e_2 (.cons .here (.drop .refl)))⟩
 ·obtain rfl:i=l.length:=by omega
  refine jK omQ ?_;refine qJ (qx (qq ?_));rw[hR];rw[Nat.sub_self,List.replicate_zero,List.append_nil]at H;rw[List.drop_length];show HS g h3 (qA _ 1 l.length ov ((A++[]).map _)::R);rw[List.append_nil];exact H.sub (.cons .here (.drop .refl))
theorem qG9 {x:qO} (h:ve x=true) (hj:x.1=12∨x.1=13):0≤x.2.2.2.1∧x.2.2.2.1≤40:=by
 have e:(jA x.1).2.2=(0,40):=by
  rcases hj with e |e<;>rw[e]<;>rfl
 unfold ve at h;rw[e]at h;simp only[Bool.and_eq_true,vU,decide_eq_true_eq]at h;exact h.1.2
theorem qXR {n:Nat} (hn:2≤n) {l:List qO} {a:List Int} {sv av:AV} (H:HS g h R) (S:Rd g R 5 l.length sv (l.flatMap jX)) (T:Rd g R 1 a.length av (a.map (.int .i64))) (ha:a.length=l.length) (hm:∀x∈l,ve x=true) (hl:l.length≤100) :
  t_w n 161 [.agg [sv],av] h λv h'=>v=.tup [.int .i64 (Jd l a l 0).1,.int .i64 (Jd l a l 0).2]∧HS g h' R:=by
 refine t_e2 (S:=S161) rfl omQ λk hk=>?_;unfold S161;try simp only[iZ]
 refine qI H (vJ (Qx (S.sl H))) λb0 h1 H1=>?_;have hLV:=(S.sl H).lenV;clear H;refine qQ (qX ‹_› .here rfl ?_);refine yY ‹_› ?_;refine jw (λm s h'=>∃i:Nat,s=(.int .i64 (i:Int),.int .i64 (l.length:Int),sv,.ptr b0 0,av,())∧i≤l.length∧m=l.length-i∧Jd l a l 0=Jd l a (l.drop i) i∧HS g h' (qk b0 [sv]::R))
  ?_ (m:=l.length) (by show _<1000000000;omega) ⟨0,rfl,by omega,by omega,rfl,H1⟩
 clear H1;rintro m ih s h2 hih ⟨i,rfl,hi,rfl,hJ,H⟩;dsimp only;by_cases hlt:i<l.length
 rotate_left
 ·obtain rfl:i=l.length:=by omega
  rw[List.drop_length]at hJ;rw[hJ];refine jK omQ ?_;refine qJ (qx ?_);exact qq ⟨rfl,H.drop⟩
 rw[YJ hlt]at hJ;have hrow:=Xb hlt;have hmx:=hm l[i] (List.getElem_mem hlt);generalize l[i]=x at*;obtain⟨op,xa,xb,c,q⟩:=x;unfold jX at hrow;refine jB omQ (qZ ?_);refine jd [] (λs h'=>s=(.int .i64 (i:Int),.int .i64 (l.length:Int),sv,.ptr b0 0,av,())∧¬Ja l a i (op,xa,xb,c,q)∧HS g h' (qk b0 [sv]::R)) ?_ ?_
 rotate_left
 ·rintro s h3 ⟨rfl,hno,H3⟩;rw[iQ hno]at hJ;refine qb omQ ?_;exact hih (l.length-(i+1)) _ _ omQ ⟨i+1,rfl,by omega,rfl,hJ,H3⟩
 intro j hj;clear hih;refine zH (S.sl H.drop) hlt omQ hrow ?_;refine qI H rfl λb h4 H4=>?_;refine qd H4 (b:=b) .here rfl osQ rfl λh5 H5=>?_;have H5:HS g h5 (qk b [.int .i64 op,.int .i64 xa,.int .i64 xb,.int .i64 c,.int .u64 q]::qk b0 [sv]::R):=H5;clear H H4;refine qQ (qX ‹_› .here rfl ?_);refine qW (qjo omQ) ?_;rintro _ h5 ⟨rfl,rfl⟩;by_cases hjm:op=12∨op=13
 rotate_left
 ·rw[iV hjm];refine jk (qZ ?_);exact hj _ _ ⟨rfl,λh=>hjm h.1,H5.drop⟩
 rw[iG hjm];have hc:=qG9 hmx hjm;dsimp only at hc;obtain⟨p,rfl⟩:∃p:Nat,c=(p:Int):=⟨c.toNat,by omega⟩;have hcell:∀k:Nat,k<l.length→(a.map (AV.int .i64))[k]? =some (.int .i64 (qM a (k:Int))):=by intro k hk;unfold qM;rw[List.getElem?_map,show((k:Int)).toNat=k by omega,iW omQ];rfl
 have Ta:Sl (λ_=>True) h5 1 a.length av (a.map (.int .i64)):=T.sl H5.drop.drop;by_cases c1:l.length<p
 ·rw[iJ ⟨hjm,.inl (by dsimp only;omega)⟩]at hJ;rw[hJ];refine jW (qJ (qQ (qX ‹_› .here rfl ?_)));refine qQ (qX ‹_› e_1 rfl ?_);refine yY ‹_› ?_;refine yj omQ ?_;refine qV ?_;(try dsimp only);refine qp ?_;(try dsimp only);refine qV ?_;(try dsimp only);refine jt ?_;(try dsimp only);refine qV ?_;(try dsimp only);refine qp ?_;(try dsimp only);refine qE (qV ?_);(try dsimp only);refine qp ?_;(try dsimp only);refine qV ?_;(try dsimp only);refine jt ?_;(try dsimp only);refine qV ?_;(try dsimp only);refine qp ?_;(try dsimp only);refine qE (qZ (qx ?_))
  exact qq ⟨rfl,H5.drop.drop⟩
 by_cases c2:p=l.length
 ·subst c2;refine jW (qJ (qQ (qX ‹_› .here rfl ?_)));refine qQ (qX ‹_› e_1 rfl ?_);refine yY ‹_› ?_;refine xW omQ ?_;refine qV ?_;(try dsimp only);refine qc ?_;(try dsimp only);refine qQ (qX ‹_› .here rfl ?_);refine qQ (qX ‹_› e_1 rfl ?_);refine yY ‹_› ?_;refine qz omQ ?_;refine qV ?_;(try dsimp only);refine qa ?_;(try dsimp only)
  refine jI Ta (hcell i hlt) ?_;by_cases c3:qM a i= -1
  ·refine q8 (by rw[c3];decide) ?_;refine qV ?_;(try dsimp only);refine qc ?_;(try dsimp only);refine qE (qC (qV ?_));(try dsimp only);refine qc ?_;(try dsimp only);refine qQ (qX ‹_› .here rfl ?_);refine qQ (qX ‹_› e_1 rfl ?_);refine yY ‹_› ?_;refine jK omQ ?_;refine qV ?_;(try dsimp only);refine qR ?_;(try dsimp only);refine qV ?_;(try dsimp only);refine qc ?_;(try dsimp only);refine qC (qC (qJ ?_))
   exact hj _ _ ⟨rfl,λh=>by
    rcases h.2 with h |h |h
    ·dsimp only at h;omega
    ·exact h.2 c3
    ·dsimp only at h;omega,H5.drop⟩
  ·refine qu (λh=>c3 (by rw[h];decide)) ?_;rw[iJ ⟨hjm,.inr (.inl ⟨rfl,c3⟩)⟩]at hJ;rw[hJ];refine qV ?_;(try dsimp only);refine qc ?_;(try dsimp only);refine qE (qC (qV ?_));(try dsimp only);refine qp ?_;(try dsimp only);refine qV ?_;(try dsimp only);refine jt ?_;(try dsimp only);refine qV ?_;(try dsimp only);refine qp ?_;(try dsimp only);refine qE (qZ (qx ?_))
   exact qq ⟨rfl,H5.drop.drop⟩
 ·refine jW (qJ (qQ (qX ‹_› .here rfl ?_)));refine qQ (qX ‹_› e_1 rfl ?_);refine yY ‹_› ?_;refine xW omQ ?_;refine qV ?_;(try dsimp only);refine qc ?_;(try dsimp only);refine qQ (qX ‹_› .here rfl ?_);refine qQ (qX ‹_› e_1 rfl ?_);refine yY ‹_› ?_;refine qK omQ ?_;refine qV ?_;(try dsimp only);refine qR ?_;(try dsimp only);refine qV ?_;(try dsimp only);refine qc ?_;(try dsimp only);refine qC (qC (qV ?_));(try dsimp only);refine qc ?_;(try dsimp only);refine qQ (qX ‹_› .here rfl ?_);refine qQ (qX ‹_› e_1 rfl ?_);refine yY ‹_› ?_;refine jB omQ ?_;refine qV ?_;(try dsimp only);refine qa ?_;(try dsimp only);refine qQ (qX ‹_› .here rfl ?_)
  refine jI Ta (hcell p omQ) ?_;refine jI Ta (hcell i hlt) ?_;by_cases c3:qM a p=qM a i
  ·refine q8 c3 ?_;refine qV ?_;(try dsimp only);refine qc ?_;(try dsimp only);refine qE (qC (qJ ?_))
   exact hj _ _ ⟨rfl,λh=>by
    rcases h.2 with h |h |h
    ·dsimp only at h;omega
    ·have:=h.1;dsimp only at this;omega
    ·exact h.2 c3,H5.drop⟩
  ·refine qu c3 ?_;rw[iJ ⟨hjm,.inr (.inr ⟨by dsimp only;omega,c3⟩)⟩]at hJ;rw[hJ];refine qV ?_;(try dsimp only);refine qc ?_;(try dsimp only);refine qE (qC (qZ (qx ?_)))
   exact qq ⟨rfl,H5.drop.drop⟩
theorem qxo {l:List qO}:∀{r:List qO} {i:Nat} {st st':List Int},goM l r i st=.inr st'→∀x∈r,ve x=true:=by
 intro r
 induction r with
 |nil=>intro i st st' _ x hx;cases hx
 |cons y r ih=>
  intro i st st' h x hx;rw[YH]at h
  split at h
  ·rename_i hw;rcases List.mem_cons.1 hx with rfl |hx
   ·exact(xK hw).1
   ·exact ih h x hx
  ·cases h
theorem qzT {l:List qO}:∀{r:List qO} {i:Nat} {st:List Int} {q:Int×Int},goM l r i st=.inl q→q.2≠0:=by
 intro r
 induction r with
 |nil=>intro i st q h;cases h
 |cons y r ih=>
  intro i st q h;rw[YH]at h
  split at h
  ·exact ih h
  ·rename_i hw;cases h;exact hw
theorem UL {l:List qO} (h:(zt l).2=0):goM l l 0 []=.inr []:=by
 unfold zt at h
 split at h
 ·cases h
 ·cases hg:goM l l 0 []with
  |inl q=>rw[hg]at h;exact absurd h (qzT hg)
  |inr st=>
   rw[hg]at h;dsimp only at h
   split at h
   ·rename_i h0;rw[h0]
   ·cases h
theorem MN {n:Nat} (hn:6≤n) {l:List qO} {sv:AV} (H:HS g h R) (S:Rd g R 5 l.length sv (l.flatMap jX)) (hl:l.length≤100) :
  t_w n 135 [.agg [sv]] h λv h'=>v=.tup [.int .i64 (zt l).1,.int .i64 (zt l).2]∧HS g h' R:=by
 refine t_e1 (S:=S135) rfl omQ λk hk=>?_;unfold S135;try simp only[iZ]
 refine qI H (vJ (Qx (S.sl H))) λb0 h1 H1=>?_;have hLV:=(S.sl H).lenV;clear H;have hC:zt l=if l.length=0∨40<l.length then(0,4)else match goM l l 0 []with
  | .inl r=>r
  | .inr st=>if st=[]then Jd l (vI l 0 []) l 0 else(qs st,12):=rfl
 generalize zt l=C at*;refine qQ (qX ‹_› .here rfl ?_);refine yY ‹_› ?_;by_cases c0:l.length=0
 ·rw[iJ (.inl c0)]at hC;subst hC;refine qz omQ ?_;refine qV ?_;(try dsimp only);refine qp ?_;(try dsimp only);refine qE (qZ ?_)
  exact qq ⟨rfl,H1.drop⟩
 by_cases c1:40<l.length
 ·rw[iJ (.inr c1)]at hC;subst hC;refine qK omQ ?_;refine qV ?_;(try dsimp only);refine qc ?_;(try dsimp only);refine qQ (qX ‹_› .here rfl ?_);refine yY ‹_› ?_;refine yj omQ ?_;refine qC (qZ ?_)
  exact qq ⟨rfl,H1.drop⟩
 rw[iQ omQ]at hC;refine qK omQ ?_;refine qV ?_;(try dsimp only);refine qc ?_;(try dsimp only);refine qQ (qX ‹_› .here rfl ?_);refine yY ‹_› ?_;refine xW omQ ?_;refine qC (qJ (qQ (qX ‹_› .here rfl ?_)));refine yY ‹_› ?_
 generalize hG:goM l l 0 []=G at hC;refine jw (λm s h'=>∃(i:Nat) (st:List Int) (tv:AV),s=(.int .i64 (i:Int),.int .i64 (l.length:Int),sv,tv,.ptr b0 0,())∧i≤l.length∧m=l.length-i∧StOk i st∧st.length≤i∧goM l (l.drop i) i st=G∧HS g h' (StC tv st::qk b0 [sv]::R))
  ?_ (m:=l.length) (by show _<1000000000;omega) ⟨0,[],.nils,rfl,by omega,by omega,StOk.nil,by simp,hG,H1.nils (e:=3) (sz:=1)⟩
 clear H1;rintro m ih s h2 hih ⟨i,st,tv,rfl,hi,rfl,hs,hsl,hgo,H⟩;dsimp only;by_cases hlt:i<l.length
 ·rw[Ys hlt]at hgo;have hrow:=Xb hlt;generalize l[i]=x at*;refine jB omQ ?_;refine qZ (zH (S.sl H.drop.drop) hlt omQ hrow ?_);refine qI H rfl λb h4 H4=>?_;refine qd H4 (b:=b) .here rfl (by simp[jX]) rfl λh5 H5=>?_;have H5:HS g h5 (qk b (jX x)::StC tv st::qk b0 [sv]::R):=H5;clear H H4;refine qF H5 (b:=b0) (off:=0) e_2 rfl omQ rfl ?_;refine qF H5 (b:=b) (off:=0) .here rfl omQ rfl ?_;refine qW (qX2 omQ H5 S.more.more.more (Rd.own (e:=3) e_1) (λy hy=>by have:=hs y hy;omega) omQ) ?_;rintro _ h6 ⟨rfl,H6⟩;by_cases hw:zB l st x=0
  ·rw[iJ hw]at hgo;have ho:=xK hw;refine q8 hw ?_;unfold jX at H6;refine qJ (qQ (qX ‹_› .here rfl ?_));refine qW (UP omQ (H6.sel e_1) (λh=>ho.2.1 (.inl h)) omQ) ?_;intro tv2 h8 H8;have hbl:=Kr st i x.1;refine qb omQ ?_;exact hih (l.length-(i+1)) _ _ omQ ⟨i+1,q9 st i x.1,tv2,rfl,by omega,rfl,hs.behind,by omega,hgo,H8.sub (.cons .here (.drop .refl))⟩
  ·rw[iQ hw]at hgo;subst hgo;rw[hC];refine qu hw ?_;refine qZ (qx ?_);exact qq ⟨rfl,H6.drop.drop.drop⟩
 ·obtain rfl:i=l.length:=by omega
  rw[List.drop_length]at hgo;have hgo:(Sum.inr st:(Int×Int) ⊕ List Int)=G:=hgo;subst hgo;dsimp only at hC;refine jK omQ (qJ ?_);refine xC (H.sl (e:=3) .here) ?_;by_cases h0:st=[]
  ·subst h0;rw[iJ rfl]at hC;rw[show([]:List Int).length=0 from rfl];refine xW omQ ?_;refine qJ (qV ?_);(try dsimp only)
   refine qF H (b:=b0) (off:=0) e_1 rfl omQ rfl ?_;refine qF H (b:=b0) (off:=0) e_1 rfl omQ rfl ?_;refine qW (Gm omQ H S.more.more hG hl) ?_;intro av h3 H3;refine qW (qXR (a:=vI l 0 []) omQ H3 S.more.more.more (by rw[Ka];exact Rd.own .here) Ka (qxo hG) hl) ?_;rintro _ h4 ⟨rfl,H4⟩;rw[← hC];refine qy rfl ?_;refine qy rfl ?_;refine zA H (b:=b0) e_1 rfl H3 e_2 rfl rfl omQ (HS.lt H e_1) ?_;refine qx ?_;exact qq ⟨rfl,H4.drop.drop.drop⟩
  ·rw[iQ h0]at hC;subst hC;have hl0:st.length≠0:=λh=>h0 (iA h);refine yj omQ ?_;refine qZ (qW (YZ omQ (H.sl (e:=3) .here) omQ) ?_);rintro _ h3 ⟨rfl,rfl⟩;refine qx ?_;exact qq ⟨rfl,H.drop.drop⟩
theorem qwU {l:List qO} {st':List Int} (hg:goM l l 0 []=.inr st') {i:Nat} (hi:i<l.length) (ho:0<jb l[i].1∨l[i].1=16):∃p:Nat,(vI l 0 [])[i]? =some (p:Int)∧p<l.length:=by
 obtain⟨s,h1,h2⟩:=qW9 (r:=l) (i:=0) (j:=i) (st:=[]) hi;obtain⟨h3,h4⟩:=h2 hg StOk.nil;have hw:=h4 l[i] (iW hi);have hne:=(xK hw).2.1 ho;have hin:=h3.inmost hne;refine⟨(qs s).toNat,?_,by omega⟩;rw[h1]
 congr 1
 omega
end
section
variable {g h:AH} {L R:List SP}
theorem Sel.app {A A':List SP} {P:SP} (s:Sel A P A') (R:List SP):Sel (A++R) P (A'++R):=by
 induction s with
 |here=>exact .here
 |there s ih=>exact .there ih
theorem HS.allSel {A A':List SP} {P:SP} (s:Sel A P A') (H:HS g h (.all A::R)):HS g h (P:: .all A'::R):=by have H1:=(H.allE).sel (Sel.app s R);have H2:=HS.allI (HS.back (A:=A') H1);exact H2.sub (.cons e_1 (.refl))
theorem HS.allUn {A A':List SP} {P:SP} (s:Sel A P A') (H:HS g h (P:: .all A'::R)):HS g h (.all A::R):=by have H1:HS g h (.all A'::P::R):=H.sub (.cons e_1 (.refl));have H2:=(H1.allE).sel (Sel.skip A' .here);exact HS.allI (HS.unsel (Sel.app s R) H2)
def RlC (p:AV×AV) (x:LvM):SP:=.all [qA 177 2 x.1.length p.1 (x.1.flatMap jL),qA 3 1 x.2.length p.2 (x.2.map (.int .i64))]
theorem RlC.E {p:AV×AV} {x:LvM} (H:HS g h (RlC p x::R)):HS g h (qA 177 2 x.1.length p.1 (x.1.flatMap jL)::qA 3 1 x.2.length p.2 (x.2.map (.int .i64))::R):=H.allE
theorem RlC.I {p:AV×AV} {x:LvM} (H:HS g h (qA 177 2 x.1.length p.1 (x.1.flatMap jL)::qA 3 1 x.2.length p.2 (x.2.map (.int .i64))::R)):HS g h (RlC p x::R):=H.allI
def Mt (ps:List (AV×AV)):List AV:=ps.reverse.flatMap λp=>[p.1,p.2]
end
section
variable {g h:AH} {L R:List SP}
def frS (lv:List LvM):Nat:=(lv.map λx=>x.2.length).sum
theorem km (x:LvM) (r:List LvM):frS (x::r)=x.2.length+frS r:=by simp[frS]
theorem qG6 {x y:LvM} {r:List LvM}:frS (Qh (x::y::r)).2=frS (x::y::r):=by unfold frS Qh;simp;omega
end
end Go.Proofs.YtepfejdhlgoekaaGreatDoor
