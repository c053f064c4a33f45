/- Lemmas for 'quietus/quietuslaw26.AttemptFresh': A run on a view that knows less: it asks for a word, or does the same. Plain;An attempt alone on a memory: plain: its fetches;Programs that are drawn: they ... No condition. -/
import Derived.Test.YtbiljkdgeekpbabGreatDoorAttemptFreshM2
import Derived.Test.YtbiljkdgeekpbabGreatDoorAttemptFreshM3
import Derived.Test.YtbiljkdgeekpbabGreatDoorAttemptFreshM1
namespace Go.Proofs.YtbiljkdgeekpbabGreatDoor
open Go Go.Ae
set_option maxRecDepth 100000
section
structure xX (V W:VM):Prop where
  sz:V.sz=W.sz
  most:V.most=W.most
  lv:V.lv=W.lv
  K:∀p x,zC p V.K=some x→zC p W.K=some x
theorem xX.same {V W:VM} (h:xX V W) (lv:List LvM):xX { V with lv:=lv } { W with lv:=lv }:=⟨h.sz,h.most,rfl,h.K⟩
theorem xX.read {V W:VM} (h:xX V W) (p:Int):(qR V p).1.2=11∨((qR V p).1=(qR W p).1∧xX (qR V p).2 (qR W p).2):=by
 unfold qR;rw[← h.sz,← h.lv]
 split
 ·cases hl:J5 p V.lv with
  |some x=>exact .inr ⟨rfl,h⟩
  |none=>
   dsimp only;cases hk:zC p V.K with
   |some x=>rw[h.K p x hk];exact .inr ⟨rfl,h⟩
   |none=>exact .inl rfl
 ·exact .inr ⟨rfl,h⟩
theorem xX.take {V W:VM} (h:xX V W) (cs:List Cl):(jd V cs).1=(jd W cs).1∧xX (jd V cs).2 (jd W cs).2:=by
 unfold jd;rw[← h.sz,← h.lv,← h.most]
 split
 ·refine⟨rfl,?_⟩;exact⟨rfl,rfl,rfl,h.K⟩
 ·exact⟨rfl,h⟩
theorem xX.ask {V W:VM} (h:xX V W) (b:Int):(jM V b).1.2.2=11∨((jM V b).1=(jM W b).1∧xX (jM V b).2 (jM W b).2):=by
 unfold jM;rw[← h.sz]
 split
 ·exact .inr ⟨rfl,h⟩
 ·rcases h.read (b-1)with e |⟨e,h2⟩
  ·rw[e];exact .inl rfl
  ·rw[← e]
   split
   ·split
    ·exact .inr ⟨rfl,h2⟩
    ·exact .inr ⟨rfl,h2⟩
   ·exact .inr ⟨rfl,h2⟩
theorem xX.again {V W:VM} (h:xX V W) (c b:Int):(xA V c b).1.2=11∨((xA V c b).1=(xA W c b).1∧xX (xA V c b).2 (xA W c b).2):=by
 unfold xA
 split
 ·exact .inr ⟨rfl,h⟩
 ·rcases h.read b with e |⟨e,h2⟩
  ·rw[e];exact .inl rfl
  ·rw[← e];have ht:=h2.take [(c,(qR V b).1.1),(b-1,c+8)];rw[← ht.1]
   split
   ·split
    ·exact .inr ⟨rfl,ht.2⟩
    ·exact .inr ⟨rfl,ht.2⟩
   ·exact .inr ⟨rfl,h2⟩
theorem xX.grown {V W:VM} (h:xX V W) (c:Int):(xy V c).1.2=11∨((xy V c).1=(xy W c).1∧xX (xy V c).2 (xy W c).2):=by
 unfold xy;rw[← h.sz];rcases h.read 5 with e |⟨e,h2⟩
 ·rw[e];exact .inl rfl
 ·rw[← e];have ht:=h2.take [(5,(qR V 5).1.1+1+yr c),((qR V 5).1.1,c+8)];rw[← ht.1]
  split
  ·split
   ·exact .inr ⟨rfl,h2⟩
   ·split
    ·exact .inr ⟨rfl,ht.2⟩
    ·exact .inr ⟨rfl,ht.2⟩
  ·exact .inr ⟨rfl,h2⟩
theorem xX.alloc {V W:VM} (h:xX V W) (n:Int):(zD V n).1.2=11∨((zD V n).1=(zD W n).1∧xX (zD V n).2 (zD W n).2):=by
 unfold zD
 split
 ·exact .inr ⟨rfl,h⟩
 ·rcases h.read (zp n)with e |⟨e,h2⟩
  ·rw[e];exact .inl rfl
  ·rw[← e]
   split
   ·split
    ·exact h2.grown _
    ·exact h2.again _ _
   ·exact .inr ⟨rfl,h2⟩
theorem xX.free {V W:VM} (h:xX V W) (b:Int):(yf V b).1=11∨((yf V b).1=(yf W b).1∧xX (yf V b).2 (yf W b).2):=by
 unfold yf;rcases h.ask b with e |⟨e,h2⟩
 ·rw[e];exact .inl rfl
 ·rw[← e];have ht:=h2.take [(b-1,(jM V b).1.1)];rw[← ht.1]
  split
  ·split
   ·split
    ·refine .inr ⟨rfl,?_⟩;unfold freeV;rw[← ht.2.lv];exact⟨ht.2.sz,ht.2.most,rfl,ht.2.K⟩
    ·exact .inr ⟨ht.1,ht.2⟩
   ·exact .inr ⟨rfl,h2⟩
  ·exact .inr ⟨rfl,h2⟩
theorem xX.give {V W:VM} (h:xX V W) (b:Int):(xZ V b).1=11∨((xZ V b).1=(xZ W b).1∧xX (xZ V b).2 (xZ W b).2):=by
 unfold xZ;rcases h.ask b with e |⟨e,h2⟩
 ·rw[e];exact .inl rfl
 ·rw[← e]
  split
  ·split
   ·exact .inr ⟨rfl,h2⟩
   ·rcases h2.read (jM V b).1.1 with e2 |⟨e2,h3⟩
    ·rw[e2];exact .inl rfl
    ·rw[← e2]
     split
     ·exact .inr (h3.take _)
     ·exact .inr ⟨rfl,h3⟩
  ·exact .inr ⟨rfl,h2⟩
theorem xX.open' {V W:VM} (h:xX V W):(yv V).1=(yv W).1∧xX (yv V).2 (yv W).2:=by unfold yv;rw[← h.lv];exact⟨rfl,h.same _⟩
theorem xX.drop {V W:VM} (h:xX V W):(zu V).1=(zu W).1∧xX (zu V).2 (zu W).2:=by unfold zu;rw[← h.lv];exact⟨rfl,h.same _⟩
theorem xX.keep {V W:VM} (h:xX V W):(yT V).1=(yT W).1∧xX (yT V).2 (yT W).2:=by unfold yT;rw[← h.lv];exact⟨rfl,h.same _⟩
structure X9 (a b:SM):Prop where
  e:a.e=b.e
  nx:a.nx=b.nx
  blk:a.blk=b.blk
  s:a.s=b.s
  v:xX a.v b.v
theorem xX.begin_ {V W:VM} (h:xX V W) (op a nx:Int) (s:IM):X9 (zF op a nx s V) (zF op a nx s W):=by
 unfold zF;rw[← h.open'.1]
 split
 ·exact⟨rfl,rfl,rfl,rfl,h.open'.2⟩
 ·exact⟨rfl,rfl,rfl,rfl,h.open'.2⟩
theorem xX.retry {mt:List Int} {s:IM}:∀(o:List PtM) {V W:VM},xX V W→X9 (yB mt o s V) (yB mt o s W):=by
 intro o
 induction o with
 |nil=>intro V W h;exact⟨rfl,rfl,rfl,rfl,h⟩
 |cons p o ih=>
  intro V W h;unfold yB;rw[← h.drop.1]
  split
  ·split
   ·exact h.drop.2.begin_ ..
   ·exact ih h.drop.2
  ·exact⟨rfl,rfl,rfl,rfl,h.drop.2⟩
theorem xX.turn {V W:VM} (h:xX V W) (mt:List Int) (s:IM) (op:Int):X9 (g9 mt s V op) (g9 mt s W op):=by
 unfold g9
 split
 ·exact h.begin_ ..
 ·split
  ·exact⟨h.keep.1,rfl,rfl,rfl,h.keep.2⟩
  ·split
   ·exact⟨h.keep.1,rfl,rfl,rfl,h.keep.2⟩
   ·split
    ·exact⟨h.drop.1,rfl,rfl,rfl,h.drop.2⟩
    ·exact xX.retry _ h
theorem xX.touch {V W:VM} (h:xX V W) (s:IM) (x:qb):(jP s V x).1=11∨((jP s V x).1=(jP s W x).1∧(jP s V x).2.1=(jP s W x).2.1∧xX (jP s V x).2.2 (jP s W x).2.2):=by
 unfold jP
 split
 ·split
  ·rcases h.read (xc (qD s.regs x.2.2.1) x.2.2.2.1).1 with e |⟨e,h2⟩
   ·rw[e];exact .inl rfl
   ·rw[← e]
    split
    ·exact .inr ⟨rfl,rfl,h2⟩
    ·exact .inr ⟨rfl,rfl,h2⟩
  ·exact .inr ⟨rfl,rfl,h⟩
 ·split
  ·split
   ·have ht:=h.take [((xc (qD s.regs x.2.1) x.2.2.2.1).1,qD s.regs x.2.2.1)];exact .inr ⟨ht.1,rfl,ht.2⟩
   ·exact .inr ⟨rfl,rfl,h⟩
  ·split
   ·split
    ·exact .inr ⟨rfl,rfl,h⟩
    ·rcases h.alloc (qD s.regs x.2.2.1)with e |⟨e,h2⟩
     ·rw[e];exact .inl rfl
     ·rw[← e]
      split
      ·exact .inr ⟨rfl,rfl,h2⟩
      ·exact .inr ⟨rfl,rfl,h2⟩
   ·split
    ·exact .inr ⟨rfl,rfl,h⟩
    ·rcases h.free (qD s.regs x.2.1)with e |⟨e,h2⟩
     ·exact .inl e
     ·exact .inr ⟨e,rfl,h2⟩
theorem xf {c:Prop} [Decidable c] {a b a' b':SM} (ha:a.e=11∨X9 a a') (hb:b.e=11∨X9 b b'):(if c then a else b).e=11∨X9 (if c then a else b) (if c then a' else b'):=by
 split
 ·exact ha
 ·exact hb
theorem xX.do_ {V W:VM} (h:xX V W) (mt:List Int) (s:IM) (x:qb):(doM mt s V x).e=11∨X9 (doM mt s V x) (doM mt s W x):=by
 have sm:∀(e nx:Int) (b:Bool) (s':IM),(⟨e,nx,b,s',V⟩:SM).e=11∨X9 ⟨e,nx,b,s',V⟩ ⟨e,nx,b,s',W⟩:=λe nx b s'=>.inr ⟨rfl,rfl,rfl,rfl,h⟩;unfold doM;refine xf (sm ..) (xf (sm ..) (xf (sm ..) (xf (sm ..) (xf (sm ..) (xf (sm ..) (xf (sm ..) (xf (sm ..) (xf (sm ..) (xf (xf (sm ..) (sm ..)) (xf (sm ..) (xf ?_ (.inr (h.turn ..)))))))))))));rcases h.touch s x with e |⟨e1,e2,h2⟩
 ·exact .inl e
 ·exact .inr ⟨e1,rfl,rfl,e2,h2⟩
end
section
inductive Stp:Nat→jI→jT→jI→jT→Prop
  |nil {x:jI} {M:jT}:Stp 0 x M x M
  |cons {k:Nat} {x y:jI} {M N:jT} {o:OpM} (hn:yY x=some o) (r:Stp k (zT x (zz M o).1) (zz M o).2 y N):Stp (k+1) x M y N
theorem Stp.trans {a b:Nat} {x y z:jI} {M N O:jT} (s:Stp a x M y N) (t:Stp b y N z O):Stp (a+b) x M z O:=by
 induction s with
 |nil=>rw[Nat.zero_add];exact t
 |cons hn _ ih=>rw[Nat.add_right_comm];exact .cons hn (ih t)
theorem Stp.one {x y:jI} {M N:jT} {o:OpM} (hn:yY x=some o) (e:zz M o=(⟨0,lk0,false,0⟩,N)) (h:zT x ⟨0,lk0,false,0⟩=y):Stp 1 x M y N:=by refine .cons hn ?_;rw[e];dsimp only;rw[h];exact .nil
theorem Stp.step {x y:jI} {M N:jT} {o:OpM} {a:AnM} (hn:yY x=some o) (e:zz M o=(a,N)) (h:zT x a=y):Stp 1 x M y N:=by refine .cons hn ?_;rw[e];dsimp only;rw[h];exact .nil
def bump (M:jT) (k:Int):jT:={ M with cnt:=M.cnt+k }
structure YU (S:zi) (M:jT) (me:Int):Prop where
  w:(M.w.length:Int)=S.words
  l:(M.l.length:Int)=S.stripes
  s:(M.s.length:Int)=S.threads
  me:0≤me∧me<S.threads
  lk:∀i:Nat,i<M.l.length→∃v:Int,jN M.l i=(v,false,0)∧0≤v∧v≤M.n
  n:0≤M.n∧M.n<4611686018427387902
  wd:∀z∈M.w,0≤z∧z<18446744073709551616
section
variable {S:zi} {M:jT} {me:Int}
theorem YU.bump (C:YU S M me) (k:Int):YU S (bump M k) me:=⟨C.w,C.l,C.s,C.me,C.lk,C.n,C.wd⟩
theorem YU.at (C:YU S M me) {s:Int} (h:0≤s∧s<S.stripes):∃v:Int,jN M.l s=(v,false,0)∧0≤v∧v≤M.n:=by have hl:=C.l;obtain⟨k,rfl⟩:∃k:Nat,s=k:=⟨s.toNat,by omega⟩;exact C.lk k omQ
structure Yu (S:zi) (M:jT) (r:List z6):Prop where
  at_:∀y∈r,0≤y.1∧y.1<S.stripes∧y.2=(jN M.l y.1).1
  un:(r.map (·.1)).Nodup
theorem Yu.len {r:List z6} (O:JG S) (R:Yu S M r):r.length≤16:=by
 have:=YE 16 (r.map (·.1)) R.un (λx hx=>by
  obtain⟨y,hy,rfl⟩:=List.mem_map.1 hx;have h1:=R.at_ y hy;have h2:=O.stripes
  omega)
 simpa using this
theorem Yu.add {r:List z6} (O:JG S) (C:YU S M me) (R:Yu S M r) {s:Int} (hs:0≤s∧s<S.stripes):(ga r (s,(jN M.l s).1)).1=0∧Yu S M (ga r (s,(jN M.l s).1)).2:=by
 obtain⟨v,e,h0,h1⟩:=C.at hs;have hst:=O.stripes;have hn:=C.n;unfold ga;rw[iQ (by rw[e];dsimp only;omega)];cases hf:r.find? λy=>decide (y.1=(s,(jN M.l s).1).1)with
 |some y=>
  dsimp only;have hy:=List.find?_some hf;have hm:=List.mem_of_find?_eq_some hf;have h2:=R.at_ y hm;have hys:y.1=s:=by simpa using hy
  rw[iQ (by rw[h2.2.2,hys];exact λh=>h rfl)];exact⟨rfl,R⟩
 |none=>
  dsimp only;have hno:∀y∈r,y.1≠s:=λy hy h=>by
   have:=List.find?_eq_none.1 hf y hy;simp[h]at this
  have hnd:(s::r.map (·.1)).Nodup:=List.nodup_cons.2 ⟨λh=>by obtain⟨y,hy,h2⟩:=List.mem_map.1 h;exact hno y hy h2,R.un⟩
  have hl:=YE 16 _ hnd (λx hx=>by
   rcases List.mem_cons.1 hx with rfl |hx
   ·omega
   ·obtain⟨y,hy,rfl⟩:=List.mem_map.1 hx;have h1:=R.at_ y hy
    omega)
  simp at hl;rw[iQ omQ];refine⟨rfl,λy hy=>?_,?_⟩
  ·rcases List.mem_append.1 hy with hy |hy
   ·exact R.at_ y hy
   ·rw[List.mem_singleton]at hy;subst hy;exact⟨hs.1,hs.2,rfl⟩
  ·show((r++[(s,(jN M.l s).1)]).map (·.1)).Nodup;rw[List.map_append,List.nodup_append];refine⟨R.un,List.nodup_cons.2 ⟨λh=>(by cases h),List.nodup_nil⟩,λa ha b hb=>?_⟩;obtain⟨y,hy,rfl⟩:=List.mem_map.1 ha;rw[List.map_singleton,List.mem_singleton]at hb;subst hb;exact hno y hy
end
end
section
theorem Jm {l t:List qb} {j:Nat} (h:j<l.length):qP (l++t) (j:Int)=qP l (j:Int):=by unfold qP;rw[Int.toNat_natCast,List.getElem?_append_left h]
theorem QI {l t:List qb} {k:Nat} {x:qb} (h:t[k]? =some x):qP (l++t) ((l.length+k:Nat):Int)=x:=by unfold qP;rw[Int.toNat_natCast,List.getElem?_append_right omQ,show l.length+k-l.length=k by omega,h];rfl
theorem gn {l t:List qb}:∀i,i≤l.length→qy (l++t) i=qy l i:=by
 intro i
 induction i with
 |zero=>intro _;rfl
 |succ i ih=>intro h;rw[jk,jk,ih omQ,Jm omQ]
theorem qVl {l t:List qb} {st:List Int} (h:StOk l.length st):opM (l++t) st=opM l st:=by
 unfold opM;by_cases h0:st=[]
 ·rw[iJ h0,iJ h0]
 ·rw[iQ h0,iQ h0];have hb:=h.inmost h0;obtain⟨p,hp⟩:∃p:Nat,jZ st=p:=⟨(jZ st).toNat,by omega⟩;rw[hp,Jm omQ]
theorem KQ {l t:List qb} {st:List Int} {x:qb} (h:StOk l.length st):zE (l++t) st x=zE l st x:=by unfold zE;rw[qVl h]
theorem StOk.mono {i j:Nat} {st:List Int} (h:StOk i st) (hij:i≤j):StOk j st:=λy hy=>by have:=h y hy;omega
def qXn (l:List qb) (calm:Bool) (j:Nat) (x:qb):Prop:=(x.1=12∨x.1=13)→∃c:Nat,x.2.2.2.1=c∧c≤l.length∧qy l c=qy l j∧(calm=true→j<c)
structure Xs (calm:Bool) (x:qb):Prop where
  may:kb x=true
  no:x.1≠23
  n:0≤x.2.2.2.2∧x.2.2.2.2<18446744073709551616
  cal:calm=true→x.1≠20∧x.1≠22∧x.1≠12
structure Bld (calm:Bool) (l:List qb) (st:List Int):Prop where
  ok:∀x∈l,Xs calm x
  wr:∀j,j<l.length→zE l (qy l j) (qP l j)=0
  top:qy l l.length=st
  jp:∀j,j<l.length→qXn l calm j (qP l j)
  five:st.length≤5
def gk (l:List qb) (st:List Int):List Int:=st.map λp=>(qP l p).1
theorem UX {l t:List qb} {st:List Int} (h:StOk l.length st):gk (l++t) st=gk l st:=by unfold gk;refine List.map_congr_left λp hp=>?_;have:=h p hp;obtain⟨q,rfl⟩:∃q:Nat,p=q:=⟨p.toNat,by omega⟩;rw[Jm omQ]
theorem Bld.stok {calm:Bool} {l:List qb} {st:List Int} (B:Bld calm l st):StOk l.length st:=by rw[← B.top];exact(YJ l.length).1
theorem Bld.nil (calm:Bool):Bld calm [] []:=⟨λx hx=>(by cases hx),λj hj=>(by simp at hj),rfl,λj hj=>(by simp at hj),osQ⟩
theorem Bld.ext {calm:Bool} {l t:List qb} {st:List Int} (B:Bld calm l st) (h1:∀x∈t,Xs calm x) (h2:∀k,k<t.length→zE (l++t) (qy (l++t) (l.length+k)) (qP (l++t) ((l.length+k:Nat):Int))=0)
  (h3:∀k,k<t.length→qXn (l++t) calm (l.length+k) (qP (l++t) ((l.length+k:Nat):Int))) (h5:(qy (l++t) (l++t).length).length≤5):Bld calm (l++t) (qy (l++t) (l++t).length):=by
 refine⟨?_,?_,rfl,?_,h5⟩
 ·intro x hx;rcases List.mem_append.1 hx with hx |hx
  ·exact B.ok x hx
  ·exact h1 x hx
 ·intro j hj;by_cases hjl:j<l.length
  ·rw[gn j omQ,Jm hjl,KQ ((YJ j).1.mono omQ)];exact B.wr j hjl
  ·have:=h2 (j-l.length) (by simp at hj;omega)
   rwa [show l.length+(j-l.length)=j by omega]at this
 ·intro j hj;by_cases hjl:j<l.length
  ·intro ho;rw[Jm hjl]at ho ⊢;obtain⟨c,c1,c2,c3,c4⟩:=B.jp j hjl ho;exact⟨c,c1,by simp;omega,by rw[gn c c2,gn j omQ];exact c3,c4⟩
  ·have:=h3 (j-l.length) (by simp at hj;omega)
   rwa [show l.length+(j-l.length)=j by omega]at this
theorem qQO {l:List qb} {x:qb}:qy (l++[x]) (l.length+1)=jQ (qy l l.length) l.length x.1:=by have e:=QI (l:=l) (t:=[x]) (k:=0) (x:=x) rfl;rw[Nat.add_zero]at e;rw[jk,gn _ (Nat.le_refl _),e]
theorem Bld.app {calm:Bool} {l:List qb} {st:List Int} (B:Bld calm l st) {x:qb} (h1:Xs calm x) (h2:zE l st x=0) (h3:x.1≠12∧x.1≠13) (h5:(jQ st l.length x.1).length≤5):Bld calm (l++[x]) (jQ st l.length x.1):=by
 have e:=QI (l:=l) (t:=[x]) (k:=0) (x:=x) rfl;rw[Nat.add_zero]at e;have hs:qy (l++[x]) (l++[x]).length=jQ st l.length x.1:=by rw[List.length_append,List.length_singleton,qQO,B.top]
 rw[← hs]at h5 ⊢;refine B.ext (by intro y hy;rw[List.mem_singleton]at hy;subst hy;exact h1) ?_ ?_ h5
 ·intro k hk;obtain rfl:k=0:=by simpa using hk
  rw[Nat.add_zero,e,gn _ (Nat.le_refl _),B.top,KQ B.stok];exact h2
 ·intro k hk;obtain rfl:k=0:=by simpa using hk
  rw[Nat.add_zero,e];intro ho;omega
def Flat (op:Int):Prop:=op≠14∧op≠15∧op≠16∧op≠17∧op≠18∧op≠19
theorem Flat.behind {op:Int} (h:Flat op) (st:List Int) (i:Int):jQ st i op=st:=by obtain⟨h1,h2,h3,h4,h5,h6⟩:=h;unfold jQ;rw[iQ (by unfold zl;simp;omega),iQ (by unfold ja;rw[iQ h2,iQ h5,iQ h6];omega)]
theorem Flat.wrong {x:qb} (h:Flat x.1) (hm:kb x=true) (l:List qb) (st:List Int):zE l st x=0:=by
 obtain⟨h1,h2,h3,h4,h5,h6⟩:=h;unfold zE
 rw[iQ (by rw[hm];simp),iQ (λhh=>by have:=hh.1;unfold ja at this;rw[iQ h2,iQ h5,iQ h6]at this;omega),iQ (λhh=>h3 hh.1),
  iQ (λhh=>by have:=hh.1;unfold zl at this;simp at this;omega)]
theorem Bld.flat {calm:Bool} {l:List qb} {st:List Int} (B:Bld calm l st) {x:qb} (h1:Xs calm x) (hf:Flat x.1) (h3:x.1≠12∧x.1≠13):Bld calm (l++[x]) st:=by
 have:=B.app h1 (hf.wrong h1.may l st) h3 (by rw[hf.behind];exact B.five)
 rwa [hf.behind]at this
theorem Bld.two {calm:Bool} {l:List qb} {st:List Int} (B:Bld calm l st) {x y:qb} (hx:Xs calm x) (hy:Xs calm y) (fx:Flat x.1) (fy:Flat y.1)
  (jx:(x.1=12∨x.1=13)→x.2.2.2.1=((l.length+2:Nat):Int)) (jy:(y.1=12∨y.1=13)→y.2.2.2.1=(l.length:Int)∧calm=false):Bld calm (l++[x,y]) st:=by
 have e0:=QI (l:=l) (t:=[x,y]) (k:=0) (x:=x) rfl;have e1:=QI (l:=l) (t:=[x,y]) (k:=1) (x:=y) rfl;rw[Nat.add_zero]at e0;have s0:qy (l++[x,y]) l.length=st:=by rw[gn _ (Nat.le_refl _),B.top]
 have s1:qy (l++[x,y]) (l.length+1)=st:=by rw[jk,s0,e0,fx.behind]
 have s2:qy (l++[x,y]) (l.length+2)=st:=by rw[show l.length+2=l.length+1+1 from rfl,jk,s1,e1,fy.behind]
 have hs:qy (l++[x,y]) (l++[x,y]).length=st:=by rw[List.length_append];exact s2
 have:=B.ext (t:=[x,y]) (by intro z hz;simp at hz;rcases hz with rfl |rfl;exact hx;exact hy) (λk hk=>by
  have hk:k=0∨k=1:=by simp at hk;omega
  rcases hk with rfl |rfl
  ·rw[Nat.add_zero,e0];exact fx.wrong hx.may _ _
  ·rw[e1];exact fy.wrong hy.may _ _) (λk hk=>by
  have hk:k=0∨k=1:=by simp at hk;omega
  rcases hk with rfl |rfl
  ·rw[Nat.add_zero,e0];intro ho;exact⟨l.length+2,jx ho,by simp,by rw[s2,s0],λ_=>by omega⟩
  ·rw[e1];intro ho;obtain⟨a,b⟩:=jy ho
   exact⟨l.length,a,by simp,by rw[s0,s1],λh=>by rw[b]at h;cases h⟩) (by rw[hs];exact B.five)
 rwa [hs]at this
abbrev one (op:Int):qb:=(op,0,0,0,0)
theorem qXi (calm:Bool) {op:Int} (h:op=14∨op=15∨op=16∨op=17∨op=18∨op=19):Xs calm (one op):=by refine⟨?_,by dsimp only;omega,by dsimp only;omega,λ_=>by dsimp only;omega⟩;rcases h with rfl |rfl |rfl |rfl |rfl |rfl<;>decide
theorem Bld.begin {calm:Bool} {l:List qb} {st:List Int} (B:Bld calm l st) {op:Int} (h:op=14∨op=17) (h5:st.length<5):Bld calm (l++[one op]) (st++[(l.length:Int)])∧gk (l++[one op]) (st++[(l.length:Int)])=gk l st++[op]:=by
 have hb:jQ st l.length op=st++[(l.length:Int)]:=by unfold jQ;rw[iJ (.inl (by unfold zl;exact iG h)),iQ (by rcases h with rfl |rfl<;>decide)]
 have hw:zE l st (one op)=0:=by unfold zE;rw[iQ (by rcases h with rfl |rfl<;>decide),iQ (λhh=>by have:=hh.1;rcases h with rfl |rfl<;>exact absurd this od),iQ (λhh=>by have:=hh.1;dsimp only at this;omega),iQ omQ]
 have:=B.app (x:=one op) (qXi calm omQ) hw (by dsimp only;omega) (by rw[hb];simp;omega);rw[hb]at this;refine⟨this,?_⟩;unfold gk;rw[List.map_append]
 congr 1
 ·exact UX B.stok
 ·have e:=QI (l:=l) (t:=[one op]) (k:=0) (x:=one op) rfl;rw[Nat.add_zero]at e;rw[List.map_singleton,e]
def vF (o:Int):Int:=if o=14 then 15 else if o=17 then 18 else 19
def qK3 (l:List qb) (st:List Int):List qb:=l++[one (vF (opM l st))]
def KO (l:List qb) (st:List Int):List Int:=if opM l st=17 then st.dropLast++[(l.length:Int)]else st.dropLast
theorem Bld.shut {calm:Bool} {l:List qb} {st:List Int} (B:Bld calm l st) (hn:st≠[]) (ho:opM l st=14∨opM l st=17∨opM l st=18):Bld calm (qK3 l st) (KO l st)∧
  gk (qK3 l st) (KO l st)=(gk l st).dropLast++(if opM l st=17 then[18]else[]):=by
 have hs:ja (vF (opM l st))=opM l st:=by rcases ho with h |h |h<;>rw[h]<;>decide
 have hso:vF (opM l st)=15∨vF (opM l st)=18∨vF (opM l st)=19:=by
  unfold vF
  repeat' split
  all_goals omega
 have he:0<ja (vF (opM l st)):=by rw[hs];omega
 have hlen:=List.length_pos_iff.2 hn;have hb:jQ st l.length (vF (opM l st))=KO l st:=by
  unfold jQ KO;rw[iJ he];by_cases h17:opM l st=17
  ·rw[iJ h17,iJ (.inr (by rw[h17];decide))]
  ·rw[iQ h17,iQ];rcases ho with h |h |h
   ·rw[h];decide
   ·exact absurd h h17
   ·rw[h];decide
 have hw:zE l st (one (vF (opM l st)))=0:=by
  unfold zE
  rw[iQ (by rcases hso with h |h |h<;>rw[h]<;>decide),iQ (λhh=>hh.2 hs.symm),iQ (λhh=>by have:=hh.1;dsimp only at this;omega),iQ (λhh=>by
   have:=hh.1
   rcases hso with h |h |h<;>rw[h]at this<;>exact absurd this od)]
 have h5:=B.five;have:=B.app (x:=one (vF (opM l st))) (qXi calm omQ) hw (by dsimp only;omega) (by rw[hb];unfold KO;split<;>simp<;>omega);rw[hb]at this;refine⟨this,?_⟩;unfold qK3 KO gk;have hd:(st.dropLast.map λp=>(qP (l++[one (vF (opM l st))]) p).1)=(gk l st).dropLast:=by have:=UX (t:=[one (vF (opM l st))]) B.stok.dropLast;unfold gk at this ⊢;rw[this,List.map_dropLast]
 split
 ·rename_i h17;have e:=QI (l:=l) (t:=[one (vF (opM l st))]) (k:=0) (x:=one (vF (opM l st))) rfl;rw[Nat.add_zero]at e;rw[List.map_append,hd,List.map_singleton,e,h17];rfl
 ·rw[hd,List.append_nil];rfl
theorem qK9 {l:List qb} {st:List Int} (hn:st≠[]):opM l st=(gk l st).getLast?.getD 0:=by unfold opM gk jZ;rw[iQ hn,List.getLast?_map,List.getLast?_eq_some_getLast hn];rfl
end
section
variable {g h:AH} {L R:List SP}
def OkN (zs:List Int):Prop:=∀z∈zs,0≤z∧z<18446744073709551616
theorem OkN.set {zs:List Int} {i:Nat} {x:Int} (h:OkN zs) (hx:0≤x∧x<18446744073709551616):OkN (zs.set i x):=by
 intro z hz;rcases List.mem_or_eq_of_mem_set hz with h1 |rfl
 ·exact h z h1
 ·exact hx
def OkZ (zs:List Int):Prop:=OkN zs∧zs[0]? =some 0
theorem OkZ.set {zs:List Int} {i:Nat} {x:Int} (h:OkZ zs) (hx:0≤x∧x<18446744073709551616) (hi:0<i):OkZ (zs.set i x):=⟨h.1.set hx,by rw[List.getElem?_set_ne omQ];exact h.2⟩
end
section
variable {g h:AH} {L R:List SP}
structure qX1 (x:qb):Prop where
  flat:Flat x.1
  nj:x.1≠12∧x.1≠13
  ok:∀calm,Xs calm x
theorem qX1.of {x:qb} (h1:kb x=true) (h2:(1≤x.1∧x.1≤11)∨x.1=21) (h3:0≤x.2.2.2.2∧x.2.2.2.2<18446744073709551616):qX1 x :=
 ⟨⟨by omega,by omega,by omega,by omega,by omega,by omega⟩,by omega,λ_=>⟨h1,by omega,h3,λ_=>by omega⟩⟩
end
section
variable {g h:AH} {L R:List SP}
theorem Ks (l:List qb) (st:List Int):(gk l st).length=st.length:=by simp[gk]
theorem qYm {l:List qb} {st:List Int} (hn:st≠[]):(gk l st)[st.length-1]? =some (opM l st):=by have hl:=List.length_pos_iff.2 hn;rw[qK9 hn,List.getLast?_eq_getElem?,Ks,iW (by rw[Ks];omega)];rfl
def OpsK (l:List qb) (st:List Int):Prop:=∀o∈gk l st,o=14∨o=17∨o=18
theorem OpsK.at {l:List qb} {st:List Int} (h:OpsK l st) (hne:st≠[]):opM l st=14∨opM l st=17∨opM l st=18:=h _ (List.mem_of_getElem? (qYm hne))
end
section
variable {g h:AH} {L R:List SP}
theorem UY {b o:Nat} {K:AV→Go.Ae.R} {Q:AV→AH→Prop} (w:wp (K (.bool false)) Q):wp (pEq .ptr false (.ptr b o) .nilp K) Q:=w
theorem OA {b o:Nat} {K:AV→Go.Ae.R} {Q:AV→AH→Prop} (w:wp (K (.bool true)) Q):wp (pEq .ptr true (.ptr b o) .nilp K) Q:=w
section
variable {x y v u:Nat} {l l':List qb} {b b':Int} {mt mt':List Int} {s s':IM} {e e' f f' n1 n2 nx nx':Int} {V W:VM}
end
end
section
section
variable {S:zi} {M:jT} {me:Int}
structure KnM (M:jT) (V:VM):Prop where
  sz:(V.sz:Int)=M.w.length
  K:∀p x,zC p V.K=some x→x=qD M.w p
end
end
section
section
variable {S:zi} {M:jT} {me:Int}
inductive NH:Nat→jW→jT→jW→jT→Prop
  |nil {c:jW} {M:jT}:NH 0 c M c M
  |cons {k:Nat} {c d:jW} {M N:jT} {o:OpM} {a:AnM} {M1:jT} {c1:jW} (hn:xD c=some o) (e:zz M o=(a,M1)) (h0:a.err=0) (h1:zQ c a=c1) (h2:c1.p.fin=0) (r:NH k c1 M1 d N):NH (k+1) c M d N
theorem NH.trans {a b:Nat} {x y z:jW} {M N O:jT} (s:NH a x M y N) (t:NH b y N z O):NH (a+b) x M z O:=by
 induction s with
 |nil=>rw[Nat.zero_add];exact t
 |cons hn e h0 h1 h2 _ ih=>rw[Nat.add_right_comm];exact .cons hn e h0 h1 h2 (ih t)
end
end
section
theorem M2 {l:List LkM} {a b:Int} {x:LkM} (ha:0≤a) (hb:0≤b) (hl:a<l.length):jN (l.set a.toNat x) b=if a=b then x else jN l b:=by
 unfold jN;rw[List.getElem?_set];by_cases h:a=b
 ·rw[iJ (by rw[h]),iJ omQ,iJ h];rfl
 ·rw[iQ omQ,iQ h]
def stoW (w:List Int) (cs:List Cl):List Int:=cs.foldl (λw c=>w.set c.1.toNat c.2) w
section
variable {S:zi} {M:jT} {me:Int}
theorem qZi {p:gj} {a:AnM} (hp:p.fin=0) (ha:a.err=0):qS p a=(false,p):=by
 unfold qS;rw[iQ (λh=>h.2 ha)]
 congr 1
 exact iV (λh=>h hp)
theorem y8 {c:jW} {a:AnM} (hp:c.p.fin=0) (ha:a.err=0):zQ c a=if c.state=0∨c.state=1 then yz c a
 else if c.state=2∨c.state=3 then x7 c a
 else if c.state=4 then xe c a.lk
 else if c.state=5 then xY { c with at_:=c.at_+1 }
 else if c.state=6 then xF { c with at_:=c.at_+1 }
 else xd { c with at_:=c.at_+1 }:=by
 unfold zQ;rw[qZi hp ha];rfl
theorem qYF {M N:jT} {o:OpM} {a:AnM} (hk:o.kind=1∨o.kind=2) (e:kU M o=(a,N)) (h0:a.err=0):zz M o=(a,{ N with cnt:=N.cnt+1 }):=by
 have e':yc M o=(a,N):=by unfold yc;rw[iJ hk,e]
 rw[wu,e'];exact iJ h0
theorem U8 {M N:jT} {o:OpM} {a:AnM} (hk:o.kind=3∨o.kind=4∨o.kind=5) (e:wn M o=(a,N)) (h0:a.err=0):zz M o=(a,{ N with cnt:=N.cnt+1 }):=by
 have e':yc M o=(a,N):=by unfold yc;rw[iQ omQ,iJ hk,e]
 rw[wu,e'];exact iJ h0
theorem Oi {M N:jT} {o:OpM} {a:AnM} (hk:o.kind=6∨o.kind=7) (e:Q2 M o=(a,N)) (h0:a.err=0):zz M o=(a,{ N with cnt:=N.cnt+1 }):=by
 have e':yc M o=(a,N):=by unfold yc;rw[iQ omQ,iQ omQ,iJ hk,e]
 rw[wu,e'];exact iJ h0
end
end
section
def zd (n:Int):List Cl:=[(9,n),(6,n),(13,n)]
structure JK (S:zi) (ss:List Int) (M:jT):Prop where
  w:M.w.length=32
  up:ss.Pairwise (· < ·)
  in_:∀s∈ss,0≤s∧s<M.l.length
  st:∀p,gX p→stF S p∈ss
  ne:0<ss.length
def wK (M:jT) (v:Int):Prop:=∀p,gX p→qD M.w p=v
def TakF (ss:List Int) (M:jT) (k:Nat) (v:Int):Prop:=∀(j:Nat) (s:Int),ss[j]? =some s→jN M.l s=if j<k then(v,true,1)else(v,false,0)
def GivF (ss:List Int) (M:jT) (k:Nat) (v:Int):Prop:=∀(j:Nat) (s:Int),ss[j]? =some s→jN M.l s=if j<k then(v+1,false,0)else(v,true,1)
inductive PhF (ss:List Int) (c:jW) (M:jT) (v:Int):Prop
  |look (f:c.p.fin=0) (s:c.state=0) (k:c.was.length<ss.length) (t:TakF ss M c.was.length v) (n:M.n=v) (w:wK M v)
  |take (f:c.p.fin=0) (s:c.state=1) (k:c.was.length<ss.length) (t:TakF ss M c.was.length v) (n:M.n=v) (w:wK M v) (lk:c.lk=(v,false,0))
  |ask (f:c.p.fin=0) (s:c.state=2) (t:TakF ss M ss.length v) (n:M.n=v) (w:wK M v)
  |raise (f:c.p.fin=0) (s:c.state=3) (t:TakF ss M ss.length v) (n:M.n=v) (w:wK M v) (now:c.now=v)
  |store (f:c.p.fin=0) (s:c.state=5) (i:Nat) (at_:c.at_=i) (i3:i<3) (t:TakF ss M ss.length v) (n:M.n=v+1) (now:c.now=v) (w:∀(j:Nat) (q:Cl),j<i→(zd (v+1))[j]? =some q→qD M.w q.1=v+1)
  |give (f:c.p.fin=0) (s:c.state=6) (i:Nat) (at_:c.at_=i) (il:i<ss.length) (t:GivF ss M i v) (n:M.n=v+1) (now:c.now=v) (w:wK M (v+1))
  |done (f:c.p.fin=2) (t:GivF ss M ss.length v) (n:M.n=v+1) (w:wK M (v+1))
structure kj (S:zi) (ss:List Int) (c:jW) (M:jT) (v:Int):Prop where
  room:JK S ss M
  me:c.me=1
  s:c.s=ss
  seen:c.seen=[]
  cells:c.cells=zd (v+1)
  stamp:c.stamp=v
  v0:0≤v
  v1:v+1<4611686018427387903
  ph:PhF ss c M v
structure kP (S:zi) (ss:List Int) (M:jT) (v:Int):Prop where
  room:JK S ss M
  t:TakF ss M 0 v
  n:M.n=v
  w:wK M v
variable {S:zi} {ss:List Int} {c:jW} {M M':jT} {v:Int}
theorem JK.at (R:JK S ss M) {p:Int} (hp:gX p):∃j:Nat,j<ss.length∧ss[j]? =some (stF S p):=by obtain⟨j,hj,e⟩:=List.mem_iff_getElem.1 (R.st p hp);exact⟨j,hj,by rw[iW hj,e]⟩
theorem TakF.see (R:JK S ss M) {k:Nat} (t:TakF ss M k v) (h:k=ss.length∧v≤M.n∨M.n=v∧wK M v):MD S M:=by
 refine⟨λp hp hf=>?_,λp hp=>?_⟩
 ·obtain⟨j,hj,e⟩:=R.at hp;have q:=t j _ e;by_cases hk:j<k
  ·rw[iJ hk]at q;rw[q]at hf;cases hf
  ·rw[iQ hk]at q;rcases h with⟨h,_⟩ |⟨h1,h2⟩
   ·omega
   ·rw[h1];exact⟨h2 p hp,q⟩
 ·obtain⟨j,hj,e⟩:=R.at hp;have q:=t j _ e;rw[q];rcases h with⟨_,h⟩ |⟨h,_⟩<;>(split<;>(show v≤M.n;omega))
theorem GivF.see (R:JK S ss M) {k:Nat} (t:GivF ss M k v) (n:M.n=v+1) (w:wK M (v+1)):MD S M:=by
 refine⟨λp hp hf=>?_,λp hp=>?_⟩
 ·obtain⟨j,hj,e⟩:=R.at hp;have q:=t j _ e;by_cases hk:j<k
  ·rw[iJ hk]at q;rw[n];exact⟨w p hp,q⟩
  ·rw[iQ hk]at q;rw[q]at hf;cases hf
 ·obtain⟨j,hj,e⟩:=R.at hp;have q:=t j _ e;rw[q,n]
  split
  ·exact Int.le_refl _
  ·show v≤v+1;omega
theorem kP.see (R:kP S ss M v):MD S M:=R.t.see R.room (.inr ⟨R.n,R.w⟩)
theorem kj.see (W:kj S ss c M v):MD S M:=by
 cases W.ph with
 |look f s k t n w=>exact t.see W.room (.inr ⟨n,w⟩)
 |take f s k t n w lk=>exact t.see W.room (.inr ⟨n,w⟩)
 |ask f s t n w=>exact t.see W.room (.inr ⟨n,w⟩)
 |raise f s t n w now=>exact t.see W.room (.inr ⟨n,w⟩)
 |store f s i at_ i3 t n now w=>exact t.see W.room (.inl ⟨rfl,by omega⟩)
 |give f s i at_ il t n now w=>exact t.see W.room n w
 |done f t n w=>exact t.see W.room n w
theorem Od (h:ss.Pairwise (· < ·)) {j k:Nat} {s:Int} (hj:ss[j]? =some s) (hk:ss[k]? =some s):j=k:=by
 rw[List.pairwise_iff_getElem]at h;obtain⟨j1,j2⟩:=List.getElem?_eq_some_iff.1 hj;obtain⟨k1,k2⟩:=List.getElem?_eq_some_iff.1 hk;rcases Nat.lt_trichotomy j k with q |q |q
 ·have:=h j k j1 k1 q;omega
 ·exact q
 ·have:=h k j k1 j1 q;omega
theorem qWO {w:List Int} {a b x:Int} (ha:0≤a) (hb:0≤b) (hl:a<w.length):qD (w.set a.toNat x) b=if a=b then x else qD w b:=by
 unfold qD;by_cases h:a=b
 ·subst h;rw[List.getElem?_set_self omQ,iJ rfl];rfl
 ·rw[iQ h,List.getElem?_set_ne omQ]
theorem JK.same (R:JK S ss M) (h1:M'.w.length=M.w.length) (h2:M'.l.length=M.l.length):JK S ss M':=⟨h1.trans R.w,R.up,by rw[h2];exact R.in_,R.st,R.ne⟩
theorem M0 (R:JK S ss M) {k:Nat} {s:Int} (hk:ss[k]? =some s) {x:LkM} (hl:M'.l=M.l.set s.toNat x) (hn:M'.n=M.n) (h:(x.2.1=true∧x.1=(jN M.l s).1)∨(jN M.l s).1<x.1):Xo S M M':=by
 refine⟨by omega,λp hp=>?_⟩;have hs:=R.in_ s (List.mem_of_getElem? hk);have hp0:=R.in_ _ (R.st p hp);rw[hl,M2 hs.1 hp0.1 hs.2];by_cases e:s=stF S p
 ·rw[iJ e,← e];exact .inr h
 ·rw[iQ e];exact .inl rfl
theorem Qh (hl:M'.l=M.l) (hn:M.n≤M'.n):Xo S M M':=⟨hn,λp _=>.inl (by rw[hl])⟩
def qVn (c:jW) (a:AnM):Prop:=a.err=0∧c.p.fin=0∧(c.state=0∧a.lk.2.1=false∨c.state=1∧a.done=true∨c.state=2∧a.word<4611686018427387903∨c.state=3∧a.done=true∧c.now=c.stamp∨c.state=5∨c.state=6)
structure StepF (S:zi) (ss:List Int) (c:jW) (M:jT) (v:Int) (o:OpM) (a:AnM) (M':jT):Prop where
  next:xD c=some o
  do_:zz M o=(a,M')
  sm:qVn c a
  wri:kj S ss (zQ c a) M' v
  mono:Xo S M M'
  cnt:M'.cnt=M.cnt+1
  s:M'.s=M.s
theorem kj.step (W:kj S ss c M v) (hp:c.p.fin≠2):∃o a M',StepF S ss c M v o a M':=by
 have R:=W.room;have hv0:=W.v0;have hv1:=W.v1
 have nxt:∀_:OpM,c.p.fin=0→xD c=(if c.state=0 then some (op0 3 (qD c.s c.was.length) 0)
   else if c.state=1 then some ⟨4,qD c.s c.was.length,0,0,c.lk,(c.lk.1,true,c.me)⟩
   else if c.state=2 then some (op0 6 0 0)
   else if c.state=3 then some ⟨7,0,c.now,c.now+1,lk0,lk0⟩
   else if c.state=4 then some (op0 3 (jr c.seen c.at_).1 0)
   else if c.state=5 then some (op0 2 (xo c.cells c.at_).1 (xo c.cells c.at_).2)
   else if c.state=6 then some ⟨5,qD c.s c.at_,0,0,lk0,(c.now+1,false,0)⟩
   else some ⟨5,qD c.s c.at_,0,0,lk0,jN c.was c.at_⟩):=λ_ h=>by
  unfold xD;rw[iQ (λh'=>h' h)]
 have at_s:∀k:Nat,k<ss.length→∃s,ss[k]? =some s∧qD c.s (k:Int)=s∧0≤s∧s<M.l.length:=λk hk=>by
  refine⟨ss[k],iW hk,?_,R.in_ _ (List.getElem_mem hk)⟩;unfold qD;rw[W.s,Int.toNat_natCast,iW hk];rfl
 cases W.ph with
 |look f s k t n w=>
  obtain⟨z,hz,hn,z0,z1⟩:=at_s _ k;have hlk:jN M.l z=(v,false,0):=by rw[t _ z hz,iQ omQ]
  refine⟨op0 3 z 0,⟨0,jN M.l z,false,0⟩,{ M with cnt:=M.cnt+1 },?_,?_,⟨rfl,f,.inl ⟨s,by rw[hlk]⟩⟩,?_,Qh rfl (Int.le_refl _),rfl,rfl⟩
  ·rw[nxt (op0 0 0 0) f,iJ s,hn]
  ·exact U8 (.inl rfl) (by unfold wn;rw[iQ (by show¬(z<0∨(M.l.length:Int)≤z);omega)];rfl) rfl
  ·rw[y8 f rfl,iJ (.inl s)];unfold yz;rw[iQ (by rw[hlk];exact λh=>by cases h.2),iJ s,hlk];exact⟨R.same rfl rfl,W.me,W.s,W.seen,W.cells,W.stamp,W.v0,W.v1,.take f rfl k t n w rfl⟩
 |take f s k t n w lk=>
  obtain⟨z,hz,hn,z0,z1⟩:=at_s _ k;have hlk:jN M.l z=(v,false,0):=by rw[t _ z hz,iQ omQ]
  refine⟨⟨4,z,0,0,(v,false,0),(v,true,1)⟩,⟨0,lk0,true,0⟩,{ M with l:=M.l.set z.toNat (v,true,1),cnt:=M.cnt+1 },?_,?_,⟨rfl,f,.inr (.inl ⟨s,rfl⟩)⟩,?_,M0 R hz rfl rfl (.inl ⟨rfl,by rw[hlk]⟩),rfl,rfl⟩
  ·rw[nxt (op0 0 0 0) f,iQ omQ,iJ s,hn,lk,W.me]
  ·refine U8 (M:=M) (N:={ M with l:=M.l.set z.toNat (v,true,1) }) (.inr (.inl rfl)) ?_ rfl;unfold wn;rw[iQ (by show¬(z<0∨(M.l.length:Int)≤z);omega),iQ (by show¬(4:Int)=3;decide),iQ (by show¬¬XY (v,true,1);rw[Ux];omega),iQ (by show¬(4:Int)=5;decide),iQ (by show¬(jN M.l z≠(v,false,0));rw[hlk];exact λh=>h rfl)]
  ·rw[y8 f rfl,iJ (.inr s)];unfold yz;rw[iQ (λh=>by omega),iQ omQ,iJ rfl];have t':∀c' n',TakF ss { M with l:=M.l.set z.toNat (v,true,1),cnt:=c',n:=n' } (c.was.length+1) v:=λc' n' j s' hj=>by
    have hs':=R.in_ s' (List.mem_of_getElem? hj);show jN (M.l.set z.toNat (v,true,1)) s'=_;rw[M2 z0 hs'.1 z1];by_cases e:z=s'
    ·subst e;rw[iJ rfl,iJ (by have:=Od R.up hj hz;omega)]
    ·rw[iQ e,t j s' hj];have:j≠c.was.length:=λh=>by
      subst h;rw[hz]at hj;cases hj;exact e rfl
     by_cases hjk:j<c.was.length
     ·rw[iJ hjk,iJ omQ]
     ·rw[iQ hjk,iQ omQ]
   have hl1:(c.was++[c.lk]).length=c.was.length+1:=by simp
   refine⟨R.same rfl osQ,W.me,W.s,W.seen,W.cells,W.stamp,W.v0,W.v1,?_⟩;unfold wO;by_cases hlast:c.was.length+1=ss.length
   ·refine .ask f (show(if(c.was++[c.lk]).length=c.s.length then(2:Int)else 0)=2 from by rw[iJ (by rw[hl1,W.s];exact hlast)]) ?_ n w;have:=t' (M.cnt+1) M.n;rw[hlast]at this;exact this
   ·refine .look f (show(if(c.was++[c.lk]).length=c.s.length then(2:Int)else 0)=0 from by rw[iQ (by rw[hl1,W.s];exact hlast)]) (by show(c.was++[c.lk]).length<_;rw[hl1];omega) ?_ n w;show TakF ss _ (c.was++[c.lk]).length v;rw[hl1];exact t' (M.cnt+1) M.n
 |ask f s t n w=>
  refine⟨op0 6 0 0,⟨M.n,lk0,false,0⟩,{ M with cnt:=M.cnt+1 },?_,Oi (.inl rfl) rfl rfl,⟨rfl,f,.inr (.inr (.inl ⟨s,by show M.n<_;omega⟩))⟩,?_,Qh rfl (Int.le_refl _),rfl,rfl⟩
  ·rw[nxt (op0 0 0 0) f,iQ omQ,iQ omQ,iJ s]
  ·rw[y8 f rfl,iQ omQ,iJ (.inl s)];unfold x7;rw[iQ (by show¬(c.state=2∧4611686018427387903≤M.n);omega),iJ s];exact⟨R.same rfl rfl,W.me,W.s,W.seen,W.cells,W.stamp,W.v0,W.v1,.raise f rfl t n w n⟩
 |raise f s t n w now=>
  refine⟨⟨7,0,v,v+1,lk0,lk0⟩,⟨0,lk0,true,0⟩,{ M with n:=v+1,cnt:=M.cnt+1 },?_,?_,⟨rfl,f,.inr (.inr (.inr (.inl ⟨s,rfl,by rw[now,W.stamp]⟩)))⟩,?_,Qh rfl (by show M.n≤v+1;omega),rfl,rfl⟩
  ·rw[nxt (op0 0 0 0) f,iQ omQ,iQ omQ,iQ omQ,iJ s,now]
  ·refine Oi (M:=M) (N:={ M with n:=v+1 }) (.inr rfl) ?_ rfl;unfold Q2;rw[iQ (by show¬(7:Int)=6;decide),iQ (by show¬v+1≤v;omega),iQ (by show¬4611686018427387904≤v+1;omega),iQ (by show¬(M.n≠v);omega)]
  ·rw[y8 f rfl,iQ omQ,iJ (.inr s)];unfold x7;rw[iQ (λh=>by omega),iQ omQ,iQ od,iJ (by rw[now,W.stamp])];unfold yE xY;rw[iQ (by show¬(0:Int)=(c.cells.length:Int);rw[W.cells];show¬(0:Int)=3;decide)];exact⟨R.same rfl rfl,W.me,W.s,W.seen,W.cells,W.stamp,W.v0,W.v1,.store f rfl 0 rfl od t rfl now (λj q h=>by omega)⟩
 |store f s i at_ i3 t n now w=>
  have hcell:∃p,(zd (v+1))[i]? =some (p,v+1)∧1≤p∧p<32:=by
   match i,i3 with
   | 0,_=>exact⟨9,rfl,by decide⟩
   | 1,_=>exact⟨6,rfl,by decide⟩
   | 2,_=>exact⟨13,rfl,by decide⟩
  obtain⟨p,hq,p1,p2⟩:=hcell;have hc:xo c.cells c.at_=(p,v+1):=by unfold xo;rw[W.cells,at_,Int.toNat_natCast,hq];rfl
  have hw32:=R.w;refine⟨op0 2 p (v+1),an0,{ M with w:=M.w.set p.toNat (v+1),cnt:=M.cnt+1 },?_,?_,⟨rfl,f,.inr (.inr (.inr (.inr (.inl s))))⟩,?_,Qh rfl (Int.le_refl _),rfl,rfl⟩
  ·rw[nxt (op0 0 0 0) f,iQ omQ,iQ omQ,iQ omQ,iQ omQ,iQ omQ,iJ s,hc]
  ·refine qYF (M:=M) (N:={ M with w:=M.w.set p.toNat (v+1) }) (.inr rfl) ?_ rfl;unfold kU;rw[iQ (by show¬(p<1∨(M.w.length:Int)≤p);omega),iQ (by show¬(2:Int)=1;decide)];rfl
  ·rw[y8 f rfl,iQ omQ,iQ omQ,iQ omQ,iJ s];have w':∀(j:Nat) (q:Cl),j<i+1→(zd (v+1))[j]? =some q→qD (M.w.set p.toNat (v+1)) q.1=v+1:=λj q hj hjq=>by
    have q0:0≤q.1:=by
     have:=List.mem_of_getElem? hjq;simp[zd]at this;rcases this with rfl |rfl |rfl
     ·show(0:Int)≤9;decide
     ·show(0:Int)≤6;decide
     ·show(0:Int)≤13;decide
    rw[qWO omQ q0 omQ];by_cases e:p=q.1
    ·rw[iJ e]
    ·rw[iQ e];by_cases hji:j<i
     ·exact w j q hji hjq
     ·obtain rfl:j=i:=by omega
      rw[hq]at hjq;cases hjq;exact absurd rfl e
   unfold xY;by_cases h2:i+1=3
   ·rw[iJ (by show c.at_+1=(c.cells.length:Int);rw[W.cells,at_];show(i:Int)+1=3;omega)];unfold xF;rw[iQ (by show¬(0:Int)=(c.s.length:Int);rw[W.s];have:=R.ne;omega)];refine⟨R.same osQ rfl,W.me,W.s,W.seen,W.cells,W.stamp,W.v0,W.v1,.give f rfl 0 rfl R.ne (λj s' hj=>?_) n now λp hp=>?_⟩
    ·rw[iQ omQ];have:=t j s' hj;rw[iJ (List.getElem?_eq_some_iff.1 hj).1]at this;exact this
    ·rcases hp with rfl |rfl |rfl
     ·exact w' 1 (6,v+1) omQ rfl
     ·exact w' 0 (9,v+1) omQ rfl
     ·exact w' 2 (13,v+1) omQ rfl
   ·rw[iQ (by show¬c.at_+1=(c.cells.length:Int);rw[W.cells,at_];show¬(i:Int)+1=3;omega)];exact⟨R.same osQ rfl,W.me,W.s,W.seen,W.cells,W.stamp,W.v0,W.v1,.store f s (i+1) (by show c.at_+1=_;omega) omQ t n now w'⟩
 |give f s i at_ il t n now w=>
  obtain⟨z,hz,hn,z0,z1⟩:=at_s _ il;have hlk:jN M.l z=(v,true,1):=by rw[t _ z hz,iQ omQ]
  refine⟨⟨5,z,0,0,lk0,(v+1,false,0)⟩,an0,{ M with l:=M.l.set z.toNat (v+1,false,0),cnt:=M.cnt+1 },?_,?_,⟨rfl,f,.inr (.inr (.inr (.inr (.inr s))))⟩,?_,M0 R hz rfl rfl (.inr (by rw[hlk];show v<v+1;omega)),rfl,rfl⟩
  ·rw[nxt (op0 0 0 0) f,iQ omQ,iQ omQ,iQ omQ,iQ omQ,iQ omQ,iQ omQ,iJ s,at_,hn,now]
  ·refine U8 (M:=M) (N:={ M with l:=M.l.set z.toNat (v+1,false,0) }) (.inr (.inr rfl)) ?_ rfl;unfold wn;rw[iQ (by show¬(z<0∨(M.l.length:Int)≤z);omega),iQ (by show¬(5:Int)=3;decide),iQ (by show¬¬XY (v+1,false,0);rw[Uu];omega),iJ rfl]
  ·rw[y8 f rfl,iQ omQ,iQ omQ,iQ omQ,iQ omQ,iJ s];have t':GivF ss { M with l:=M.l.set z.toNat (v+1,false,0),cnt:=M.cnt+1 } (i+1) v:=λj s' hj=>by
    have hs':=R.in_ s' (List.mem_of_getElem? hj);show jN (M.l.set z.toNat (v+1,false,0)) s'=_;rw[M2 z0 hs'.1 z1];by_cases e:z=s'
    ·subst e;rw[iJ rfl,iJ (by have:=Od R.up hj hz;omega)]
    ·rw[iQ e,t j s' hj];have:j≠i:=λh=>by
      subst h;rw[hz]at hj;cases hj;exact e rfl
     by_cases hjk:j<i
     ·rw[iJ hjk,iJ omQ]
     ·rw[iQ hjk,iQ omQ]
   unfold xF;by_cases h2:i+1=ss.length
   ·rw[iJ (by show c.at_+1=(c.s.length:Int);rw[W.s,at_];omega)];rw[h2]at t';exact⟨R.same rfl osQ,W.me,W.s,W.seen,W.cells,W.stamp,W.v0,W.v1,.done rfl t' n w⟩
   ·rw[iQ (by show¬c.at_+1=(c.s.length:Int);rw[W.s,at_];omega)];exact⟨R.same rfl osQ,W.me,W.s,W.seen,W.cells,W.stamp,W.v0,W.v1,.give f s (i+1) (by show c.at_+1=_;omega) omQ t' n now w⟩
 |done f t n w=>exact absurd f hp
theorem kj.rest (W:kj S ss c M v) (hp:c.p.fin=2):kP S ss M (v+1):=by
 cases W.ph with
 |look f s k t n w=>rw[f]at hp;cases hp
 |take f s k t n w lk=>rw[f]at hp;cases hp
 |ask f s t n w=>rw[f]at hp;cases hp
 |raise f s t n w now=>rw[f]at hp;cases hp
 |store f s i at_ i3 t n now w=>rw[f]at hp;cases hp
 |give f s i at_ il t n now w=>rw[f]at hp;cases hp
 |done f t n w=>exact⟨W.room,λj s hj=>by rw[t j s hj,iJ (List.getElem?_eq_some_iff.1 hj).1,iQ omQ],n,w⟩
theorem kP.begin (R:kP S ss M v) (h0:0≤v) (h1:v+1<4611686018427387903) (hs:jS (zd (v+1)) S.stripes S.wide=ss):kj S ss (YZ 1 0 v [] (zd (v+1)) S.stripes S.wide) M v:=by
 have e:(YZ 1 0 v [] (zd (v+1)) S.stripes S.wide).was=[]:=rfl;refine⟨R.room,rfl,hs,rfl,rfl,rfl,h0,h1,.look rfl ?_ ?_ ?_ R.n R.w⟩
 ·show(if([]:List LkM).length=(jS (zd (v+1)) S.stripes S.wide).length then(2:Int)else 0)=0;rw[hs,iQ (by have:=R.room.ne;simp;omega)]
 ·rw[e];exact R.room.ne
 ·rw[e];exact R.t
theorem kj.touch (W:kj S ss c M v) (h1:M'.w=M.w) (h2:M'.l=M.l) (h3:M'.n=M.n):kj S ss c M' v:=by
 have e1:∀{k u},TakF ss M k u→TakF ss M' k u:=λt j s hj=>by rw[h2];exact t j s hj
 have e2:∀{k u},GivF ss M k u→GivF ss M' k u:=λt j s hj=>by rw[h2];exact t j s hj
 have e3:∀{u},wK M u→wK M' u:=λt p hp=>by rw[h1];exact t p hp
 refine⟨W.room.same (by rw[h1]) (by rw[h2]),W.me,W.s,W.seen,W.cells,W.stamp,W.v0,W.v1,?_⟩;cases W.ph with
 |look f s k t n w=>exact .look f s k (e1 t) (h3.trans n) (e3 w)
 |take f s k t n w lk=>exact .take f s k (e1 t) (h3.trans n) (e3 w) lk
 |ask f s t n w=>exact .ask f s (e1 t) (h3.trans n) (e3 w)
 |raise f s t n w now=>exact .raise f s (e1 t) (h3.trans n) (e3 w) now
 |store f s i at_ i3 t n now w=>exact .store f s i at_ i3 (e1 t) (h3.trans n) now λj q h1' h2'=>by rw[h1];exact w j q h1' h2'
 |give f s i at_ il t n now w=>exact .give f s i at_ il (e2 t) (h3.trans n) now (e3 w)
 |done f t n w=>exact .done f (e2 t) (h3.trans n) (e3 w)
theorem kP.touch (R:kP S ss M v) (h1:M'.w=M.w) (h2:M'.l=M.l) (h3:M'.n=M.n):kP S ss M' v :=
 ⟨R.room.same (by rw[h1]) (by rw[h2]),λj s hj=>by rw[h2];exact R.t j s hj,h3.trans R.n,λp hp=>by rw[h1];exact R.w p hp⟩
end
section
theorem VK {p v:Int} {l:List Cl} {c:Cl} (h:c∈yK p v l):c=(p,v)∨c∈l:=by
 induction l with
 |nil=>exact .inl (List.mem_singleton.1 h)
 |cons d l ih=>
  unfold yK at h
  split at h
  ·rename_i hd;rcases List.mem_cons.1 h with rfl |h
   ·exact .inl rfl
   ·exact .inr (iX _ h)
  ·rcases List.mem_cons.1 h with rfl |h
   ·exact .inr (iK ..)
   ·rcases ih h with h |h
    ·exact .inl h
    ·exact .inr (iX _ h)
theorem VY {cs:List Cl}:∀{l:List Cl} {c:Cl},c∈yQ l cs→c∈cs∨c∈l:=by
 induction cs with
 |nil=>intro l c h;exact .inr h
 |cons d r ih=>
  intro l c h;rcases ih (l:=yK d.1 d.2 l) h with h |h
  ·exact .inl (iX _ h)
  ·rcases VK h with h |h
   ·exact .inl (by rw[h];exact iK ..)
   ·exact .inr h
theorem qQE:∀{lv:List LvM} {out:List Cl} {c:Cl},c∈lv.foldl (λout x=>yQ x.1 out) out→c∈out∨∃x∈lv,c∈x.1:=by
 intro lv
 induction lv with
 |nil=>intro out c h;exact .inl h
 |cons x r ih=>
  intro out c h;rcases ih h with h |⟨y,hy,h⟩
  ·rcases VY h with h |h
   ·exact .inl h
   ·exact .inr ⟨x,iK ..,h⟩
  ·exact .inr ⟨y,iX _ hy,h⟩
theorem N7 {lv:List LvM} {c:Cl} (h:c∈jO lv):∃x∈lv,c∈x.1:=by
 rcases qQE h with h |h
 ·cases h
 ·exact h
theorem ZN {lv:List LvM} (h:∀x∈lv,∀c∈x.1,0≤c.2∧c.2<18446744073709551616):∀c∈jO lv,0≤c.2∧c.2<18446744073709551616:=λc hc=>by
 obtain⟨x,hx,h1⟩:=N7 hc;exact h x hx c h1
def InL (n:Nat) (lv:List LvM):Prop:=∀x∈lv,∀c∈x.1,1≤c.1∧c.1<n
theorem qKS {n most:Nat} {lv:List LvM} {p v:Int} (h:InL n lv) (hp:1≤p∧p<n):InL n (y5 most lv p v).2:=by
 unfold y5;cases lv with
 |nil=>exact h
 |cons x r=>
  dsimp only
  split
  ·exact h
  ·split
   ·exact h
   ·intro y hy c hc;rcases List.mem_cons.1 hy with rfl |hy
    ·rcases VK hc with rfl |hc
     ·exact hp
     ·exact h x (iK ..) c hc
    ·exact h y (iX _ hy) c hc
theorem Zf {n most:Nat} {was:List LvM} (hw:InL n was):∀{cs:List Cl} {lv:List LvM},InL n lv→(∀c∈cs,1≤c.1∧c.1<n)→InL n (yn most was lv cs).2:=by
 intro cs
 induction cs with
 |nil=>intro lv h _;exact h
 |cons c cs ih=>
  intro lv h hc;rw[y7]
  split
  ·exact ih (qKS h (hc c (iK ..))) λd hd=>hc d (iX _ hd)
  ·exact hw
def InV (V:VM):Prop:=InL V.sz V.lv
theorem InV.read {V:VM} (h:InV V) (p:Int):InV (qR V p).2:=by
 unfold qR
 repeat' split
 all_goals exact h
theorem InV.take {V:VM} (h:InV V) (cs:List Cl):InV (jd V cs).2:=by
 unfold jd
 split
 ·rename_i hc;exact Zf h h hc
 ·exact h
theorem InV.ask {V:VM} (h:InV V) (b:Int):InV (jM V b).2:=by
 unfold jM
 repeat' split
 all_goals first |exact h |exact h.read _
theorem InV.again {V:VM} (h:InV V) (c b:Int):InV (xA V c b).2:=by
 unfold xA
 repeat' split
 all_goals first |exact h |exact h.read _ |exact(h.read _).take _
theorem InV.grown {V:VM} (h:InV V) (c:Int):InV (xy V c).2:=by
 unfold xy
 repeat' split
 all_goals first |exact h |exact h.read _ |exact(h.read _).take _
theorem InV.alloc {V:VM} (h:InV V) (n:Int):InV (zD V n).2:=by
 unfold zD
 repeat' split
 all_goals first |exact h |exact h.read _ |exact(h.read _).grown _ |exact(h.read _).again _ _
theorem InV.freed {V:VM} (h:InV V) (b:Int):InV (freeV V b):=by
 intro x hx c hc;have hx:x∈QJ V.lv b:=hx;unfold QJ at hx;cases hl:V.lv with
 |nil=>rw[hl]at hx;cases hx
 |cons y r=>
  rw[hl]at hx;rcases List.mem_cons.1 hx with rfl |hx
  ·exact h y (by rw[hl];exact iK ..) c hc
  ·exact h x (by rw[hl];exact iX _ hx) c hc
theorem InV.free {V:VM} (h:InV V) (b:Int):InV (yf V b).2:=by
 unfold yf
 repeat' split
 all_goals first |exact(((h.ask _).take _).freed _) |exact(h.ask _).take _ |exact h.ask _
theorem InV.give {V:VM} (h:InV V) (b:Int):InV (xZ V b).2:=by
 unfold xZ
 repeat' split
 all_goals first |exact((h.ask _).read _).take _ |exact(h.ask _).read _ |exact h.ask _
theorem InV.open' {V:VM} (h:InV V):InV (yv V).2:=by
 unfold yv wx
 split
 ·exact h
 ·intro x hx c hc;rcases List.mem_cons.1 hx with rfl |hx
  ·cases hc
  ·exact h x hx c hc
theorem InV.drop {V:VM} (h:InV V):InV (zu V).2:=by
 unfold zu wz
 split
 ·exact h
 ·intro x hx c hc;exact h x (List.mem_of_mem_tail hx) c hc
theorem InV.keep {V:VM} (h:InV V):InV (yT V).2:=by
 intro x hx c hc;have hx:x∈(w8 V.lv).2:=hx;unfold w8 at hx
 split at hx
 ·rename_i a b r hl;rcases List.mem_cons.1 hx with rfl |hx
  ·rcases VY hc with hc |hc
   ·exact h a (by rw[hl];exact iK ..) c hc
   ·exact h b (by rw[hl];exact iX _ (iK ..)) c hc
  ·exact h x (by rw[hl];exact iX _ (iX _ hx)) c hc
 ·exact h x hx c hc
theorem InV.begin_ {V:VM} (h:InV V) {op a nx:Int} {s:IM}:InV (zF op a nx s V).v:=by
 unfold zF
 split<;>exact h.open'
theorem InV.retry {mt:List Int} {s:IM}:∀(o:List PtM) {V:VM},InV V→InV (yB mt o s V).v:=by
 intro o
 induction o with
 |nil=>intro V h;exact h
 |cons p o ih=>
  intro V h;unfold yB
  split
  ·split
   ·exact(InV.begin_ h.drop)
   ·exact ih h.drop
  ·exact h.drop
theorem InV.turn {V:VM} (h:InV V) (mt:List Int) (s:IM) (op:Int):InV (g9 mt s V op).v:=by
 unfold g9
 split
 ·exact InV.begin_ h
 ·split
  ·exact h.keep
  ·split
   ·exact h.keep
   ·split
    ·exact h.drop
    ·exact InV.retry _ h
theorem InV.touch {V:VM} (h:InV V) (s:IM) (x:qb):InV (jP s V x).2.2:=by
 unfold jP
 split
 ·split
  ·split<;>exact h.read _
  ·exact h
 ·split
  ·split
   ·exact h.take _
   ·exact h
  ·split
   ·split
    ·exact h
    ·split<;>exact h.alloc _
   ·split
    ·exact h
    ·exact h.free _
theorem qYB {c:Prop} [Decidable c] {a b:SM} (ha:InV a.v) (hb:InV b.v):InV (if c then a else b).v:=by
 split
 ·exact ha
 ·exact hb
theorem InV.do_ {V:VM} (h:InV V) (mt:List Int) (s:IM) (x:qb):InV (doM mt s V x).v:=by
 have ht:=h.touch s x;have hu:=h.turn mt s x.1;unfold doM;generalize jP s V x=T at*;generalize g9 mt s V x.1=U at*
 repeat' (first |exact h |exact ht |exact hu |apply qYB)
theorem InV.run {l:List qb} {mt:List Int}:∀(n:Nat) {s:IM} {V:VM},InV V→InV (zt l mt n s V).v:=by
 intro n
 induction n with
 |zero=>intro s V h;rw[kh];split<;>exact h
 |succ n ih=>
  intro s V h;have hd:=h.do_ mt s (qP l s.pc);rw[QC];generalize doM mt s V (qP l s.pc)=D at*
  split
  ·exact h
  ·split
   ·split
    ·exact hd
    ·exact ih hd
   ·split<;>exact hd
end
section
abbrev U64 (z:Int):Prop:=0≤z∧z<18446744073709551616
structure qJE (M:jT):Prop where
  w:∀z∈M.w,U64 z
  n:U64 M.n
  s:∀z∈M.s,U64 z
theorem Ov {l:List Int} (h:∀z∈l,U64 z) (i:Int):U64 (qD l i):=by
 unfold qD;cases hi:l[i.toNat]? with
 |none=>exact⟨Int.le_refl _,by show(0:Int)<_;decide⟩
 |some z=>exact h z (List.mem_of_getElem? hi)
theorem On {l:List Int} (h:∀z∈l,U64 z) {i:Nat} {w:Int} (hw:U64 w):∀z∈l.set i w,U64 z:=λz hz=>by
 rcases List.mem_or_eq_of_mem_set hz with hz |rfl
 ·exact h z hz
 ·exact hw
theorem Ob {M:jT} {o:OpM} (R:qJE M) (ho:U64 o.word):GN (zz M o).1∧qJE (zz M o).2:=by
 have z0:U64 (0:Int):=⟨Int.le_refl _,by decide⟩;have key:GN (yc M o).1∧qJE (yc M o).2:=by
  unfold yc
  split
  ·unfold kU
   split
   ·exact⟨z0,R⟩
   ·split
    ·exact⟨Ov R.w _,R⟩
    ·exact⟨z0,⟨On R.w ho,R.n,R.s⟩⟩
  ·split
   ·unfold wn
    repeat' split
    all_goals exact⟨z0,⟨R.w,R.n,R.s⟩⟩
   ·split
    ·unfold Q2
     split
     ·exact⟨R.n,R⟩
     ·repeat' split
      all_goals first |exact⟨z0,R⟩ |exact⟨z0,⟨R.w,ho,R.s⟩⟩
    ·split
     ·unfold NF
      split
      ·exact⟨z0,R⟩
      ·split
       ·exact⟨Ov R.s _,R⟩
       ·exact⟨z0,⟨R.w,R.n,On R.s ho⟩⟩
     ·exact⟨z0,R⟩
 rw[wu]
 split
 ·exact⟨key.1,⟨key.2.w,key.2.n,key.2.s⟩⟩
 ·exact key
theorem qQA {M:jT} {o:OpM}:(zz M o).2.cnt≤M.cnt+1∧M.cnt≤(zz M o).2.cnt:=by
 have h:=MC (M:=M) (o:=o);rw[wu]
 split
 ·show(yc M o).2.cnt+1≤_∧_≤(yc M o).2.cnt+1;omega
 ·omega
theorem Qo {c:jW} {f e y:Int}:(y3 c f e y).cells=c.cells:=by unfold y3 xd;dsimp only;split<;>rfl
theorem KZ {c:jW} {l:LkM}:(yG c l).cells=c.cells:=by 
 unfold yG
 split
 ·rfl
 ·exact Qo
theorem K3 {c:jW}:(xF c).cells=c.cells:=by unfold xF;split<;>rfl
theorem Gs {c:jW}:(xY c).cells=c.cells:=by 
 unfold xY
 split
 ·exact K3
 ·rfl
theorem JR {c:jW}:(yE c).cells=c.cells:=Gs
theorem YQ:∀(n:Nat) (c:jW),(xC c n).cells=c.cells:=by
 intro n
 induction n with
 |zero=>intro c;exact JR
 |succ n ih=>
  intro c;unfold xC
  split
  ·split
   ·rfl
   ·split
    ·exact Qo
    ·exact ih _
  ·exact JR
theorem ZH {c:jW} {a:AnM}:(zQ c a).cells=c.cells:=by
 unfold zQ
 split
 ·rfl
 ·split
  ·unfold yz
   split
   ·exact KZ
   ·split
    ·rfl
    ·split
     ·rfl
     ·rfl
  ·split
   ·unfold x7
    split
    ·exact Qo
    ·split
     ·rfl
     ·split
      ·rfl
      ·split
       ·exact JR
       ·exact YQ _ _
   ·split
    ·unfold xe
     split
     ·exact KZ
     ·split
      ·exact Qo
      ·exact YQ _ _
    ·split
     ·exact Gs
     ·split
      ·exact K3
      ·unfold xd
       split<;>rfl
def Jn (x:jI):Prop:=∀c,x.c=some c→∀q∈c.cells,U64 q.2
theorem qQl {x:jI} {k e:Int} (G:jj x.v) (W:Jn x):Jn (kL x k e):=by
 unfold kL
 split
 ·exact W
 ·split
  ·exact W
  ·split
   ·exact W
   ·split
    ·exact W
    ·intro c hc;cases hc;exact ZN G.wd.l
theorem KL {x:jI} (B:wo x) (hj:JobOk True x.v x.job) (W:Jn x):Jn (gT x):=by have D:=U2 B.good B.fr hj;refine qQl D.good ?_;intro c hc;rw[D.same.2.2.2.2]at hc;exact W c hc
theorem qQe {x:jI} {a:AnM} (O:xJ x) (W:Jn x) (ha:GN a):Jn (zT x a):=by
 have hst:=O.st;have stamped:∀{y:jI},Jn y→Jn (xr y):=λ{y} h=>by
  unfold xr
  split
  ·split<;>exact h
  ·exact h
 have told:∀{y:jI},xJ y→3≤y.state→y.state≤6→Jn y→Jn (zy y):=λ{y} O h3 h6 W=>by
  refine stamped ?_;show Jn (if(zR y).1=0 then y else if(zR y).1=5 then xq y 5 0 (zR y).2 else z8 y)
  split
  ·exact W
  ·split
   ·exact W
   ·unfold z8
    split
    ·rename_i hs;have hw:=XU (O.f hs).2;unfold xx
     split
     ·exact W
     ·split
      ·have hj:=(O.job.same λ_=>by omega:JobOk True y.v y.job).know (p:=y.v.need) hw;refine KL ⟨O.set,XB O.good hw,by show((xN y.v y.v.need (xP y.f)).2.sz:Int)=y.set.words;rw[kq.2];exact O.sz,by show frS (xN y.v y.v.need (xP y.f)).2.lv<9000;rw[kq.1];exact O.fr,Gv O.r,hj.same λh=>h.elim,O.c⟩ hj W
      ·split<;>exact W
    ·split
     ·exact W
     ·split
      ·exact W
      ·split<;>exact W
 unfold zT
 split
 ·exact W
 ·split
  ·exact W
  ·split
   ·exact W
   ·split
    ·exact W
    ·split
     ·exact KL O.b (O.job.same λ_=>by omega) W
     ·split
      ·exact W
      ·split
       ·rename_i hs;have hf:=O.f hs;refine told (y:={ x with f:=xO x.f a }) ?_ (by show 3≤x.state;omega) (by show x.state≤6;omega) W;exact⟨O.set,O.good,O.sz,O.fr,O.r,O.job,O.st,λ_=>⟨JF hf.1,Xf hf.2 ha⟩,O.need,O.e,O.c,O.c0,O.c6⟩
       ·split
        ·rename_i hs;refine told (y:={ x with c:=x.c.map λc=>zQ c a }) ?_ (by show 3≤x.state;omega) (by show x.state≤6;omega) ?_
         ·refine⟨O.set,O.good,O.sz,O.fr,O.r,O.job,O.st,O.f,O.need,O.e,λc h=>?_,λh=>absurd h (by show¬x.state≤5;omega),λh hn=>O.c6 h ?_⟩
          ·obtain⟨c',h1,rfl⟩:=Option.map_eq_some_iff.1 h;exact Qs (O.c c' h1) ha
          ·exact Option.map_eq_none_iff.1 hn
         ·intro c h;obtain⟨c',h1,rfl⟩:=Option.map_eq_some_iff.1 h;rw[ZH];exact W c' h1
        ·refine told (y:={ x with e:=yg x.e a }) ?_ (by show 3≤x.state;omega) (by show x.state≤6;omega) W;exact⟨O.set,O.good,O.sz,O.fr,O.r,O.job,O.st,O.f,O.need,λh1 h2=>JP (O.e h1 h2),O.c,O.c0,O.c6⟩
theorem qQ0 {x:jI} {o:OpM} (O:xJ x) (W:Jn x) (h:yY x=some o):U64 o.word:=by
 have z0:U64 (0:Int):=⟨Int.le_refl _,by decide⟩;unfold yY at h
 split at h
 ·cases h;exact⟨by show(0:Int)≤1;decide,by show(1:Int)<_;decide⟩
 ·split at h
  ·cases h;exact z0
  ·split at h
   ·cases h;exact Of _
   ·split at h
    ·cases h;exact z0
    ·split at h
     ·cases h
     ·split at h
      ·unfold kA at h
       split at h
       ·cases h
       ·split at h<;>(cases h;exact z0)
      ·split at h
       ·rename_i h6;cases hc:x.c with
        |none=>rw[hc]at h;cases h
        |some c=>
         rw[hc]at h;have hn:=(O.c c hc).now;have h:xD c=some o:=h;unfold xD at h
         split at h
         ·cases h
         ·split at h
          ·cases h;exact z0
          ·split at h
           ·cases h;exact z0
           ·split at h
            ·cases h;exact z0
            ·split at h
             ·cases h;exact⟨by show 0≤c.now+1;omega,by show c.now+1<_;omega⟩
             ·split at h
              ·cases h;exact z0
              ·split at h
               ·cases h;show U64 (xo c.cells c.at_).2;unfold xo;cases hi:c.cells[c.at_.toNat]? with
                |none=>exact z0
                |some q=>exact W c hc q (List.mem_of_getElem? hi)
               ·split at h<;>(cases h;exact z0)
       ·unfold kE at h
        split at h
        ·cases h
        ·split at h<;>(cases h;exact z0)
theorem qjB {me:Int} {S:zi} {j:Gz}:Jn (qXL me S j):=λc h=>by cases h
end
section
variable {S:zi} {M:jT} {x:jI} {T:Int}
theorem qG5 {o:OpM} (h:o.kind=1∨o.kind=3∨o.kind=6∨o.kind=9):(zz M o).2.w=M.w∧(zz M o).2.l=M.l∧(zz M o).2.n=M.n:=by
 have key:∀r:AnM×jT,r.2.w=M.w∧r.2.l=M.l∧r.2.n=M.n→(if r.1.err=0 then(r.1,{ r.2 with cnt:=r.2.cnt+1 })else r).2.w=M.w∧(if r.1.err=0 then(r.1,{ r.2 with cnt:=r.2.cnt+1 })else r).2.l=M.l∧(if r.1.err=0 then(r.1,{ r.2 with cnt:=r.2.cnt+1 })else r).2.n=M.n:=λr hr=>by
  split<;>exact hr
 unfold zz;refine key _ ?_;unfold kU wn Q2 NF;rcases h with h |h |h |h<;>rw[h]<;>simp only[reduceIte,Int.reduceEq,or_false,false_or,or_self,or_true,true_or]<;>(repeat' split)<;>simp
theorem qJu {p:Int} (h:(zz M (op0 1 p 0)).1.err=0):(zz M (op0 1 p 0)).1.word=qD M.w p:=by
 have e:zz M (op0 1 p 0)=if(kU M (op0 1 p 0)).1.err=0 then((kU M (op0 1 p 0)).1,{ (kU M (op0 1 p 0)).2 with cnt:=(kU M (op0 1 p 0)).2.cnt+1 })else kU M (op0 1 p 0):=rfl
 rw[e]at h ⊢;by_cases hr:p<1∨(M.w.length:Int)≤p
 ·have e2:kU M (op0 1 p 0)=(anE 2,M):=by unfold kU;exact iJ hr
  rw[e2]at h;cases h
 ·have e2:kU M (op0 1 p 0)=(⟨qD M.w p,lk0,false,0⟩,M):=by unfold kU;rw[iQ (show¬((op0 1 p 0).at_<1∨(M.w.length:Int)≤(op0 1 p 0).at_)from hr)];rfl
  rw[e2];rfl
theorem Mv {p:Int} (h:(zz M (op0 3 p 0)).1.err=0):(zz M (op0 3 p 0)).1.lk=jN M.l p:=by
 have e:zz M (op0 3 p 0)=if(wn M (op0 3 p 0)).1.err=0 then((wn M (op0 3 p 0)).1,{ (wn M (op0 3 p 0)).2 with cnt:=(wn M (op0 3 p 0)).2.cnt+1 })else wn M (op0 3 p 0):=rfl
 rw[e]at h ⊢;by_cases hr:p<0∨(M.l.length:Int)≤p
 ·have e2:wn M (op0 3 p 0)=(anE 2,M):=by unfold wn;exact iJ hr
  rw[e2]at h;cases h
 ·have e2:wn M (op0 3 p 0)=(⟨0,jN M.l p,false,0⟩,M):=by unfold wn;rw[iQ (show¬((op0 3 p 0).at_<0∨(M.l.length:Int)≤(op0 3 p 0).at_)from hr)];rfl
  rw[e2];rfl
theorem je.new {me:Int} (hn:0≤M.n):je (jo S) M (kC me S pF) M.n :=
 ⟨⟨rfl,⟨_,rfl,rfl,⟨0,rfl,by decide⟩,rfl,rfl⟩,rfl,Int.le_refl _,λc hc=>by cases hc⟩,by show¬(0:Int)=6;decide,λh=>absurd h (by show¬(2:Int)≤0;decide),λh=>(by cases h),λh=>(by cases h),λ_=>⟨rfl,rfl⟩⟩
theorem je.step (W:MD S M) (J:je S M x T) (hst:0≤x.state∧x.state≤8) {o:OpM} (hn:yY x=some o) :
  (∃T',je S (zz M o).2 (zT x (zz M o).1) T')∧(zz M o).2.w=M.w∧(zz M o).2.l=M.l∧(zz M o).2.n=M.n:=by
 have B:=J.b;have h6:=J.st;have hk:o.kind=1∨o.kind=3∨o.kind=6∨o.kind=9:=by
  unfold yY at hn
  split at hn
  ·cases hn;exact .inr (.inr (.inr rfl))
  ·split at hn
   ·cases hn;exact .inr (.inr (.inl rfl))
   ·split at hn
    ·cases hn;exact .inr (.inr (.inr rfl))
    ·split at hn
     ·cases hn;exact .inr (.inr (.inr rfl))
     ·split at hn
      ·cases hn
      ·split at hn
       ·unfold kA at hn
        split at hn
        ·cases hn
        ·split at hn
         ·cases hn;exact .inl rfl
         ·cases hn;exact .inr (.inl rfl)
       ·try rw[iQ h6]at hn
        unfold kE at hn
        split at hn
        ·cases hn
        ·split at hn
         ·cases hn;exact .inr (.inr (.inl rfl))
         ·cases hn;exact .inr (.inl rfl)
 obtain⟨m1,m2,m3⟩:=qG5 (M:=M) hk;refine⟨?_,m1,m2,m3⟩
 suffices H:∃T',je S M (zT x (zz M o).1) T' from H.imp λT' h=>h.same m3 m2
 by_cases he:(zz M o).1.err=0
 ·by_cases h0:x.state=0
  ·refine⟨T,?_⟩;unfold zT;rw[iQ omQ,iQ (λh=>h he),iJ h0];exact⟨⟨B.set,B.job,B.c,B.n,B.k⟩,by show¬(1:Int)=6;decide,λh=>absurd h (by show¬(2:Int)≤1;decide),λh=>(by cases h),λh=>(by cases h),λ_=>J.z omQ⟩
  by_cases h1:x.state=1
  ·have ho:o=op0 6 0 0:=by
    unfold yY at hn;rw[iQ h0,iJ h1]at hn;cases hn;rfl
   have hz:=J.z omQ;refine⟨M.n,?_⟩;unfold zT;rw[iQ omQ,iQ (λh=>h he),iQ h0,iJ h1,ho];refine⟨⟨B.set,B.job,B.c,Int.le_refl _,λc hc=>?_⟩,by show¬(2:Int)=6;decide,λ_ _=>⟨rfl,λy hy=>?_,λ_=>hz.1⟩,λh=>(by cases h),λh=>(by cases h),λh=>absurd h (by show¬(2:Int)≤1;decide)⟩
   ·have hc:c∈x.v.K:=hc;rw[hz.1]at hc;cases hc
   ·have hy:y∈x.r:=hy;rw[hz.2]at hy;cases hy
  by_cases h2:x.state=2
  ·refine⟨T,?_⟩;unfold zT;rw[iQ omQ,iQ (λh=>h he),iQ h0,iQ h1,iJ h2];exact B.work (J.l omQ omQ)
  by_cases h7:x.state=7
  ·refine⟨T,?_⟩;unfold zT;rw[iQ omQ,iQ (λh=>h he),iQ h0,iQ h1,iQ h2,iJ h7];exact yS.dead (x:={ x with state:=8 }) ⟨B.set,B.job,B.c,B.n,B.k⟩ (.inr (.inr rfl))
  by_cases h8:x.state=8
  ·unfold yY at hn;rw[iQ h0,iQ h1,iQ h2,iQ h7,iJ h8]at hn;cases hn
  by_cases h3:x.state=3
  ·have F:=J.f h3;have hn3:kA x.f=some o:=by
    unfold yY at hn;rw[iQ h0,iQ h1,iQ h2,iQ h7,iQ h8,iJ h3]at hn;exact hn
   unfold kA at hn3;rw[iQ (λh=>h F.fin)]at hn3;refine⟨T,?_⟩;have et:zT x (zz M o).1=zy { x with f:=xO x.f (zz M o).1 }:=by unfold zT;rw[iQ h8,iQ (λh=>h he),iQ h0,iQ h1,iQ h2,iQ h7,iJ h3]
   rw[et];refine J.fetch W h3 he (λhs=>?_) λhs=>?_
   ·rw[iJ hs]at hn3;cases hn3;rw[F.at_]at he ⊢;exact qJu he
   ·rw[iQ hs]at hn3;cases hn3;rw[F.st]at he ⊢;exact Mv he
  have hex:zT x (zz M o).1=zy { x with e:=yg x.e (zz M o).1 }:=by unfold zT;rw[iQ h8,iQ (λh=>h he),iQ h0,iQ h1,iQ h2,iQ h7,iQ h3,iQ h6]
  have hne:kE x.e=some o:=by unfold yY at hn;rw[iQ h0,iQ h1,iQ h2,iQ h7,iQ h8,iQ h3,iQ h6]at hn;exact hn
  by_cases h4:x.state=4
  ·have E:=J.e h4;unfold kE at hne;rw[iQ (λh=>h E.fin)]at hne;rw[hex];refine J.ext W h4 he (λhl=>?_) λhl=>?_
   ·rw[iJ hl]at hne;cases hne;rfl
   ·rw[iQ (by rw[hl];decide)]at hne;cases hne;exact Mv he
  have h5:x.state=5:=by omega
  refine⟨T,?_⟩;rw[hex];generalize yg x.e (zz M o).1=e;have B':∀z:Int,yS S M { x with e:=e,stamp:=z } T:=λz=>⟨B.set,B.job,B.c,B.n,B.k⟩;have key:je S M (if(zR { x with e:=e }).1=0 then{ x with e:=e }else if(zR { x with e:=e }).1=5 then xq { x with e:=e } 5 0 (zR { x with e:=e }).2 else z8 { x with e:=e }) T:=by
   split
   ·exact(B' x.stamp).dead (.inl h5)
   ·split
    ·exact(B' x.stamp).out
    ·unfold z8;rw[iQ (by show¬x.state=3;omega),iQ (by show¬x.state=4;omega),iJ (by show x.state=5;exact h5)];exact(B' _).out
  unfold zy;rw[zM key.b.c];exact key
 ·refine⟨T,?_⟩;unfold zT
  split
  ·exact J
  ·try rw[iJ he]
   exact yS.dead (x:={ xq x 4 (zz M o).1.err (-1)with state:=8 }) ⟨B.set,B.job,B.c,B.n,B.k⟩ (.inr (.inr rfl))
def WriJ (S:zi) (ss:List Int) (M:jT) (n:Int):Option jW→Prop
 |none=>n=0∧kP S ss M 0
 |some c=>kj S ss c M (n-1)
theorem WriJ.see {ss:List Int} {n:Int} {c:Option jW} (W:WriJ S ss M n c):MD S M:=by
 cases c with
 |none=>exact W.2.see
 |some c=>exact kj.see W
theorem WriJ.n {ss:List Int} {n:Int} {c:Option jW} (W:WriJ S ss M n c):M.n≤n:=by
 cases c with
 |none=>rw[W.2.n,W.1];exact Int.le_refl _
 |some c=>have W:kj S ss c M (n-1):=W;cases W.ph<;>omega
theorem WriJ.touch {ss:List Int} {n:Int} {c:Option jW} {M':jT} (W:WriJ S ss M n c) (h1:M'.w=M.w) (h2:M'.l=M.l) (h3:M'.n=M.n):WriJ S ss M' n c:=by
 cases c with
 |none=>exact⟨W.1,W.2.touch h1 h2 h3⟩
 |some c=>exact kj.touch W h1 h2 h3
theorem je.alike {ss:List Int} {n:Int} {c:Option jW} (J:je S M x T) (W:WriJ S ss M n c):(∀q∈x.v.K,∀r∈x.v.K,q.2=r.2)∧∀q∈x.v.K,q.2≤n :=
 ⟨λq hq r hr=>(J.b.k q hq).trans (J.b.k r hr).symm,λq hq=>by rw[J.b.k q hq];exact Int.le_trans J.b.n W.n⟩
theorem qKd {S:zi} {ss:List Int} (hw:S.words=32) (h1:0≤S.stripes) (hn:S.start=0) (up:ss.Pairwise (· < ·)) (hi:∀s∈ss,0≤s∧s<S.stripes) (st:∀p,gX p→stF S p∈ss) (ne:0<ss.length):kP S ss (gH S) 0:=by
 have lkz:∀j,jN (List.replicate S.stripes.toNat lk0) j=lk0:=λj=>by
  unfold jN;rw[List.getElem?_replicate]
  split<;>rfl
 refine⟨⟨?_,up,λs hs=>⟨(hi s hs).1,?_⟩,st,ne⟩,λj s hj=>?_,hn,λp hp=>?_⟩
 ·show(List.replicate S.words.toNat (0:Int)).length=32;rw[List.length_replicate,hw];rfl
 ·show s<((List.replicate S.stripes.toNat lk0).length:Int);rw[List.length_replicate];have:=hi s hs;omega
 ·show jN (List.replicate S.stripes.toNat lk0) s=_;rw[lkz,iQ omQ];rfl
 ·show qD (List.replicate S.words.toNat (0:Int)) p=0;unfold qD;rw[List.getElem?_replicate]
  split<;>rfl
end
section
variable {g h:AH} {L R:List SP}
theorem ZP:∀{l:List Cl} {c:Cl},UnC l→c∈l→zC c.1 l=some c.2:=by
 intro l
 induction l with
 |nil=>intro c _ h;cases h
 |cons d l ih=>
  intro c hu hc;unfold UnC at hu;rw[List.map_cons,List.nodup_cons]at hu;unfold zC;rcases List.mem_cons.1 hc with rfl |hc
  ·rw[iJ rfl]
  ·rw[iQ (λh=>hu.1 (by rw[h];exact List.mem_map.2 ⟨c,hc,rfl⟩))];exact ih hu.2 hc
theorem qQT {n:Nat} (hn:1≤n) {v:Nat} {M:VM} (H:HS g h (ViewC v M::R)) (O:OkV M) :
  t_w n 42 [.ptr v 0] h λr h'=>HS g h' (qL 61 2 M.K.length r (M.K.flatMap jU)::ViewC v M::R):=by
 refine t_e1 (S:=S42) rfl omQ λk hk=>?_;unfold S42;try simp only[iZ]
 obtain⟨fv,ov,q,e,H⟩:=ViewC.E H;have hkl:=O.klen;refine qK (qQ (qV ‹_› .here rfl ?_));refine qs ‹_› e_2 ?_;refine Jr (ln:=0) (cp:=M.K.length) (sz:=2) H rfl omQ omQ λkv h1 H1=>?_;rw[Nat.zero_mul,List.take_zero]at H1;refine qK (qQ (qV ‹_› e_1 rfl ?_));refine qs ‹_› e_3 ?_
 refine zG (λm s h'=>∃(i:Nat) (kv:AV),s=(.int .i64 (i:Int),.int .i64 (M.K.length:Int),ov,kv,.ptr v 0,())∧i≤M.K.length∧m=M.K.length-i∧
  HS g h' (qL 61 2 i kv ((M.K.take i).flatMap jU)::qw v [fv,ov,.ptr q 0,.int .i64 M.need]::qL e 2 M.sz fv ((xu M.sz M.K).flatMap wc)::
   qL 3 1 M.K.length ov (M.K.map λc=>.int .i64 c.1)::LgC q M.most M.lv::R))
  ?_ (m:=M.K.length) (by show _<1000000000;omega) ⟨0,kv,rfl,by omega,by omega,by rw[List.take_zero];exact H1⟩
 clear H H1;rintro m ih s h2 hih ⟨i,kv,rfl,hi,rfl,H⟩;dsimp only;by_cases hlt:i<M.K.length
 ·have hci:M.K[i]? =some M.K[i]:=iW hlt;have hin:=O.ins M.K[i] (List.getElem_mem hlt);have hg:=ZP O.un (List.getElem_mem hlt);have hnext:M.K.take (i+1)=M.K.take i++[M.K[i]]:=List.take_succ_eq_append_getElem hlt;generalize hc:M.K[i]=c at*;obtain⟨p,x⟩:=c;dsimp only at hin hg;obtain⟨p,rfl⟩:∃j:Nat,p=(j:Int):=⟨p.toNat,by omega⟩;refine zJ omQ ?_;refine qX (jf (H.sl e_3) (x:=.int .i64 (p:Int)) (by rw[List.getElem?_map,hci];rfl) ?_);refine qK (qQ (qV ‹_› e_1 rfl ?_));have hf:vj M.K p=(x,true):=by unfold vj;rw[hg]
  refine zH (x:=.int .u64 x) (H.sl e_2) omQ omQ (by rw[QY (sz:=2) wc (λ_=>rfl) _ _ _ omQ,wk omQ,hf];rfl) ?_;refine qF rfl ?_;refine jY (n:=1) (l:=[.int .i64 (p:Int),.int .u64 x]) (sz:=2) H rfl rfl rfl rfl λv5 h5 H5=>?_;refine zn (H5.sel e_1) (H5.sl .here) omQ omQ rfl λv6 h6 H6=>?_;refine qf omQ ?_;refine hih (M.K.length-(i+1)) _ _ omQ ⟨i+1,v6,rfl,by omega,rfl,?_⟩;rw[hnext,List.flatMap_append];exact H6.sub (.cons .here (.drop .refl))
 ·obtain rfl:i=M.K.length:=by omega
  refine jb omQ ?_;refine qJ (qv ?_);rw[List.take_length]at H
  have H2:HS g h2 (qw v [fv,ov,.ptr q 0,.int .i64 M.need]::qL e 2 M.sz fv ((xu M.sz M.K).flatMap wc)::qL 3 1 M.K.length ov (M.K.map λc=>.int .i64 c.1)::LgC q M.most M.lv::
   qL 61 2 M.K.length kv (M.K.flatMap jU)::R):=H.sub (.cons e_1 (.cons e_1 (.cons e_1 (.cons e_1 .refl))))
  exact qW ((ViewC.I H2).sub (.cons e_1 .refl))
end
section
variable {g h:AH} {L R:List SP}
theorem gF {c:CV} {l:List (Nat×Nat)} {t:TypeId} {x:AV} {f:Nat} {a:List AV} {K2:AV→AH→Go.Ae.R} {Q Q':AV→AH→Prop} (hf:X6 l t=some f) (w:wp (c (.fn f [] []) (x::a) h) Q') (hk:∀v h',Q' v h'→wp (K2 v h') Q):wp (xm c l (.iface t x) a h K2) Q:=by show wp (Option.rec (motive:=λ_=>Go.Ae.R) none (λf=>jF c (.fn f [] []) (x::a) h K2) (X6 l t)) Q;rw[hf];exact qY w hk
structure V2 where
  rv:AV
  bv:AV
  iv:AV
  fv:AV
  ev:AV
  cv:AV
  gv:Int
  vb:Nat
  db:Nat
def xQ (x:jI) (q:V2):List AV:=[.int .i64 x.me,.int .i64 x.set.words,.int .i64 x.set.stripes,.int .i64 x.set.wide,.int .i64 x.set.threads,.int .u64 x.set.start,.int .i64 x.set.spins,.int .i64 x.set.writes,.int .i64 x.set.fuel,
 q.rv,q.bv,.int .i64 q.gv,.ptr q.vb 0,.ptr q.db 0,.int .i64 x.state,q.iv,q.fv,q.ev,q.cv,.bool x.begun,.int .u64 x.begin_,.int .u64 x.stamp,.int .i64 x.fin,.int .i64 x.by_,.int .i64 x.err,.bool x.blocking]
def JobC (vb:Nat) (j:Gz) (rv bv:AV) (gv:Int):SP:=match j with
 | .prog q=>.ex λz:Nat×Int=>.all [.pur (rv=.ptr z.1 0∧bv=.nils∧gv=0),IntC z.1 vb q.l 0 (qm q.l) q.s q.err q.fin q.left z.2]
 | .sweep bs k=>.all [.pur (rv=.nilp∧gv=(k:Int)),qL 3 1 bs.length bv (bs.map (.int .i64))]
def InnC (st:Int) (f:wJ) (e:wD) (c:Option jW) (iv fv ev cv:AV):SP:=match c with
 |some c=>.ex λb:Nat=>.all [.pur (cv=.ptr b 0∧(st=6→iv=.iface 90 (.ptr b 0))),ComC b c]
 |none=>
  if st=3 then .ex λb:Nat=>.all [.pur (cv=.nilp∧fv=.ptr b 0∧iv=.iface 88 (.ptr b 0)),qw b (vN f)]
  else if st=4∨st=5 then .ex λb:Nat=>.all [.pur (cv=.nilp∧ev=.ptr b 0∧iv=.iface 89 (.ptr b 0)),ExtC b e]
  else .pur (cv=.nilp)
abbrev N8 (a:Nat) (x:jI) (q:V2) (R:List SP):List SP:=qw a (xQ x q)::JobC q.vb x.job q.rv q.bv q.gv::ViewC q.vb x.v::RdsC q.db x.r::InnC x.state x.f x.e x.c q.iv q.fv q.ev q.cv::R
def AttC (a:Nat) (x:jI):SP:=.ex λq:V2=>.all (N8 a x q [])
section
variable {n a:Nat} {x:jI} {q:V2}
theorem AttC.E (H:HS g h (AttC a x::R)):∃q,HS g h (N8 a x q R):=by obtain⟨q,H⟩:=H.exE;exact⟨q,H.allE⟩
theorem AttC.I (H:HS g h (N8 a x q R)):HS g h (AttC a x::R):=HS.exI q (HS.allI (A:=N8 a x q []) H)
theorem wI {f e y:Int} (hn:1≤n) (H:HS g h (qw a (xQ x q)::R)):t_w n 29 [.ptr a 0,.int .i64 f,.int .i64 e,.int .i64 y] h λ_ h'=>HS g h' (qw a (xQ (xq x f e y) q)::R):=by
 refine t_e4 (S:=S29) rfl omQ λk hk=>?_;unfold S29;try simp only[iZ]
 refine qK (qQ (qk H (b:=a) .here ⟨rfl,rfl⟩ (by simp[xQ]) λh1 H1=>?_));refine qK (qQ (qk H1 (b:=a) .here ⟨rfl,rfl⟩ (by simp[xQ]) λh2 H2=>?_));refine qK (qQ (qk H2 (b:=a) .here ⟨rfl,rfl⟩ (by simp[xQ]) λh3 H3=>?_));refine qK (qQ (qk H3 (b:=a) .here ⟨rfl,rfl⟩ (by simp[xQ]) λh4 H4=>?_));exact qW H4
theorem InnC.nil {st:Int} {f:wJ} {e:wD} {iv fv ev cv:AV} (H:HS g h (InnC st f e none iv fv ev cv::R)):cv=.nilp∧HS g h R:=by
 unfold InnC at H;dsimp only at H
 split at H
 ·obtain⟨b,H⟩:=H.exE;have H:=H.allE;exact⟨H.purE.1.1,H.drop.drop⟩
 ·split at H
  ·obtain⟨b,H⟩:=H.exE;have H:=H.allE;exact⟨H.purE.1.1,H.drop.drop⟩
  ·exact H.purE
theorem InnC.fet {f:wJ} {e:wD} {iv fv ev cv:AV} (H:HS g h (InnC 3 f e none iv fv ev cv::R)):∃b,(cv=.nilp∧fv=.ptr b 0∧iv=.iface 88 (.ptr b 0))∧HS g h (qw b (vN f)::R):=by obtain⟨b,H⟩:=(show HS g h (.ex (λb:Nat=>SP.all [.pur (cv=.nilp∧fv=.ptr b 0∧iv=.iface 88 (.ptr b 0)),qw b (vN f)])::R)from H).exE;exact⟨b,H.allE.purE⟩
end
end
section
variable {g h:AH} {L R:List SP}
section
variable {n a:Nat} {x:jI} {q:V2}
theorem VV {K:AV→Go.Ae.R} {Q:AV→AH→Prop} (w:wp (K (.bool false)) Q):wp (pEq .ptr true .nilp .nilp K) Q:=w
theorem qK7 {K:AV→Go.Ae.R} {Q:AV→AH→Prop} (w:wp (K (.bool true)) Q):wp (pEq .ptr false .nilp .nilp K) Q:=w
theorem JobC.P {vb:Nat} {p:RunS} {rv bv:AV} {gv:Int} (H:HS g h (JobC vb (.prog p) rv bv gv::R)):∃ib nx,(rv=.ptr ib 0∧bv=.nils∧gv=0)∧HS g h (IntC ib vb p.l 0 (qm p.l) p.s p.err p.fin p.left nx::R):=by obtain⟨z,H⟩:=(show HS g h (.ex (λz:Nat×Int=>SP.all [.pur (rv=.ptr z.1 0∧bv=.nils∧gv=0),IntC z.1 vb p.l 0 (qm p.l) p.s p.err p.fin p.left z.2])::R)from H).exE;exact⟨z.1,z.2,H.allE.purE⟩
theorem JobC.PI {vb ib:Nat} {p:RunS} {nx:Int} {rv bv:AV} {gv:Int} (e:rv=.ptr ib 0∧bv=.nils∧gv=0) (H:HS g h (IntC ib vb p.l 0 (qm p.l) p.s p.err p.fin p.left nx::R)):HS g h (JobC vb (.prog p) rv bv gv::R) :=
 show HS g h (.ex (λz:Nat×Int=>SP.all [.pur (rv=.ptr z.1 0∧bv=.nils∧gv=0),IntC z.1 vb p.l 0 (qm p.l) p.s p.err p.fin p.left z.2])::R)from
  HS.exI (ib,nx) (HS.allI (A:=[_,_]) (HS.purI e H))
theorem JobC.S {vb k:Nat} {bs:List Int} {rv bv:AV} {gv:Int} (H:HS g h (JobC vb (.sweep bs k) rv bv gv::R)):(rv=.nilp∧gv=(k:Int))∧HS g h (qL 3 1 bs.length bv (bs.map (.int .i64))::R) :=
 ((show HS g h (SP.all [.pur (rv=.nilp∧gv=(k:Int)),qL 3 1 bs.length bv (bs.map (.int .i64))]::R)from H).allE).purE
theorem JobC.SI {vb k:Nat} {bs:List Int} {rv bv:AV} {gv:Int} (e:rv=.nilp∧gv=(k:Int)) (H:HS g h (qL 3 1 bs.length bv (bs.map (.int .i64))::R)):HS g h (JobC vb (.sweep bs k) rv bv gv::R) :=
 show HS g h (SP.all [.pur (rv=.nilp∧gv=(k:Int)),qL 3 1 bs.length bv (bs.map (.int .i64))]::R)from HS.allI (A:=[_,_]) (HS.purI e H)
theorem qG2 {l:List Int} {k:Nat} (h:k<l.length):(l.map (.int .i64))[k]? =some (AV.int .i64 l[k]):=by rw[List.getElem?_map,iW h];rfl
theorem qqF (hn:16≤n) (hg:jj x.v) (hf:frS x.v.lv<9000) (hj:JobOk True x.v x.job) (H:HS g h (qw a (xQ x q)::JobC q.vb x.job q.rv q.bv q.gv::ViewC q.vb x.v::R)) :
  t_w n 55 [.ptr a 0] h λr h'=>r=.tup [.int .i64 (vy x).1.1,.int .i64 (vy x).1.2]∧
   ∃gv,HS g h' (qw a (xQ (vy x).2 { q with gv:=gv })::JobC q.vb (vy x).2.job q.rv q.bv gv::ViewC q.vb (vy x).2.v::R):=by
 refine t_e1 (S:=S55) rfl omQ λk hk=>?_;unfold S55;try simp only[iZ]
 unfold vy;cases hx:x.job with
 |prog p=>
  rw[hx]at H hj;obtain⟨F,Q,gb,hr,hl⟩:=hj;obtain⟨G,h0,h1,h2⟩:=hr trivial;obtain⟨ib,nx,⟨e1,e2,e3⟩,H1⟩:=JobC.P (H.sel e_1);refine qK (qQ (qV H (b:=a) .here (x:=.ptr ib 0) (by rw[← e1];rfl) ?_));refine OA (qX (qG ?_))
  try dsimp only
  refine qK (qQ (qV H (b:=a) .here (x:=.ptr ib 0) (by rw[← e1];rfl) ?_));rw[h0,h1]at H1;refine qY (qWo omQ F Q G h2 omQ (H1.sub (.cons .here (.cons e_1 (.cons .here .refl))))) ?_;rintro _ h3 ⟨rfl,nx',H3⟩;refine qK (qQ (qV H3 (b:=a) e_2 (x:=.ptr ib 0) (by rw[← e1];rfl) ?_));refine qY (qGF omQ H3) ?_;rintro _ _ ⟨rfl,rfl⟩;refine jz H .here (by rw[← e1];rfl) H3 e_2 (by rw[← e1];rfl) (HS.lt H .here) ?_;refine qW ⟨rfl,0,?_⟩;have H4:=(JobC.PI (p:=⟨p.l,(zt p.l (qm p.l) p.left p.s x.v).s,if(zt p.l (qm p.l) p.left p.s x.v).kind=1 then 0 else(zt p.l (qm p.l) p.left p.s x.v).kind,(zt p.l (qm p.l) p.left p.s x.v).err,(zt p.l (qm p.l) p.left p.s x.v).left⟩) ⟨e1,e2,rfl⟩ H3).sub (.cons e_2 (.cons .here (.cons .here .refl)));have eg:xQ x q=xQ x { q with gv:=0 }:=by unfold xQ;rw[e3]
  rw[eg]at H4;exact H4
 |sweep bs k=>
  rw[hx]at H hj;obtain⟨⟨e1,e2⟩,H1⟩:=JobC.S (H.sel e_1);refine qK (qQ (qV H (b:=a) .here (x:=.nilp) (by rw[← e1];rfl) ?_));refine VV (qJ ?_);have hkl:=hj.1;have hbl:=hj.2;dsimp only;generalize hG:xv x.v (bs.drop k) k=G
  refine zG (λm s h'=>s=(.ptr a 0,())∧∃(i:Nat) (V:VM),i≤bs.length∧m=bs.length-i∧jj V∧xv V (bs.drop i) i=G∧
    HS g h' (qw a (xQ x { q with gv:=(i:Int) })::qL 3 1 bs.length q.bv (bs.map (.int .i64))::ViewC q.vb V::R))
   ?_ (m:=bs.length-k) (by show _<1000000000;omega) ⟨rfl,k,x.v,hkl,rfl,hg,hG,by
    have:q={ q with gv:=(k:Int) }:=by rw[← e2]
    rw[← this]
    exact H1.sub (.cons e_1 (.cons .here .refl))⟩
  clear H H1 hG;rintro m ih s h1 hih ⟨rfl,i,V,hi,rfl,hV,hG,H⟩;dsimp only;refine qK (qQ (qV H (b:=a) .here rfl ?_));refine qK (qQ (qV H (b:=a) .here rfl ?_));refine qs H e_1 ?_;by_cases hlt:i<bs.length
  ·refine zJ (by show(i:Int)<_;omega) (qX ?_);refine qK (qQ (qV H (b:=a) .here rfl ?_));refine qK (qQ (qV H (b:=a) .here rfl ?_));refine qK (qQ (qV H (b:=a) .here rfl ?_));refine jf (H.sl e_1) (qG2 hlt) ?_;refine qY (qJb (b:=bs[i]) omQ (H.sel e_2) hV.ok) ?_;rintro _ h2 ⟨rfl,H2⟩;rw[List.drop_eq_getElem_cons hlt]at hG;by_cases h0:(xZ V bs[i]).1=0
   ·refine qj h0 (qX ?_);refine qK (qQ (qV H2 (b:=a) e_1 (x:=.int .i64 (i:Int)) rfl ?_));refine qf omQ ?_;refine qK (qQ ?_);refine qk H2 (b:=a) e_1 ⟨rfl,rfl⟩ (by simp[xQ]) λh3 H3=>?_;refine hih (bs.length-(i+1)) _ _ omQ ⟨rfl,i+1,(xZ V bs[i]).2,by omega,rfl,hV.give.1,?_,H3.sub (.cons .here (.cons e_1 (.cons .here .refl)))⟩;rw[show xv V (bs[i]::bs.drop (i+1)) i=xv (xZ V bs[i]).2 (bs.drop (i+1)) (i+1)from iJ h0]at hG;exact hG
   ·rw[show xv V (bs[i]::bs.drop (i+1)) i=((i,(xZ V bs[i]).1),(xZ V bs[i]).2)from iQ h0]at hG;subst hG;refine qq h0 (qJ ?_);have H3:=(JobC.SI (vb:=q.vb) (k:=i) ⟨e1,rfl⟩ (H2.sub (.cons e_2 (.cons e_1 (.cons .here .refl))))).sub (.cons e_1 (.cons .here (.cons .here .refl)));by_cases h11:(xZ V bs[i]).1=11
    ·refine qj h11 (qX (qv (qW ⟨?_,(i:Int),?_⟩)))
     ·rw[iJ h11];rfl
     ·exact H3
    ·refine qq h11 (qJ (qv (qW ⟨?_,(i:Int),?_⟩)))
     ·rw[iQ h11,iQ h0];rfl
     ·exact H3
  ·obtain rfl:i=bs.length:=by omega
   rw[List.drop_length,show xv V [] bs.length=((bs.length,0),V)from rfl]at hG;subst hG;refine jb (by show¬(bs.length:Int)<_;omega) (qJ (qv (qW ⟨rfl,(bs.length:Int),?_⟩)));have H3:=(JobC.SI (vb:=q.vb) (k:=bs.length) ⟨e1,rfl⟩ (H.sub (.cons e_1 (.cons .here (.cons .here .refl))))).sub (.cons e_1 (.cons .here (.cons .here .refl)));exact H3
theorem Xa {st:Int} {t b:Nat} (hn:1≤n) (H:HS g h (qw a (xQ x q)::R)):t_w n 62 [.ptr a 0,.int .i64 st,.iface t (.ptr b 0)] h λ_ h'=>HS g h' (qw a (xQ { x with state:=st } { q with iv:=.iface t (.ptr b 0) })::R):=by
 refine t_e3 (S:=S62) rfl omQ λk hk=>?_;unfold S62;try simp only[iZ]
 refine qK (qQ (qk H (b:=a) .here ⟨rfl,rfl⟩ (by simp[xQ]) λh1 H1=>?_));refine qK (qQ (qk H1 (b:=a) .here ⟨rfl,rfl⟩ (by simp[xQ]) λh2 H2=>?_));exact qW H2
theorem Oj {p:Int} (hn:3≤n) (hp:p<4611686018427387904) (H:HS g h (qw a (xQ x q)::R)):t_w n 56 [.ptr a 0,.int .i64 p] h λ_ h'=>
  ∃b,HS g h' (qw b (vN (JB x p).f)::qw a (xQ (JB x p) { q with iv:=.iface 88 (.ptr b 0),fv:=.ptr b 0 })::R):=by
 refine t_e2 (S:=S56) rfl omQ λk hk=>?_;unfold S56;try simp only[iZ]
 refine qG ?_
 try dsimp only
 refine qK (qQ (qV H (b:=a) .here rfl ?_));refine qK (qQ (qu (qu (qV H (b:=a) .here rfl ?_))));refine qK (qQ (qu (qu (qV H (b:=a) .here rfl ?_))));refine qY (qJi omQ hp) ?_;rintro _ _ ⟨rfl,rfl⟩;refine qK (qQ (qu (qV H (b:=a) .here rfl ?_)));refine qK (qQ (qV H (b:=a) .here rfl ?_));refine qY (qGh omQ H) ?_;rintro _ h1 ⟨b,rfl,H1⟩;refine qK (qQ ?_);refine qk H1 (b:=a) e_1 (x:=.ptr b 0) ⟨rfl,rfl⟩ (by simp[xQ]) λh2 H2=>?_;refine jz H .here rfl H .here rfl (HS.lt H .here) ?_;refine jz H .here rfl H .here rfl (HS.lt H .here) ?_;refine jz H .here rfl H .here rfl (HS.lt H .here) ?_;have H3:HS g h2 (qw a (xQ { x with f:=Zh x.me p (ofM p x.set.stripes x.set.wide) x.set.spins x.stamp } { q with fv:=.ptr b 0 })::qw b (vN (Zh x.me p (ofM p x.set.stripes x.set.wide) x.set.spins x.stamp))::R):=H2;refine qK (qQ (qV H3 (b:=a) .here rfl ?_));refine qY (Xa omQ H3) λ_ h4 H4=>qW ⟨b,H4.sub (.cons e_1 (.cons .here .refl))⟩
theorem Kz {st:Int} (hn:4≤n) (hr:x.r.length≤16) (H:HS g h (qw a (xQ x q)::RdsC q.db x.r::R)):t_w n 58 [.ptr a 0,.int .i64 st] h λ_ h'=>
  ∃b,HS g h' (ExtC b (wZ x st).e::qw a (xQ (wZ x st) { q with iv:=.iface 89 (.ptr b 0),ev:=.ptr b 0 })::RdsC q.db x.r::R):=by
 refine t_e2 (S:=S58) rfl omQ λk hk=>?_;unfold S58;try simp only[iZ]
 refine qG ?_
 try dsimp only
 refine qK (qQ (qV H (b:=a) .here rfl ?_));refine qK (qQ (qu (qV H (b:=a) .here rfl ?_)));refine qK (qQ (qV H (b:=a) .here rfl ?_));refine qY (Ou omQ omQ (H.sel e_1)) λv h1 H1=>?_;refine qY (qVf (me:=x.me) (sp:=x.set.spins) (r:=x.r) omQ omQ H1) ?_;rintro _ h2 ⟨b,rfl,H2⟩;refine qK (qQ ?_);refine qk H2 (b:=a) e_2 (x:=.ptr b 0) ⟨rfl,rfl⟩ (by simp[xQ]) λh3 H3=>?_;refine jz H .here rfl H1 e_2 rfl (HS.lt H .here) ?_;refine jz H .here rfl H1 e_2 rfl (HS.lt H .here) ?_;have H4:HS g h3 (qw a (xQ { x with e:=Mg x.me x.set.spins x.r } { q with ev:=.ptr b 0 })::ExtC b (Mg x.me x.set.spins x.r)::RdsC q.db x.r::R):=H3;refine qK (qQ (qV H4 (b:=a) .here rfl ?_));refine qY (Xa omQ H4) λ_ h5 H5=>qW ⟨b,H5.sub (.cons e_1 (.cons .here .refl))⟩
end
end
section
variable {g h:AH} {L R:List SP}
section
variable {st:Int} {f:wJ} {e:wD} {c:Option jW} {iv fv ev cv:AV} {b:Nat}
theorem InnC.fetI (hst:st=3) (hc:c=none) (q:cv=.nilp∧fv=.ptr b 0∧iv=.iface 88 (.ptr b 0)) (H:HS g h (qw b (vN f)::R)):HS g h (InnC st f e c iv fv ev cv::R):=by subst hst;subst hc;show HS g h (.ex (λb':Nat=>SP.all [.pur (cv=.nilp∧fv=.ptr b' 0∧iv=.iface 88 (.ptr b' 0)),qw b' (vN f)])::R);exact HS.exI b (HS.allI (A:=[_,_]) (HS.purI q H))
theorem InnC.fetE (hst:st=3) (hc:c=none) (H:HS g h (InnC st f e c iv fv ev cv::R)):∃b,(cv=.nilp∧fv=.ptr b 0∧iv=.iface 88 (.ptr b 0))∧HS g h (qw b (vN f)::R):=by subst hst;subst hc;exact InnC.fet H
theorem InnC.extI (hst:st=4∨st=5) (hc:c=none) (q:cv=.nilp∧ev=.ptr b 0∧iv=.iface 89 (.ptr b 0)) (H:HS g h (ExtC b e::R)):HS g h (InnC st f e c iv fv ev cv::R):=by subst hc;unfold InnC;dsimp only;rw[iQ omQ,iJ hst];exact HS.exI b (HS.allI (A:=[_,_]) (HS.purI q H))
theorem InnC.extE (hst:st=4∨st=5) (hc:c=none) (H:HS g h (InnC st f e c iv fv ev cv::R)):∃b,(cv=.nilp∧ev=.ptr b 0∧iv=.iface 89 (.ptr b 0))∧HS g h (ExtC b e::R):=by subst hc;unfold InnC at H;dsimp only at H;rw[iQ omQ,iJ hst]at H;obtain⟨b,H⟩:=H.exE;exact⟨b,H.allE.purE⟩
theorem InnC.noI (hst:st≠3∧st≠4∧st≠5) (hc:c=none) (q:cv=.nilp) (H:HS g h R):HS g h (InnC st f e c iv fv ev cv::R):=by subst hc;unfold InnC;dsimp only;rw[iQ omQ,iQ omQ];exact HS.purI q H
theorem InnC.noE (hc:c=none) (H:HS g h (InnC st f e c iv fv ev cv::R)):cv=.nilp∧HS g h R:=by subst hc;exact InnC.nil H
theorem InnC.comI {d:jW} (hc:c=some d) (q:cv=.ptr b 0∧(st=6→iv=.iface 90 (.ptr b 0))) (H:HS g h (ComC b d::R)):HS g h (InnC st f e c iv fv ev cv::R):=by subst hc;show HS g h (.ex (λb':Nat=>SP.all [.pur (cv=.ptr b' 0∧(st=6→iv=.iface 90 (.ptr b' 0))),ComC b' d])::R);exact HS.exI b (HS.allI (A:=[_,_]) (HS.purI q H))
theorem InnC.comE {d:jW} (hc:c=some d) (H:HS g h (InnC st f e c iv fv ev cv::R)):∃b,(cv=.ptr b 0∧(st=6→iv=.iface 90 (.ptr b 0)))∧HS g h (ComC b d::R):=by subst hc;obtain⟨b,H⟩:=(show HS g h (.ex (λb':Nat=>SP.all [.pur (cv=.ptr b' 0∧(st=6→iv=.iface 90 (.ptr b' 0))),ComC b' d])::R)from H).exE;exact⟨b,H.allE.purE⟩
end
section
variable {n a:Nat} {x:jI} {q:V2}
theorem MV (hn:18≤n) (B:wo x) (hj:JobOk True x.v x.job) (hc:x.c=none) (hcv:q.cv=.nilp) (H:HS g h (qw a (xQ x q)::JobC q.vb x.job q.rv q.bv q.gv::ViewC q.vb x.v::RdsC q.db x.r::R)) :
  t_w n 30 [.ptr a 0] h λ_ h'=>HS g h' (AttC a (gT x)::R):=by
 refine t_e1 (S:=S30) rfl omQ λk hk=>?_;unfold S30;try simp only[iZ]
 have D:=U2 B.good B.fr hj;unfold gT;refine qY (qqF omQ B.good B.fr hj H) ?_;rintro _ h1 ⟨rfl,gv,H1⟩;clear H;generalize(vy x).1.1=kd at*;generalize(vy x).1.2=er at*;generalize(vy x).2=y at*;obtain⟨e1,e2,e3,e4,e5⟩:=D.same;have hyc:y.c=none:=by rw[e5,hc]
 have hyr:y.r.length≤16:=by rw[e3];exact B.r
 rw[← e3]at H1;generalize hA:kL y kd er=A;refine qB rfl (qB rfl ?_);refine jR [] (λ_ h'=>HS g h' (AttC a A::R)) (λj hj=>?_) λ_ h' H'=>qv (qW H');unfold kL at hA;have hhi:=D.good.ok.hi;by_cases c1:kd=1
 ·rw[iJ c1]at hA;subst hA;refine qj c1 (qX ?_);have hnd:=D.need c1;have hk:=D.kept.1;refine qK (qQ (qV H1 (b:=a) .here rfl ?_));refine qY (Gi omQ (H1.sel (P:=ViewC q.vb y.v) e_2)) ?_;rintro _ _ ⟨rfl,rfl⟩;refine qY (Oj omQ omQ H1) ?_;rintro _ h2 ⟨b,H2⟩;refine hj _ _ (AttC.I (q:={ q with gv:=gv,iv:=.iface 88 (.ptr b 0),fv:=.ptr b 0 }) ?_);have H3:=InnC.fetI (st:=3) (e:=y.e) (ev:=q.ev) rfl hyc ⟨hcv,rfl,rfl⟩ H2;exact H3.sub (.cons e_1 (.cons e_1 (.cons e_1 (.cons e_1 (.cons .here .refl)))))
 rw[iQ c1]at hA;refine qq c1 (qJ ?_);by_cases c3:kd=3
 ·rw[iJ c3]at hA;subst hA;refine qj c3 (qX ?_);refine qK (qQ ?_);refine qk H1 (b:=a) .here ⟨rfl,rfl⟩ (by simp[xQ]) λh2 H2=>?_;have H2:HS g h2 (qw a (xQ { y with blocking:=true } { q with gv:=gv })::JobC q.vb y.job q.rv q.bv gv::ViewC q.vb y.v::RdsC q.db y.r::R):=H2;refine qY (Kz (x:={ y with blocking:=true }) (q:={ q with gv:=gv }) omQ hyr (H2.sub (.cons .here (.cons e_2 .refl)))) ?_;rintro _ h3 ⟨b,H3⟩;refine hj _ _ (AttC.I (q:={ q with gv:=gv,iv:=.iface 89 (.ptr b 0),ev:=.ptr b 0 }) ?_);have H4:=InnC.extI (st:=5) (f:=y.f) (fv:=q.fv) (c:=y.c) (cv:=q.cv) (.inr rfl) hyc ⟨hcv,rfl,rfl⟩ H3;exact H4.sub (.cons e_1 (.cons e_2 (.cons e_2 (.cons e_1 (.cons .here .refl)))))
 rw[iQ c3]at hA;refine qq c3 (qJ ?_);have gone:∀{fin err:Int} {h2:AH},HS g h2 (qw a (xQ (xq y fin err (-1)) { q with gv:=gv })::JobC q.vb y.job q.rv q.bv gv::ViewC q.vb y.v::RdsC q.db y.r::R)→HS g h2 (AttC a (xq y fin err (-1))::R):=λ{fin err h2} H2=>by
  refine AttC.I (q:={ q with gv:=gv }) ?_;have H3:=InnC.noI (st:=7) (f:=y.f) (e:=y.e) (c:=y.c) (iv:=q.iv) (fv:=q.fv) (ev:=q.ev) (cv:=q.cv) od hyc hcv H2;exact H3.sub (.cons e_1 (.cons e_1 (.cons e_1 (.cons e_1 (.cons .here .refl)))))
 by_cases c4:kd=4
 ·rw[iJ c4]at hA;subst hA;refine qj c4 (qX ?_);refine qY (wI omQ H1) λ_ h2 H2=>?_;exact hj _ _ (gone H2)
 rw[iQ c4]at hA;refine qq c4 (qJ ?_);refine qK (qQ (qV H1 (b:=a) .here rfl ?_));refine qY (Zm omQ (H1.sel (P:=ViewC q.vb y.v) e_2) D.good.ok) λv h2 H2=>?_;have hmo:=VP D.good.ok;refine qs H2 .here ?_;by_cases c5:jO y.v.lv=[]
 ·rw[iJ c5]at hA;subst hA;refine qj (by rw[c5];rfl) (qX ?_);refine qY (wI omQ (H2.sub (.cons e_2 (.cons e_2 (.cons e_1 (.cons e_1 (.drop .refl))))))) λ_ h3 H3=>?_;exact qW (gone H3)
 ·rw[iQ c5]at hA;have hml:0<(jO y.v.lv).length:=List.length_pos_iff.2 c5;refine qq omQ (qJ ?_);refine qG ?_
  try dsimp only
  refine qK (qQ (qV H2 (b:=a) e_2 rfl ?_));refine qK (qQ (qu (qV H2 (b:=a) e_2 rfl ?_)));refine qK (qQ (qV H2 (b:=a) e_2 rfl ?_));refine qK (qQ (qV H2 (b:=a) e_2 rfl ?_));refine qY (Ou omQ omQ (H2.sel (P:=RdsC q.db y.r) e_4)) λv2 h3 H3=>?_;refine qK (qQ (qu (qu (qV H3 (b:=a) e_4 rfl ?_))));refine qK (qQ (qu (qu (qV H3 (b:=a) e_4 rfl ?_))));refine qY (qVo (me:=y.me) (sp:=y.set.spins) (st:=y.stamp) (a:=y.set.stripes) (w:=y.set.wide) (r:=y.r) (cs:=jO y.v.lv) omQ omQ hml omQ (λc h=>by have:=hmo.2 c h;omega) (H3.sub (.cons .here (.cons e_1 .refl)))) ?_;rintro _ h4 ⟨b,rfl,H4⟩;refine qK (qQ ?_);refine qk H4 (b:=a) e_3 (x:=.ptr b 0) ⟨rfl,rfl⟩ (by simp[xQ]) λh5 H5=>?_;refine jz H2 e_2 rfl H3 e_4 rfl (HS.lt H2 e_2) ?_;refine jz H2 e_2 rfl H3 e_4 rfl (HS.lt H2 e_2) ?_;refine jz H2 e_2 rfl H3 e_4 rfl (HS.lt H2 e_2) ?_;refine jz H2 e_2 rfl H3 e_4 rfl (HS.lt H2 e_2) ?_;refine jz H2 e_2 rfl H3 e_4 rfl (HS.lt H2 e_2) ?_;have H6:HS g h5 (qw a (xQ { y with c:=some (YZ y.me y.set.spins y.stamp y.r (jO y.v.lv) y.set.stripes y.set.wide) } { q with gv:=gv,cv:=.ptr b 0 })::ComC b (YZ y.me y.set.spins y.stamp y.r (jO y.v.lv) y.set.stripes y.set.wide)::RdsC q.db y.r::ViewC q.vb y.v::JobC q.vb y.job q.rv q.bv gv::R):=H5;refine qK (qQ (qV H6 (b:=a) .here rfl ?_));refine qY (Xa omQ H6) λ_ h6 H7=>?_;subst hA;refine hj _ _ (AttC.I (q:={ q with gv:=gv,cv:=.ptr b 0,iv:=.iface 90 (.ptr b 0) }) ?_);have H8:=InnC.comI (st:=6) (f:=y.f) (e:=y.e) (fv:=q.fv) (ev:=q.ev) rfl ⟨rfl,λ_=>rfl⟩ (H7.sel e_1);exact H8.sub (.cons e_1 (.cons e_3 (.cons e_2 (.cons e_1 (.cons .here .refl)))))
theorem qQI (r:List z6) (x:z6):(ga r x).1=0∨(ga r x).2=r:=by
 unfold ga
 split
 ·exact .inr rfl
 ·split
  ·split<;>exact .inr rfl
  ·split
   ·exact .inr rfl
   ·exact .inl rfl
theorem VB (hn:20≤n) (B:wo x) (hj:JobOk True x.v x.job) (hw:0≤x.f.word∧x.f.word<18446744073709551616) (hc:x.c=none) {b:Nat} (hq:q.cv=.nilp∧q.fv=.ptr b 0) (H:HS g h (qw a (xQ x q)::JobC q.vb x.job q.rv q.bv q.gv::ViewC q.vb x.v::RdsC q.db x.r::qw b (vN x.f)::R)) :
  t_w n 100 [.ptr a 0] h λ_ h'=>HS g h' (AttC a (xx x)::R):=by
 refine t_e1 (S:=S100) rfl omQ λk hk=>?_;unfold S100;try simp only[iZ]
 generalize hA:xx x=A;unfold xx at hA;refine qK (qQ (qV H (b:=a) .here (x:=.ptr b 0) (by rw[← hq.2];rfl) ?_));refine qY (YY omQ H (s:=e_4)) ?_;rintro _ _ ⟨rfl,rfl⟩;by_cases c6:x.f.p.fin=6
 ·rw[iJ c6]at hA;subst hA;refine qj c6 (qX ?_);refine qY (Kz (q:=q) omQ B.r (H.sub (.cons .here (.cons e_2 .refl)))) ?_;rintro _ h3 ⟨b',H3⟩;refine qW (AttC.I (q:={ q with iv:=.iface 89 (.ptr b' 0),ev:=.ptr b' 0 }) ?_);have H4:=InnC.extI (st:=4) (f:=x.f) (fv:=q.fv) (c:=x.c) (cv:=q.cv) (.inl rfl) hc ⟨hq.1,rfl,rfl⟩ H3;exact H4.sub (.cons e_1 (.cons e_2 (.cons e_2 (.cons e_1 (.cons .here (.drop .refl))))))
 rw[iQ c6]at hA;refine qq c6 (qJ ?_);refine qG ?_
 try dsimp only
 refine qK (qQ (qV H (b:=a) .here rfl ?_));refine qK (qQ (qV H (b:=a) .here (x:=.ptr b 0) (by rw[← hq.2];rfl) ?_));refine qY (qJ6 omQ H e_4) ?_;rintro _ h1 ⟨rfl,H1⟩;refine qY (qG8 (x:=yq x.f) omQ B.r (H1.sel (P:=RdsC q.db x.r) e_3)) ?_;rintro _ h2 ⟨rfl,H2⟩;refine jz H .here rfl H1 .here rfl (HS.lt H .here) ?_;refine jR [] (λ_ h'=>HS g h' (AttC a A::R)) (λj hj'=>?_) λ_ h' H'=>qv (qW H');have hx:=XU hw;by_cases c0:(ga x.r (yq x.f)).1=0
 ·rw[iJ c0]at hA;subst hA;refine qj c0 (qX ?_);refine qG ?_
  try dsimp only
  refine qK (qQ (qV H2 (b:=a) e_1 rfl ?_));refine qK (qQ (qV H2 (b:=a) e_1 rfl ?_));refine qY (Gi omQ (H2.sel (P:=ViewC q.vb x.v) e_3)) ?_;rintro _ _ ⟨rfl,rfl⟩;refine qK (qQ (qV H2 (b:=a) e_1 (x:=.ptr b 0) (by rw[← hq.2];rfl) ?_));refine qY (qZu omQ H2 e_4) ?_;rintro _ _ ⟨rfl,rfl⟩;refine qY (qXh (p:=x.v.need) (x:=xP x.f) omQ (H2.sel (P:=ViewC q.vb x.v) e_3) B.good.ok) ?_;rintro _ h3 ⟨rfl,H3⟩;refine jz H2 e_1 (x:=.ptr b 0) (by rw[← hq.2];rfl) H2 e_1 (by rw[← hq.2];rfl) (HS.lt H2 e_1) ?_;refine jz H2 e_1 rfl H2 e_1 rfl (HS.lt H2 e_1) ?_;refine jz H2 e_1 rfl H2 e_1 rfl (HS.lt H2 e_1) ?_;refine qY (MV (x:={ x with r:=(ga x.r (yq x.f)).2,v:=(xN x.v x.v.need (xP x.f)).2 }) (q:=q) (R:=R) omQ ?_ (hj.know hx) hc hq.1 (H3.sub (.cons e_2 (.cons e_2 (.cons .here (.cons .here (.drop .refl))))))) λ_ h4 H4=>hj' _ _ H4;exact⟨B.set,XB B.good hx,by show((xN x.v x.v.need (xP x.f)).2.sz:Int)=x.set.words;rw[kq.2];exact B.sz,by show frS (xN x.v x.v.need (xP x.f)).2.lv<9000;rw[kq.1];exact B.fr,Gv B.r,(hj.know hx).same λh=>h.elim,B.c⟩
 rw[iQ c0]at hA;refine qq c0 (qJ ?_);have hsame:(ga x.r (yq x.f)).2=x.r:=(qQI x.r (yq x.f)).resolve_left c0;rw[hsame]at H2;have gone:∀{fin err:Int} {h2:AH},HS g h2 (qw a (xQ (xq x fin err (-1)) q)::RdsC q.db x.r::JobC q.vb x.job q.rv q.bv q.gv::ViewC q.vb x.v::qw b (vN x.f)::R)→HS g h2 (AttC a (xq x fin err (-1))::R):=λ{fin err h2} H2=>by
  refine AttC.I (q:=q) ?_;have H3:=InnC.noI (st:=7) (f:=x.f) (e:=x.e) (c:=x.c) (iv:=q.iv) (fv:=q.fv) (ev:=q.ev) (cv:=q.cv) od hc hq.1 H2;exact H3.sub (.cons e_1 (.cons e_2 (.cons e_2 (.cons e_1 (.cons .here (.drop .refl))))))
 by_cases c14:(ga x.r (yq x.f)).1=14
 ·rw[iJ c14]at hA;subst hA;refine qj c14 (qX ?_);refine qY (wI omQ (H2.sel e_1)) λ_ h3 H3=>?_;exact hj' _ _ (gone H3)
 ·rw[iQ c14]at hA;subst hA;refine qq c14 (qJ ?_);refine qY (wI omQ (H2.sel e_1)) λ_ h3 H3=>?_;exact hj' _ _ (gone H3)
theorem Mk (hn:4≤n) (O:∀c,x.c=some c→zK c) (H:HS g h (AttC a x::R)):t_w n 20 [.ptr a 0] h λr h'=>r=.bool (vn x)∧HS g h' (AttC a x::R):=by
 refine t_e1 (S:=S20) rfl omQ λk hk=>?_;unfold S20;try simp only[iZ]
 obtain⟨q,H1⟩:=AttC.E H;refine qK (qQ (qV H1 (b:=a) .here rfl ?_));unfold vn;by_cases c8:x.state=8
 ·rw[iV (λh=>h c8),Bool.false_and];refine jK c8 ?_;refine qG ?_;(try dsimp only);refine qT ?_;(try dsimp only);refine qI (qG ?_);(try dsimp only);refine qT ?_;(try dsimp only);refine qG ?_;(try dsimp only);refine zk ?_;(try dsimp only);refine qG ?_;(try dsimp only);refine qT ?_;(try dsimp only);refine qI ?_
  exact qW ⟨rfl,H⟩
 rw[iG (show x.state≠8 from c8),Bool.true_and];refine jX c8 ?_;cases hc:x.c with
 |none=>
  obtain⟨e,H2⟩:=InnC.noE hc (H1.sel e_4);refine qG ?_;(try dsimp only);refine qU ?_;(try dsimp only);refine qK (qQ (qV ‹_› .here rfl ?_))
  rw[e];refine VV (qE (qG ?_));(try dsimp only);refine qT ?_;(try dsimp only);refine qG ?_;(try dsimp only);refine zk ?_;(try dsimp only);refine qG ?_;(try dsimp only);refine qT ?_;(try dsimp only);refine qI ?_
  exact qW ⟨rfl,H⟩
 |some c=>
  obtain⟨b,e,H2⟩:=InnC.comE hc (H1.sel e_4);refine qG ?_;(try dsimp only);refine qU ?_;(try dsimp only);refine qK (qQ (qV ‹_› e_1 rfl ?_))
  rw[e.1];refine OA (qE (qG ?_));(try dsimp only);refine qU ?_;(try dsimp only);refine qK (qQ (qV ‹_› e_1 rfl ?_))
  rw[e.1];refine qY (Vn omQ H2) ?_;rintro _ _ ⟨rfl,rfl⟩;cases hw:kH c with
  |true=>
   refine qG ?_;(try dsimp only);refine qr ?_;(try dsimp only);refine qG ?_;(try dsimp only);refine qU ?_;(try dsimp only);refine qE (qE ?_)
   exact qW ⟨rfl,H⟩
  |false=>
   refine qG ?_;(try dsimp only);refine qd ?_;(try dsimp only);refine qK (qQ (qV ‹_› e_1 rfl ?_))
   rw[e.1];refine qY (Yk omQ H2) ?_;rintro _ _ ⟨rfl,rfl⟩;by_cases c2:c.p.fin=2
   ·refine qj c2 ?_;rw[iG c2];refine qG ?_;(try dsimp only);refine qU ?_;(try dsimp only);refine qI (qE ?_)
    exact qW ⟨rfl,H⟩
   ·refine qq c2 ?_;rw[iV c2];refine qG ?_;(try dsimp only);refine qU ?_;(try dsimp only);refine qI (qE ?_)
    exact qW ⟨rfl,H⟩
theorem qQ4 (hn:22≤n) (O:xJ x) (h3:3≤x.state) (h6:x.state≤6) (H:HS g h (AttC a x::R)):t_w n 63 [.ptr a 0] h λ_ h'=>HS g h' (AttC a (z8 x)::R):=by
 refine t_e1 (S:=S63) rfl omQ λk hk=>?_;unfold S63;try simp only[iZ]
 obtain⟨q,H1⟩:=AttC.E H;clear H;generalize hA:z8 x=A;unfold z8 at hA;refine qK (qQ (qV H1 (b:=a) .here rfl ?_));refine jR [] (λ_ h'=>HS g h' (AttC a A::R)) (λj hj=>?_) λ_ h' H'=>qv (qW H');by_cases c3:x.state=3
 ·rw[iJ c3]at hA;subst hA;refine qj c3 (qX ?_);obtain⟨b,e,H2⟩:=InnC.fetE c3 (O.c0 omQ) (H1.sel e_4);refine qY (VB (q:=q) (R:=R) omQ O.b (O.job.same λ_=>by omega) (O.f c3).2 (O.c0 omQ) ⟨e.1,e.2.1⟩ (H2.sub (.cons e_1 (.cons e_1 (.cons e_1 (.cons e_1 (.cons .here .refl))))))) λ_ h3 H3=>hj _ _ H3
 rw[iQ c3]at hA;refine qq c3 (qJ ?_);by_cases c4:x.state=4
 ·rw[iJ c4]at hA;subst hA;refine qj c4 (qX ?_);have hnd:=O.need omQ omQ;have hhi:=O.good.ok.hi;obtain⟨b,e,H2⟩:=InnC.extE (.inl c4) (O.c0 omQ) (H1.sel e_4);obtain⟨sv,H3⟩:=ExtC.E H2;refine qK (qQ (qV H1 (b:=a) .here (x:=.ptr b 0) (by rw[← e.2.1];rfl) ?_));refine qY (KV omQ H3 .here) ?_;rintro _ _ ⟨rfl,rfl⟩;refine qK (qQ ?_);refine qk H2 (b:=a) e_1 ⟨rfl,rfl⟩ (by simp[xQ]) λh4 H4=>?_;have H4:HS g h4 (qw a (xQ { x with stamp:=yl x.e } q)::ExtC b x.e::JobC q.vb x.job q.rv q.bv q.gv::ViewC q.vb x.v::RdsC q.db x.r::R):=H4;refine qK (qQ (qV H4 (b:=a) .here rfl ?_));refine qY (Gi omQ (H4.sel (P:=ViewC q.vb x.v) e_3)) ?_;rintro _ _ ⟨rfl,rfl⟩;refine qY (Oj omQ omQ H4) ?_;rintro _ h5 ⟨b',H5⟩;refine hj _ _ (AttC.I (q:={ q with iv:=.iface 88 (.ptr b' 0),fv:=.ptr b' 0 }) ?_);have H6:=InnC.fetI (st:=3) (e:=x.e) (ev:=q.ev) (c:=x.c) (cv:=q.cv) rfl (O.c0 omQ) ⟨e.1,rfl,rfl⟩ H5;exact H6.sub (.cons e_1 (.cons e_2 (.cons e_2 (.cons e_2 (.cons .here (.drop .refl))))))
 rw[iQ c4]at hA;refine qq c4 (qJ ?_);by_cases c5:x.state=5
 ·rw[iJ c5]at hA;subst hA;refine qj c5 (qX ?_);obtain⟨b,e,H2⟩:=InnC.extE (.inr c5) (O.c0 omQ) (H1.sel e_4);obtain⟨sv,H3⟩:=ExtC.E H2;refine qK (qQ (qV H1 (b:=a) .here (x:=.ptr b 0) (by rw[← e.2.1];rfl) ?_));refine qY (KV omQ H3 .here) ?_;rintro _ _ ⟨rfl,rfl⟩;refine qK (qQ ?_);refine qk H2 (b:=a) e_1 ⟨rfl,rfl⟩ (by simp[xQ]) λh4 H4=>?_;have H4:HS g h4 (qw a (xQ { x with stamp:=yl x.e } q)::ExtC b x.e::JobC q.vb x.job q.rv q.bv q.gv::ViewC q.vb x.v::RdsC q.db x.r::R):=H4;refine qY (wI omQ H4) λ_ h5 H5=>?_;refine hj _ _ (AttC.I (q:=q) ?_);have H6:=InnC.noI (st:=7) (f:=x.f) (e:=x.e) (c:=x.c) (iv:=q.iv) (fv:=q.fv) (ev:=q.ev) (cv:=q.cv) od (O.c0 omQ) e.1 H5;exact H6.sub (.cons e_1 (.cons e_2 (.cons e_2 (.cons e_2 (.cons .here (.drop .refl))))))
 rw[iQ c5]at hA;refine qq c5 (qJ ?_);have c6:x.state=6:=by omega
 refine qj c6 (qX ?_)
 split at hA
 ·rename_i c hc;subst hA;obtain⟨b,e,H2⟩:=InnC.comE hc (H1.sel e_4);refine qG ?_
  try dsimp only
  refine qK (qQ (qV H1 (b:=a) .here (x:=.ptr b 0) (by rw[← e.1];rfl) ?_));refine qY (Yk omQ H2) ?_;rintro _ _ ⟨rfl,rfl⟩;refine qK (qQ (qV H1 (b:=a) .here (x:=.ptr b 0) (by rw[← e.1];rfl) ?_));refine qY (qVP omQ H2) ?_;rintro _ _ ⟨rfl,rfl⟩;refine qY (wI omQ (H2.sel e_1)) λ_ h5 H5=>?_;refine jz H1 .here (x:=.ptr b 0) (by rw[← e.1];rfl) H1 .here (by rw[← e.1];rfl) (HS.lt H1 .here) ?_;refine hj _ _ (AttC.I (q:=q) ?_);have H6:=InnC.comI (st:=7) (f:=x.f) (e:=x.e) (iv:=q.iv) (fv:=q.fv) (ev:=q.ev) (b:=b) hc ⟨e.1,λh=>by cases h⟩ (H5.sel (P:=ComC b c) e_1);exact H6.sub (.cons e_1 (.cons e_1 (.cons e_1 (.cons e_1 (.cons .here .refl)))))
 ·rename_i hc;exact absurd hc (O.c6 c6)
end
end
section
variable {g h:AH} {L R:List SP}
section
variable {n a:Nat} {x:jI} {q:V2}
theorem InnC.out {st st':Int} {f:wJ} {e:wD} {c:Option jW} {iv fv ev cv:AV} (h7:st'=7∨st'=8) (H:HS g h (InnC st f e c iv fv ev cv::R)):HS g h (InnC st' f e c iv fv ev cv::R):=by
 cases c with
 |none=>obtain⟨q,H⟩:=InnC.noE rfl H;exact InnC.noI omQ rfl q H
 |some d=>obtain⟨b,q,H⟩:=InnC.comE rfl H;exact InnC.comI rfl ⟨q.1,λh=>by omega⟩ H
theorem Yp (hn:24≤n) (O:xJ x) (h3:3≤x.state) (h6:x.state≤6) (H:HS g h (AttC a x::R)):t_w n 31 [.ptr a 0] h λ_ h'=>HS g h' (AttC a (zy x)::R):=by
 (refine qC (g:=W31) rfl omQ λk hk=>?_;show wp (S31 (callT tab qx k) _ _) _;unfold S31;try simp only[iI,uU,iZ])
 obtain⟨q,H1⟩:=AttC.E H;have fin:∀{K2:AV→AH→Go.Ae.R} {Q:AV→AH→Prop},wp (K2 (.int .i64 (zR x).1) h) Q→wp (xm (callT tab qx k) [(36,15),(88,129),(89,134),(90,47),(182,80)] q.iv [] h K2) Q:=λ{K2 Q} w=>by
  unfold zR at w;by_cases c3:x.state=3
  ·rw[iJ c3]at w;obtain⟨b,e,H2⟩:=InnC.fetE c3 (O.c0 omQ) (H1.sel e_4);rw[e.2.2];refine gF rfl (YY omQ H2 .here) ?_;rintro _ _ ⟨rfl,rfl⟩;exact w
  ·rw[iQ c3]at w;by_cases c6:x.state=6
   ·rw[iJ c6]at w
    split at w
    ·rename_i c hc;obtain⟨b,e,H2⟩:=InnC.comE hc (H1.sel e_4);rw[e.2 c6];refine gF rfl (Yk omQ H2) ?_;rintro _ _ ⟨rfl,rfl⟩;exact w
    ·rename_i hc;exact absurd hc (O.c6 c6)
   ·rw[iQ c6]at w;obtain⟨b,e,H2⟩:=InnC.extE omQ (O.c0 omQ) (H1.sel e_4);obtain⟨sv,H3⟩:=ExtC.E H2;rw[e.2.2];refine gF rfl (OF omQ H3 .here) ?_;rintro _ _ ⟨rfl,rfl⟩;exact w
 have by_:∀{K2:AV→AH→Go.Ae.R} {Q:AV→AH→Prop},wp (K2 (.int .i64 (zR x).2) h) Q→wp (xm (callT tab qx k) [(36,19),(88,314),(89,322),(90,325),(182,317)] q.iv [] h K2) Q:=λ{K2 Q} w=>by
  unfold zR at w;by_cases c3:x.state=3
  ·rw[iJ c3]at w;obtain⟨b,e,H2⟩:=InnC.fetE c3 (O.c0 omQ) (H1.sel e_4);rw[e.2.2];refine gF rfl (qqH omQ H2 .here) ?_;rintro _ _ ⟨rfl,rfl⟩;exact w
  ·rw[iQ c3]at w;by_cases c6:x.state=6
   ·rw[iJ c6]at w
    split at w
    ·rename_i c hc;obtain⟨b,e,H2⟩:=InnC.comE hc (H1.sel e_4);rw[e.2 c6];refine gF rfl (qq0 omQ H2) ?_;rintro _ _ ⟨rfl,rfl⟩;exact w
    ·rename_i hc;exact absurd hc (O.c6 c6)
   ·rw[iQ c6]at w;obtain⟨b,e,H2⟩:=InnC.extE omQ (O.c0 omQ) (H1.sel e_4);obtain⟨sv,H3⟩:=ExtC.E H2;rw[e.2.2];refine gF rfl (qqi omQ H3 .here) ?_;rintro _ _ ⟨rfl,rfl⟩;exact w
 refine qK (qQ (qV H1 (b:=a) .here rfl (fin ?_)));have OL:=K6 O h3 h6;show wp _ λ_ h'=>HS g h' (AttC a (xr (yA x))::R);refine jR [] (λs h'=>s=(.ptr a 0,())∧HS g h' (AttC a (yA x)::R)) (λj hj=>?_) ?_
 rotate_left
 ·rintro _ h2 ⟨rfl,H2⟩;dsimp only;refine qY (Mk omQ OL.c H2) ?_;rintro _ h3 ⟨rfl,H3⟩;unfold xr;cases hw:vn (yA x)with
  |false=>exact qJ (qv (qW H3))
  |true=>
   refine qX ?_;have hcs:∃c,(yA x).c=some c:=by
    unfold vn at hw;cases hc:(yA x).c with
    |none=>rw[hc]at hw;simp at hw
    |some c=>exact⟨c,rfl⟩
   obtain⟨c,hc⟩:=hcs;obtain⟨q2,H4⟩:=AttC.E H3;obtain⟨b,e,H5⟩:=InnC.comE hc (H4.sel e_4);refine qK (qQ (qV H4 (b:=a) .here (x:=.ptr b 0) (by rw[← e.1];rfl) ?_));refine qY (Zd omQ (OL.c c hc).now H5) ?_;rintro _ _ ⟨rfl,rfl⟩;refine qK (qQ ?_);refine qk H4 (b:=a) .here ⟨rfl,rfl⟩ (by simp[xQ]) λh5 H6=>qv (qW ?_);rw[iJ rfl];have H7:HS g h5 (qw a (xQ { yA x with stamp:=Xw c } q2)::JobC q2.vb (yA x).job q2.rv q2.bv q2.gv::ViewC q2.vb (yA x).v::RdsC q2.db (yA x).r::InnC (yA x).state (yA x).f (yA x).e (yA x).c q2.iv q2.fv q2.ev q2.cv::R):=H6;rw[hc]at H7 ⊢;exact AttC.I (q:=q2) H7
 generalize hL:yA x=Y at*;unfold yA at hL;by_cases c0:(zR x).1=0
 ·rw[iJ c0]at hL;subst hL;exact qj c0 (qX (hj _ _ ⟨rfl,H⟩))
 rw[iQ c0]at hL;refine qq c0 (qJ ?_);by_cases c5:(zR x).1=5
 ·rw[iJ c5]at hL;subst hL;refine qj c5 (qX ?_);refine qK (qQ (qV H1 (b:=a) .here rfl (by_ ?_)));refine qY (wI omQ H1) λ_ h2 H2=>hj _ _ ⟨rfl,AttC.I (q:=q) ?_⟩;have H3:=InnC.out (st':=7) (.inl rfl) (H2.sel e_4);exact H3.sub (.cons e_1 (.cons e_1 (.cons e_1 (.cons e_1 (.cons .here .refl)))))
 ·rw[iQ c5]at hL;subst hL;refine qq c5 (qJ ?_);exact qY (qQ4 omQ O h3 h6 H) λ_ h2 H2=>hj _ _ ⟨rfl,H2⟩
theorem qX9 {an:AnM} (hn:26≤n) (O:xJ x) (ha:GN an) (H:HS g h (AttC a x::R)):t_w n 8 [.ptr a 0,.agg (zq an)] h λ_ h'=>HS g h' (AttC a (zT x an)::R):=by
 (refine qC (g:=W8) rfl omQ λk hk=>?_;show wp (S8 (callT tab qx k) _ _ _) _;unfold S8;try simp only[iI,uU,iZ])
 have hst:=O.st;obtain⟨q,H0⟩:=AttC.E H;refine qH H0 rfl λb0 h1 H1=>?_;have H1:HS g h1 (qw b0 (zq an)::N8 a x q R):=H1;clear H H0;generalize hA:zT x an=A;unfold zT at hA;refine qK (qQ (qV H1 (b:=a) e_1 rfl ?_));by_cases c8:x.state=8
 ·rw[iJ c8]at hA;subst hA;exact qj c8 (qX (qW (AttC.I (q:=q) H1.drop)))
 rw[iQ c8]at hA;refine qq c8 (qJ ?_);refine qQ (qV H1 (b:=b0) .here (x:=.int .i64 an.err) rfl ?_);by_cases ce:an.err=0
 rotate_left
 ·rw[iJ ce]at hA;subst hA;refine jX ce (qX ?_);refine qQ (qV H1 (b:=b0) .here (x:=.int .i64 an.err) rfl ?_);refine qY (wI omQ (H1.sel e_1)) λ_ h2 H2=>?_;refine qK (qQ ?_);refine qk H2 (b:=a) .here ⟨rfl,rfl⟩ (by simp[xQ]) λh3 H3=>qW (AttC.I (q:=q) ?_);have H4:=InnC.out (st':=8) (.inr rfl) (H3.sel e_5);exact H4.sub (.cons e_1 (.cons e_2 (.cons e_2 (.cons e_2 (.cons .here (.drop .refl))))))
 rw[iQ (λh=>h ce)]at hA;refine jK ce (qJ ?_);refine qK (qQ (qV H1 (b:=a) e_1 rfl ?_));refine jR [] (λ_ h'=>HS g h' (AttC a A::R)) (λj hj=>?_) λ_ h' H'=>qv (qW H');by_cases c0:x.state=0
 ·rw[iJ c0]at hA;subst hA;refine qj c0 (qX ?_);refine qK (qQ ?_);refine qk H1 (b:=a) e_1 ⟨rfl,rfl⟩ (by simp[xQ]) λh2 H2=>hj _ _ (AttC.I (q:=q) ?_);obtain⟨e,H3⟩:=InnC.noE (O.c0 omQ) (H2.sel e_5);have H4:=InnC.noI (st:=1) (f:=x.f) (e:=x.e) (c:=x.c) (iv:=q.iv) (fv:=q.fv) (ev:=q.ev) od (O.c0 omQ) e H3;exact H4.sub (.cons e_1 (.cons e_2 (.cons e_2 (.cons e_2 (.cons .here (.drop .refl))))))
 rw[iQ c0]at hA;refine qq c0 (qJ ?_);by_cases c1:x.state=1
 ·rw[iJ c1]at hA;subst hA;refine qj c1 (qX ?_);refine qG ?_
  try dsimp only
  refine qQ (qV H1 (b:=b0) .here (x:=.int .u64 an.word) rfl ?_);refine qQ (qV H1 (b:=b0) .here (x:=.int .u64 an.word) rfl ?_);refine qK (qQ ?_);refine qk H1 (b:=a) e_1 ⟨rfl,rfl⟩ (by simp[xQ]) λh2 H2=>?_;refine qK (qQ ?_);refine qk H2 (b:=a) .here ⟨rfl,rfl⟩ (by simp[xQ]) λh3 H3=>?_;refine qK (qQ ?_);refine qk H3 (b:=a) .here ⟨rfl,rfl⟩ (by simp[xQ]) λh4 H4=>?_;refine jz H2 e_1 rfl H3 e_1 rfl (HS.lt H1 .here) ?_;refine jz H1 .here rfl H2 e_1 rfl (HS.lt H1 .here) ?_;refine jz H1 .here rfl H2 e_1 rfl (HS.lt H1 .here) ?_;refine qK (qQ ?_);refine qk H4 (b:=a) .here ⟨rfl,rfl⟩ (by simp[xQ]) λh5 H5=>hj _ _ (AttC.I (q:=q) ?_);obtain⟨e,H6⟩:=InnC.noE (O.c0 omQ) (H5.sel e_5);have H7:=InnC.noI (st:=2) (f:=x.f) (e:=x.e) (c:=x.c) (iv:=q.iv) (fv:=q.fv) (ev:=q.ev) od (O.c0 omQ) e H6;exact H7.sub (.cons e_1 (.cons e_2 (.cons e_2 (.cons e_2 (.cons .here (.drop .refl))))))
 rw[iQ c1]at hA;refine qq c1 (qJ ?_);by_cases c2:x.state=2
 ·rw[iJ c2]at hA;subst hA;refine qj c2 (qX ?_);obtain⟨e,H3⟩:=InnC.noE (O.c0 omQ) (H1.sel e_5);exact qY (MV (q:=q) (R:=R) omQ O.b (O.job.same λ_=>by omega) (O.c0 omQ) e (H3.sub (.cons e_1 (.cons e_1 (.cons e_1 (.cons e_1 (.drop .refl))))))) λ_ h4 H4=>hj _ _ H4
 rw[iQ c2]at hA;refine qq c2 (qJ ?_);by_cases c7:x.state=7
 ·rw[iJ c7]at hA;subst hA;refine qj c7 (qX ?_);refine qK (qQ ?_);refine qk H1 (b:=a) e_1 ⟨rfl,rfl⟩ (by simp[xQ]) λh2 H2=>hj _ _ (AttC.I (q:=q) ?_);have H3:=InnC.out (st':=8) (.inr rfl) (H2.sel e_5);exact H3.sub (.cons e_1 (.cons e_2 (.cons e_2 (.cons e_2 (.cons .here (.drop .refl))))))
 rw[iQ c7]at hA;refine qq c7 (qJ ?_);refine qK (qQ (qV H1 (b:=a) e_1 rfl ?_));refine qA H1 (b:=b0) (off:=0) .here rfl omQ (l:=zq an) rfl ?_;have hsx:∀{y:jI},y.state=x.state→3≤y.state∧y.state≤6:=λh=>by omega
 by_cases c3:x.state=3
 ·rw[iJ c3]at hA;subst hA;obtain⟨b,e,H2⟩:=InnC.fetE c3 (O.c0 omQ) (H1.sel e_5);rw[e.2.2];refine gF rfl (qZN (a:=an) omQ (O.f c3).1 H2) λ_ h3 H3=>?_;have H4:=InnC.fetI (st:=x.state) (e:=x.e) (ev:=q.ev) c3 (O.c0 omQ) e H3;have O':xJ { x with f:=xO x.f an }:=⟨O.set,O.good,O.sz,O.fr,O.r,O.job,O.st,λh=>⟨JF (O.f h).1,Xf (O.f h).2 ha⟩,O.need,O.e,O.c,O.c0,O.c6⟩;exact qY (Yp (x:={ x with f:=xO x.f an }) omQ O' (hsx rfl).1 (hsx rfl).2 (AttC.I (q:=q) (H4.sub (.cons e_2 (.cons e_2 (.cons e_2 (.cons e_2 (.cons .here (.drop .refl))))))))) λ_ h5 H5=>hj _ _ H5
 rw[iQ c3]at hA;by_cases c6:x.state=6
 ·rw[iJ c6]at hA;subst hA;cases hc:x.c with
  |none=>exact absurd hc (O.c6 c6)
  |some c=>obtain⟨b,e,H2⟩:=InnC.comE hc (H1.sel e_5);rw[e.2 c6];have Oc:=O.c c hc;refine gF rfl (qVC (a:=an) omQ Oc H2) λ_ h3 H3=>?_;have H4:=InnC.comI (st:=x.state) (f:=x.f) (e:=x.e) (fv:=q.fv) (ev:=q.ev) (c:=some (zQ c an)) rfl e H3;have O':xJ { x with c:=some (zQ c an) }:=⟨O.set,O.good,O.sz,O.fr,O.r,O.job,O.st,O.f,O.need,O.e,λc' h=>by cases h;exact Qs Oc ha,λh=>absurd h (by show¬x.state≤5;omega),λ_ h=>by cases h⟩;rw[hc]at hj;exact qY (Yp (x:={ x with c:=some (zQ c an) }) omQ O' (hsx rfl).1 (hsx rfl).2 (AttC.I (q:=q) (H4.sub (.cons e_2 (.cons e_2 (.cons e_2 (.cons e_2 (.cons .here (.drop .refl))))))))) λ_ h5 H5=>hj _ _ H5
 rw[iQ c6]at hA;subst hA;obtain⟨b,e,H2⟩:=InnC.extE omQ (O.c0 omQ) (H1.sel e_5);rw[e.2.2];refine gF rfl (qZb (a:=an) omQ (O.e omQ omQ) H2) λ_ h3 H3=>?_;have H4:=InnC.extI (st:=x.state) (f:=x.f) (fv:=q.fv) omQ (O.c0 omQ) e H3;have O':xJ { x with e:=yg x.e an }:=⟨O.set,O.good,O.sz,O.fr,O.r,O.job,O.st,O.f,O.need,λh1 h2=>JP (O.e h1 h2),O.c,O.c0,O.c6⟩;exact qY (Yp (x:={ x with e:=yg x.e an }) omQ O' (hsx rfl).1 (hsx rfl).2 (AttC.I (q:=q) (H4.sub (.cons e_2 (.cons e_2 (.cons e_2 (.cons e_2 (.cons .here (.drop .refl))))))))) λ_ h5 H5=>hj _ _ H5
theorem qXE (hn:4≤n) (O:xJ x) (H:HS g h (AttC a x::R)):t_w n 7 [.ptr a 0] h λr h'=>r=opV (yY x)∧HS g h' (AttC a x::R):=by
 (refine qC (g:=W7) rfl omQ λk hk=>?_;show wp (S7 (callT tab qx k) _ _) _;unfold S7;try simp only[iI,uU,iZ])
 have hst:=O.st;obtain⟨q,H0⟩:=AttC.E H;refine qH H0 rfl λb0 h1 H1=>?_;clear H H0;refine qK (qQ (qV H1 (b:=a) e_1 rfl ?_));unfold yY;have say:∀{o:OpM} {h':AH},HS g h' (qw b0 (xI o)::N8 a x q R)→wp (jt h' (.ptr b0 0) 10 λv=>some (.tup [v,.bool true],h')) λr h'=>r=opV (some o)∧HS g h' (AttC a x::R):=λ{o h'} H'=>by
  refine qA H' (b:=b0) (off:=0) .here rfl omQ (l:=xI o) rfl ?_;exact qW ⟨rfl,AttC.I (q:=q) H'.drop⟩
 by_cases c0:x.state=0
 ·rw[iJ c0];refine qj c0 (qX ?_);refine qK (qQ (qV H1 (b:=a) e_1 rfl ?_));refine qF (l:=xI (op0 9 x.me 1)) rfl ?_;exact qe H1 (b:=b0) .here rfl (by show 0+10≤10;omega) rfl λh3 H3=>say H3
 rw[iQ c0];refine qq c0 (qJ ?_);by_cases c1:x.state=1
 ·rw[iJ c1];refine qj c1 (qX ?_);refine qF (l:=xI (op0 6 0 0)) rfl ?_;exact qe H1 (b:=b0) .here rfl (by show 0+10≤10;omega) rfl λh3 H3=>say H3
 rw[iQ c1];refine qq c1 (qJ ?_);by_cases c2:x.state=2
 ·rw[iJ c2];refine qj c2 (qX ?_);refine qK (qQ (qV H1 (b:=a) e_1 rfl ?_));refine qK (qQ (qV H1 (b:=a) e_1 rfl ?_));refine Jd (qF (l:=xI (op0 9 x.me (zg .u64 (x.stamp+1)))) rfl ?_);exact qe H1 (b:=b0) .here rfl (by show 0+10≤10;omega) rfl λh3 H3=>say H3
 rw[iQ c2];refine qq c2 (qJ ?_);by_cases c7:x.state=7
 ·rw[iJ c7];refine qj c7 (qX ?_);refine qK (qQ (qV H1 (b:=a) e_1 rfl ?_));refine qF (l:=xI (op0 9 x.me 0)) rfl ?_;exact qe H1 (b:=b0) .here rfl (by show 0+10≤10;omega) rfl λh3 H3=>say H3
 rw[iQ c7];refine qq c7 (qJ ?_);by_cases c8:x.state=8
 ·rw[iJ c8];refine qj c8 (qX ?_);refine qF (l:=xI (op0 0 0 0)) rfl ?_;refine qe H1 (b:=b0) .here rfl (by show 0+10≤10;omega) rfl λh3 H3=>?_;refine qA H3 (b:=b0) (off:=0) .here rfl omQ (l:=xI (op0 0 0 0)) rfl ?_;exact qW ⟨rfl,AttC.I (q:=q) H3.drop⟩
 rw[iQ c8];refine qq c8 (qJ ?_);refine qK (qQ (qV H1 (b:=a) e_1 rfl ?_));have inn:∀{o:Option OpM} {h':AH},HS g h' (qw b0 (xI (op0 0 0 0))::N8 a x q R)→wp (ji (opV o) 0 λv=>ji (opV o) 1 λv2=>jv h' (.ptr b0 0) v 10 λh2=>jt h2 (.ptr b0 0) 10 λv3=>some (.tup [v3,v2],h2)) λr h'=>r=opV o∧HS g h' (AttC a x::R):=λ{o h'} H'=>by
  refine qB rfl (qB rfl ?_);refine qe H' (b:=b0) .here rfl (by show 0+10≤10;omega) rfl λh3 H3=>?_;refine qA H3 (b:=b0) (off:=0) .here rfl omQ (l:=xI (o.getD (op0 0 0 0))) rfl ?_;exact qW ⟨rfl,AttC.I (q:=q) H3.drop⟩
 by_cases c3:x.state=3
 ·rw[iJ c3];obtain⟨b,e,H2⟩:=InnC.fetE c3 (O.c0 omQ) (H1.sel e_5);rw[e.2.2];refine gF rfl (qJh omQ H2) ?_;rintro _ h3 ⟨rfl,H3⟩;have H4:=InnC.fetI (st:=x.state) (e:=x.e) (ev:=q.ev) c3 (O.c0 omQ) e H3;exact inn (H4.sub (.cons e_1 (.cons e_1 (.cons e_1 (.cons e_1 (.cons e_1 (.cons .here .refl)))))))
 rw[iQ c3];by_cases c6:x.state=6
 ·rw[iJ c6];cases hc:x.c with
  |none=>exact absurd hc (O.c6 c6)
  |some c=>obtain⟨b,e,H2⟩:=InnC.comE hc (H1.sel e_5);rw[e.2 c6];refine gF rfl (qJ3 omQ (O.c c hc) H2) ?_;rintro _ h3 ⟨rfl,H3⟩;have H4:=InnC.comI (st:=x.state) (f:=x.f) (e:=x.e) (fv:=q.fv) (ev:=q.ev) hc e H3;exact inn (H4.sub (.cons e_1 (.cons e_1 (.cons e_1 (.cons e_1 (.cons e_1 (.cons .here .refl)))))))
 rw[iQ c6];obtain⟨b,e,H2⟩:=InnC.extE omQ (O.c0 omQ) (H1.sel e_5);rw[e.2.2];refine gF rfl (qJs omQ (O.e omQ omQ) H2) ?_;rintro _ h3 ⟨rfl,H3⟩;have H4:=InnC.extI (st:=x.state) (f:=x.f) (fv:=q.fv) omQ (O.c0 omQ) e H3;exact inn (H4.sub (.cons e_1 (.cons e_1 (.cons e_1 (.cons e_1 (.cons e_1 (.cons .here .refl)))))))
end
end
section
variable {g h:AH} {L R:List SP}
section
variable {n:Nat} {s S:zi}
abbrev wC (S:zi):List AV:=[.int .i64 S.words,.int .i64 S.stripes,.int .i64 S.wide,.int .i64 S.threads,.int .u64 S.start]
abbrev yw (S:zi):List AV:=[.int .i64 S.words,.int .i64 S.stripes,.int .i64 S.wide,.int .i64 S.threads,.int .u64 S.start,.int .i64 S.spins,.int .i64 S.writes,.int .i64 S.fuel]
theorem VH (hn:1≤n) (H:HS g h R):t_w n 22 [.agg (wC s)] h λr h'=>r=.agg (wC (jo s))∧HS g h' R:=by
 refine t_e1 (S:=S22) rfl omQ λk hk=>?_;unfold S22;try simp only[iZ]
 refine qH H rfl λb0 h1 H1=>?_;refine qH H1 rfl λb1 h2 H2=>?_;refine qQ (qV H2 (b:=b0) e_1 rfl (zB (zP ?_)));refine qQ (qV H2 (b:=b0) e_1 rfl (zB (zP ?_)));refine qQ (qV H2 (b:=b0) e_1 rfl (zB (zP ?_)));refine qQ (qV H2 (b:=b0) e_1 rfl (zB (zP ?_)));refine qQ (qV H2 (b:=b0) e_1 rfl (zB ?_));refine qF (l:=wC (jo s)) rfl ?_;refine qe H2 (b:=b1) .here rfl (by show 0+5≤5;omega) rfl λh3 H3=>?_;refine qA H3 (b:=b1) (off:=0) .here rfl omQ (l:=wC (jo s)) rfl ?_;exact qW ⟨rfl,H3.drop.drop⟩
theorem qXT (hn:2≤n) (H:HS g h R):t_w n 49 [.agg (yw s)] h λr h'=>r=.agg (yw (jo s))∧HS g h' R:=by
 refine t_e1 (S:=S49) rfl omQ λk hk=>?_;unfold S49;try simp only[iZ]
 refine qH H rfl λb0 h1 H1=>?_;refine qH H1 rfl λb1 h2 H2=>?_;refine qG ?_
 try dsimp only
 refine qQ (qA H2 (b:=b0) (off:=0) e_1 rfl omQ (l:=wC s) rfl ?_);refine qY (VH omQ H2) ?_;rintro _ h3 ⟨rfl,H3⟩;refine qQ (qV H3 (b:=b0) e_1 rfl (zB (zP ?_)));refine qQ (qV H3 (b:=b0) e_1 rfl (zB (zP ?_)));refine qQ (qV H3 (b:=b0) e_1 rfl (zB (zP ?_)));refine qF (l:=yw (jo s)) rfl ?_;refine qe H3 (b:=b1) .here rfl (by show 0+8≤8;omega) rfl λh4 H4=>?_;refine jz H2 e_1 rfl H3 e_1 rfl (HS.lt H2 e_1) ?_;refine jz H2 e_1 rfl H3 e_1 rfl (HS.lt H2 e_1) ?_;refine jz H2 e_1 rfl H3 e_1 rfl (HS.lt H2 e_1) ?_;refine qA H4 (b:=b1) (off:=0) .here rfl omQ (l:=yw (jo s)) rfl ?_;exact qW ⟨rfl,H4.drop.drop⟩
theorem qWC {w:Int} (hn:1≤n) (hw:32≤w∧w≤256) (H:HS g h R):t_w n 23 [.int .i64 w] h λr h'=>∃b v,r=.ptr b 0∧HS g h' (qw b [v]::qL 24 1 w.toNat v ((List.replicate w.toNat (0:Int)).map (.int .u64))::R):=by
 refine t_e1 (S:=S23) rfl omQ λk hk=>?_;unfold S23;try simp only[iZ]
 refine zB (zP ?_);rw[show max ((32:Nat):Int) (min w ((256:Nat):Int))=((w.toNat:Nat):Int) by omega];refine Xz H omQ λv h1 H1=>?_;rw[show List.replicate w.toNat (AV.int .u64 ((0:Nat):Int))=(List.replicate w.toNat (0:Int)).map (.int .u64) by rw[List.map_replicate];rfl]at H1;have o1:=H1.one .here;refine qF (l:=[v]) (by simp only[vK,o1.1];rfl) ?_;refine qH H1 (by simp only[jG,List.all_cons,o1.2];rfl) λb h2 H2=>qW ⟨b,v,rfl,H2⟩
theorem qV5 {w:Int} (hn:1≤n) (hw:1≤w∧w≤4) (H:HS g h R):t_w n 26 [.int .i64 w] h λr h'=>∃b v,r=.ptr b 0∧HS g h' (qw b [v]::qL 24 1 w.toNat v ((List.replicate w.toNat (0:Int)).map (.int .u64))::R):=by
 refine t_e1 (S:=S26) rfl omQ λk hk=>?_;unfold S26;try simp only[iZ]
 refine zB (zP ?_);rw[show max ((1:Nat):Int) (min w ((4:Nat):Int))=((w.toNat:Nat):Int) by omega];refine Xz H omQ λv h1 H1=>?_;rw[show List.replicate w.toNat (AV.int .u64 ((0:Nat):Int))=(List.replicate w.toNat (0:Int)).map (.int .u64) by rw[List.map_replicate];rfl]at H1;have o1:=H1.one .here;refine qF (l:=[v]) (by simp only[vK,o1.1];rfl) ?_;refine qH H1 (by simp only[jG,List.all_cons,o1.2];rfl) λb h2 H2=>qW ⟨b,v,rfl,H2⟩
theorem ND:∀k:Nat,yo [AV.int .u64 ((0:Nat):Int),.bool false,.int .i64 ((0:Nat):Int)] k=(List.replicate k lk0).flatMap jw:=by
 intro k
 induction k with
 |zero=>rfl
 |succ k ih=>rw[List.replicate_succ,List.flatMap_cons,← ih];rfl
theorem qYC {w z:Int} (hn:2≤n) (hw:1≤w∧w≤16) (hz:1≤z∧z≤16) (H:HS g h R):t_w n 24 [.int .i64 w,.int .i64 z] h λr h'=>∃b v,r=.ptr b 0∧HS g h' (qw b [v,.int .i64 z]::qL 40 3 w.toNat v ((List.replicate w.toNat lk0).flatMap jw)::R):=by
 refine t_e2 (S:=S24) rfl omQ λk hk=>?_;unfold S24;try simp only[iZ]
 refine qY (YB omQ) ?_;rintro _ _ ⟨rfl,rfl⟩;rw[show max 1 (min w ((16:Nat):Int))=((w.toNat:Nat):Int) by omega];refine Jr (sz:=3) (ln:=w.toNat) (cp:=w.toNat) H rfl (Nat.le_refl _) omQ λv h1 H1=>?_;rw[List.take_of_length_le (by rw[gw];exact Nat.le_refl _),ND]at H1;refine qY (YB omQ) ?_;rintro _ _ ⟨rfl,rfl⟩;rw[show max 1 (min z ((16:Nat):Int))=z by omega];have o1:=H1.one .here;refine qF (l:=[v,.int .i64 z]) (by simp only[vK,o1.1];rfl) ?_;refine qH H1 (by simp only[jG,List.all_cons,o1.2];rfl) λb h2 H2=>qW ⟨b,v,rfl,H2⟩
theorem qGL {w:Int} (hn:1≤n) (hw:w≤4611686018427387903) (H:HS g h R):t_w n 25 [.int .u64 w] h λr h'=>∃b,r=.ptr b 0∧HS g h' (qw b [.int .u64 w]::R):=by
 refine t_e1 (S:=S25) rfl omQ λk hk=>?_;unfold S25;try simp only[iZ]
 refine zB ?_;rw[show min w ((4611686018427387903:Nat):Int)=w by omega];refine qF (l:=[.int .u64 w]) rfl ?_;refine qH H rfl λb h2 H2=>qW ⟨b,rfl,H2⟩
theorem qWH (hn:4≤n) (hs:0≤s.start) (H:HS g h R):t_w n 5 [.agg (wC s)] h λr h'=>∃p,r=.ptr p 0∧HS g h' (MemC p (jo s) (gH (jo s))::R):=by
 refine t_e1 (S:=S5) rfl omQ λk hk=>?_;unfold S5;try simp only[iZ]
 have O:=JW hs;refine qH H rfl λb0 h1 H1=>?_;refine qA H1 (b:=b0) (off:=0) .here rfl omQ (l:=wC s) rfl ?_;refine qY (VH omQ H1) ?_;rintro _ h2 ⟨rfl,H2⟩;clear H H1;refine qe H2 (b:=b0) .here rfl (by show 0+5≤5;omega) rfl λh3 H3=>?_;have H3:HS g h3 (qw b0 (wC (jo s))::R):=H3;generalize jo s=S at*;clear H2;refine qG ?_
 try dsimp only
 refine qA H3 (b:=b0) (off:=0) .here rfl omQ (l:=wC S) rfl ?_;refine qQ (qV H3 (b:=b0) .here rfl ?_);refine qY (qWC omQ O.words H3) ?_;rintro _ h4 ⟨hb,wv,rfl,H4⟩;refine qQ (qV H4 (b:=b0) e_2 rfl ?_);refine qQ (qV H4 (b:=b0) e_2 rfl ?_);refine qY (qYC omQ O.stripes O.wide H4) ?_;rintro _ h5 ⟨tb,lv,rfl,H5⟩;refine qQ (qV H5 (b:=b0) e_4 rfl ?_);refine qY (qGL omQ O.start.2 H5) ?_;rintro _ h6 ⟨cb,rfl,H6⟩;refine qQ (qV H6 (b:=b0) e_5 rfl ?_);refine qY (qV5 omQ O.threads H6) ?_;rintro _ h7 ⟨sb,sv,rfl,H7⟩;refine qF (l:=[.int .i64 S.words,.int .i64 S.stripes,.int .i64 S.wide,.int .i64 S.threads,.int .u64 S.start,.ptr hb 0,.ptr tb 0,.ptr cb 0,.ptr sb 0,.int .i64 0]) rfl ?_;refine qH H7 rfl λp h8 H8=>?_;refine jz H5 e_4 rfl H6 e_5 rfl (HS.lt H3 .here) ?_;refine jz H4 e_2 rfl H5 e_4 rfl (HS.lt H3 .here) ?_;refine jz H3 .here rfl H4 e_2 rfl (HS.lt H3 .here) ?_;refine jz H4 e_2 rfl H5 e_4 rfl (HS.lt H3 .here) ?_;refine jz H3 .here rfl H4 e_2 rfl (HS.lt H3 .here) ?_;refine jz H3 .here rfl H4 e_2 rfl (HS.lt H3 .here) ?_;refine jz H3 .here rfl H4 e_2 rfl (HS.lt H3 .here) ?_;refine zU H6 e_5 rfl H7 e_7 rfl rfl omQ (HS.lt H3 .here) ?_;refine zU H5 e_4 rfl H6 e_5 rfl rfl omQ (HS.lt H3 .here) ?_;refine zU H4 e_2 rfl H5 e_4 rfl rfl omQ (HS.lt H3 .here) ?_;refine zU H3 .here rfl H4 e_2 rfl rfl omQ (HS.lt H3 .here) ?_;refine qW ⟨p,rfl,MemC.I (hb:=hb) (tb:=tb) (cb:=cb) (sb:=sb) (wv:=wv) (lv:=lv) (sv:=sv) ?_⟩;unfold Na gH;dsimp only;simp only[List.length_replicate];exact H8.sub (.cons .here (.cons e_5 (.cons e_5 (.cons e_3 (.cons e_3 (.cons e_2 (.cons .here (.cons .here (.drop .refl)))))))))
theorem Nb {me:Int} (hn:6≤n) (hs:0≤s.start) (H:HS g h R):t_w n 27 [.int .i64 me,.agg (yw s)] h λr h'=>∃a vb db,r=.ptr a 0∧
  HS g h' (qw a (xQ (qXL me (jo s) (.sweep [] 0)) ⟨.nilp,.nils,.nili,.nilp,.nilp,.nilp,0,vb,db⟩)::RdsC db []::ViewC vb (U6 (jo s).words (jo s).writes)::R):=by
 refine t_e2 (S:=S27) rfl omQ λk hk=>?_;unfold S27;try simp only[iZ]
 refine qH H rfl λb0 h1 H1=>?_;refine qA H1 (b:=b0) (off:=0) .here rfl omQ (l:=yw s) rfl ?_;refine qY (qXT omQ H1) ?_;rintro _ h2 ⟨rfl,H2⟩;clear H H1;refine qe H2 (b:=b0) .here rfl (by show 0+8≤8;omega) rfl λh3 H3=>?_;have H3:HS g h3 (qw b0 (yw (jo s))::R):=H3;generalize jo s=S at*;clear H2;refine qG ?_
 try dsimp only
 refine qA H3 (b:=b0) (off:=0) .here rfl omQ (l:=yw S) rfl ?_;refine qQ (qu (qV H3 (b:=b0) .here rfl ?_));refine qQ (qV H3 (b:=b0) .here rfl ?_);refine qY (qW7 omQ H3) ?_;rintro _ h4 ⟨vb,rfl,H4⟩;refine qY (qGt omQ H4) ?_;rintro _ h5 ⟨db,rfl,H5⟩;refine qF (l:=xQ (qXL me S (.sweep [] 0)) ⟨.nilp,.nils,.nili,.nilp,.nilp,.nilp,0,vb,db⟩) rfl ?_;refine qH H5 rfl λa h6 H6=>?_;refine zU H4 e_1 rfl H5 e_2 rfl rfl omQ (HS.lt H3 .here) ?_;refine zU H3 .here rfl H4 e_1 rfl rfl omQ (HS.lt H3 .here) ?_;exact qW ⟨a,vb,db,rfl,H6.sub (.cons .here (.cons .here (.cons .here (.drop .refl))))⟩
theorem qV6 {me:Int} {l:List qb} {sv:AV} (hn:10≤n) (hs:0≤s.start) (hc:(yC l).2=0) (S:Rd g R 5 l.length sv (l.flatMap js)) (H:HS g h R) :
  t_w n 6 [.int .i64 me,.agg (yw s),.agg [sv]] h λr h'=>∃a,r=.ptr a 0∧HS g h' (AttC a (kC me s l)::R):=by
 refine t_e3 (S:=S6) rfl omQ λk hk=>?_;unfold S6;try simp only[iZ]
 have hle:=(NL hc).le;refine qH H rfl λb0 h1 H1=>?_;refine qH H1 (yi (wL (S.sl H))) λb1 h2 H2=>?_;refine qA H2 (b:=b0) (off:=0) e_1 rfl omQ (l:=yw s) rfl ?_;refine qY (Nb omQ hs H2) ?_;rintro _ h3 ⟨a,vb,db,rfl,H3⟩;refine qA H3 (b:=b1) (off:=0) e_3 rfl omQ (l:=[sv]) rfl ?_;refine qK (qQ (qV H3 (b:=a) .here rfl ?_));refine qK (qQ (qu (qV H3 (b:=a) .here rfl ?_)));refine qY (qWd omQ H3 S.more.more.more.more.more omQ) ?_;rintro _ h4 ⟨ib,rfl,H4⟩;refine qK (qQ ?_);refine qk H4 (b:=a) e_1 (x:=.ptr ib 0) ⟨rfl,rfl⟩ (by simp[xQ]) λh5 H5=>qW ⟨a,rfl,?_⟩;have hm:Yb l=qm l:=by unfold Yb;rw[iJ hc]
 rw[hm,hc]at H5;refine AttC.I (q:=⟨.ptr ib 0,.nils,.nili,.nilp,.nilp,.nilp,0,vb,db⟩) ?_;have H6:=JobC.PI (p:=⟨l,ZW,0,0,JQ (jo s).fuel⟩) ⟨rfl,rfl,rfl⟩ (H5.sel e_1);have H7:=InnC.noI (st:=0) (f:=Zh 0 0 0 0 0) (e:=Mg 0 0 []) (c:=none) (iv:=.nili) (fv:=.nilp) (ev:=.nilp) od rfl rfl H6;exact H7.sub (.cons e_2 (.cons e_1 (.cons e_2 (.cons e_1 (.cons .here (.drop (.drop .refl)))))))
section
variable {a:Nat} {x:jI} {q:V2}
theorem qQB (hn:2≤n) (O:xJ x) (H:HS g h (AttC a x::R)):t_w n 14 [.ptr a 0] h λr h'=>HS g h' (qL 61 2 x.v.K.length r (x.v.K.flatMap jU)::AttC a x::R):=by
 refine t_e1 (S:=S14) rfl omQ λk hk=>?_;unfold S14;try simp only[iZ]
 obtain⟨q,H1⟩:=AttC.E H;refine qK (qQ (qV H1 (b:=a) .here rfl ?_));refine qY (qQT omQ (H1.sel (P:=ViewC q.vb x.v) e_2) O.good.ok) λv h2 H2=>qW ?_;exact HS.unsel e_1 (AttC.I (q:=q) (H2.sub (.cons e_2 (.cons e_2 (.cons e_1 (.cons e_1 (.cons e_1 (.cons .here .refl))))))))
end
end
end
section
variable {g h:AH} {L R:List SP}
def Vi (p:gj) (sp:Int):Prop:=p.fin=0→sp=p.spins∧p.err=0∧p.by_= -1
def jc (p:gj) (sp:Int):List AV:=[.int .i64 p.me,.int .i64 sp,.int .i64 p.fin,.int .i64 p.err,.int .i64 p.by_]
section
variable {n b:Nat} {p:gj} {sp:Int} {ys:List AV} {l:LkM} {a:AnM}
theorem qQn (hn:1≤n) (hp:p.fin=0) (Q:Vi p sp) (hs:0≤p.spins∧p.spins≤4) (H:HS g h (qw b (jc p sp++ys)::R)) :
  t_w n 75 [.ptr b 0,.agg (jw l)] h λr h'=>∃sp',r=.bool (qc p l).1∧Vi (if(qc p l).1=true then(qc p l).2 else q9 (qc p l).2 5 0 l.2.2) sp'∧
   HS g h' (qw b (jc (if(qc p l).1=true then(qc p l).2 else q9 (qc p l).2 5 0 l.2.2) sp'++ys)::R):=by
 refine t_e2 (S:=S75) rfl omQ λk hk=>?_;unfold S75;try simp only[iZ]
 obtain⟨e1,e2,e3⟩:=Q hp;subst e1;refine qH H rfl λb0 h1 H1=>?_;refine qQ (qV H1 (b:=b0) .here (x:=.int .i64 l.2.2) rfl ?_);refine qK (qQ (qV H1 (b:=b) e_1 (x:=.int .i64 p.me) rfl ?_));unfold qc;by_cases c1:p.me<l.2.2
 ·rw[iJ c1];refine xT c1 (qX (qW ⟨p.spins,rfl,Q,H1.drop⟩))
 ·rw[iQ c1];refine xH c1 (qJ ?_);refine qK (qQ (qV H1 (b:=b) e_1 (x:=.int .i64 p.spins) rfl ?_));by_cases c2:0<p.spins
  ·have hd:decide (0≤p.spins-1)=true:=iG omQ;refine xT c2 (qX ?_);refine qK (qQ (qV H1 (b:=b) e_1 (x:=.int .i64 p.spins) rfl ?_));refine zZ omQ ?_;refine qK (qQ ?_);refine qk H1 (b:=b) e_1 ⟨rfl,rfl⟩ (by simp[jc]) λh2 H2=>?_;dsimp only;rw[iJ hd];exact qW ⟨p.spins-1,by rw[hd],λ_=>⟨rfl,e2,e3⟩,H2.sub (.cons .here (.drop .refl))⟩
  ·have hd:decide (0≤p.spins-1)=false:=iV omQ;refine xH c2 (qJ ?_);refine qG ?_
   try dsimp only
   refine qQ (qV H1 (b:=b0) .here (x:=.int .i64 l.2.2) rfl ?_);refine qK (qQ ?_);refine qk H1 (b:=b) e_1 (x:=.int .i64 5) ⟨rfl,rfl⟩ (by simp[jc]) λh2 H2=>?_;refine qK (qQ ?_);refine qk H2 (b:=b) .here ⟨rfl,rfl⟩ (by simp[jc]) λh3 H3=>?_;refine jz H1 .here rfl H2 e_1 rfl (HS.lt H1 .here) ?_;rw[iQ (by rw[hd];decide)];refine qW ⟨p.spins,by rw[hd],λh=>(by cases h),?_⟩;have H4:=H3.sub (L':=qw b _::R) (.cons .here (.drop .refl));rw[show jc (q9 { p with spins:=p.spins-1 } 5 0 l.2.2) p.spins=[.int .i64 p.me,.int .i64 p.spins,.int .i64 5,.int .i64 p.err,.int .i64 l.2.2] by rw[e2];rfl];exact H4
theorem ZU (hn:1≤n) (hp:p.fin=0) (Q:Vi p sp) (H:HS g h (qw b (jc p sp++ys)::R)) :
  t_w n 36 [.ptr b 0,.agg (zq a)] h λr h'=>∃sp',r=.bool (qS p a).1∧Vi (qS p a).2 sp'∧HS g h' (qw b (jc (qS p a).2 sp'++ys)::R):=by
 refine t_e2 (S:=S36) rfl omQ λk hk=>?_;unfold S36;try simp only[iZ]
 obtain⟨e1,e2,e3⟩:=Q hp;refine qH H rfl λb0 h1 H1=>?_;unfold qS;refine jR [] (λz h'=>z=(.ptr b0 0,())∧∃sp',Vi (if p.fin=0∧a.err≠0 then(true,q9 p 4 a.err (-1))else(decide (p.fin≠0),p)).2 sp'∧HS g h' (qw b0 (zq a)::qw b (jc (if p.fin=0∧a.err≠0 then(true,q9 p 4 a.err (-1))else(decide (p.fin≠0),p)).2 sp'++ys)::R)) (λj hj=>?_) ?_
 ·refine qQ (qV H1 (b:=b0) .here (x:=.int .i64 a.err) rfl ?_);by_cases c:a.err=0
  ·rw[iQ (λh=>h.2 c)]at hj ⊢;exact jK c (qJ (hj _ _ ⟨rfl,sp,Q,H1⟩))
  ·rw[iJ ⟨hp,c⟩]at hj ⊢;refine jX c (qX ?_);refine qG ?_
   try dsimp only
   refine qQ (qV H1 (b:=b0) .here (x:=.int .i64 a.err) rfl ?_);refine qK (qQ ?_);refine qk H1 (b:=b) e_1 (x:=.int .i64 4) ⟨rfl,rfl⟩ (by simp[jc]) λh2 H2=>?_;refine qK (qQ ?_);refine qk H2 (b:=b) .here ⟨rfl,rfl⟩ (by simp[jc]) λh3 H3=>?_;refine jz H1 .here rfl H2 e_1 rfl (HS.lt H1 .here) ?_;refine hj _ _ ⟨rfl,sp,λh=>(by cases h),?_⟩;rw[show jc (q9 p 4 a.err (-1)) sp=[.int .i64 p.me,.int .i64 sp,.int .i64 4,.int .i64 a.err,.int .i64 p.by_] by rw[e3];rfl];exact H3.sub (.cons e_1 (.cons .here .refl))
 rintro _ h4 ⟨rfl,sp',Q',H4⟩;dsimp only;refine qQ (qV H4 (b:=b0) .here (x:=.int .i64 a.err) rfl ?_);by_cases c:a.err=0
 ·rw[iQ (λh=>h.2 c)]at Q' H4 ⊢;exact jK c (qv (qW ⟨sp',by rw[iV (λh=>h hp)],Q',H4.drop⟩))
 ·rw[iJ ⟨hp,c⟩]at Q' H4 ⊢;exact jX c (qv (qW ⟨sp',rfl,Q',H4.drop⟩))
theorem NI {me spins:Int} (hn:2≤n) (H:HS g h R):t_w n 33 [.int .i64 me,.int .i64 spins] h λr h'=>r=.agg (jc (Q3 me spins) (Q3 me spins).spins)∧HS g h' R:=by
 refine t_e2 (S:=S33) rfl omQ λk hk=>?_;unfold S33;try simp only[iZ]
 refine qH H rfl λb0 h1 H1=>?_;refine qY (Gq omQ omQ) ?_;rintro _ _ ⟨rfl,rfl⟩;refine qF (l:=jc (Q3 me spins) (Q3 me spins).spins) rfl ?_;refine qe H1 (b:=b0) .here rfl (by show 0+5≤5;omega) rfl λh2 H2=>?_;refine qA H2 (b:=b0) (off:=0) .here rfl omQ (l:=jc (Q3 me spins) (Q3 me spins).spins) rfl ?_;exact qW ⟨rfl,H2.drop⟩
end
def qZI (f:wJ) (sp:Int):List AV:=jc f.p sp++[.int .i64 f.at_,.int .i64 f.stripe,.int .u64 f.stamp,.int .i64 f.state,.int .u64 f.lk.1,.bool f.lk.2.1,.int .i64 f.lk.2.2,.int .u64 f.word]
def RFetC (b:Nat) (f:wJ):SP:=.ex λsp:Int=>.all [.pur (Vi f.p sp),qw b (qZI f sp)]
section
variable {n b:Nat} {f:wJ} {a:AnM}
theorem RFetC.E (H:HS g h (RFetC b f::R)):∃sp,Vi f.p sp∧HS g h (qw b (qZI f sp)::R):=by obtain⟨sp,H⟩:=H.exE;exact⟨sp,H.allE.purE⟩
theorem RFetC.I {sp:Int} (Q:Vi f.p sp) (H:HS g h (qw b (qZI f sp)::R)):HS g h (RFetC b f::R):=HS.exI sp (HS.allI (A:=[_,_]) (HS.purI Q H))
end
end
section
variable {g h:AH} {L R:List SP}
def zO (c:jW):Int:=if c.state≤1 then(c.was.length:Int)else if c.state≤3 then 0 else c.at_
structure Qv where
  sp:Int
  ph:Int
  at_:Int
  t:Int
  z:Int×Int×Int
  sv:AV
  cv:AV
  tv:AV
  wv:AV
structure kO (c:jW) (q:Qv):Prop where
  p:c.p.fin=0→(c.state≤6→q.sp=c.p.spins)∧c.p.err=0∧c.p.by_= -1
  ph:c.p.fin=0→q.ph=c.state∧q.at_=zO c
  z:c.p.fin=0→c.state=7→q.z=(c.fin2,c.err2,c.by2)
  f7:c.state=7→c.fin2≠2
  a3:c.state≤3→c.at_=0
  t:3≤c.state→c.state≤6→q.t=c.now
  w:c.p.fin=0∨c.p.fin=2→(c.writing=true↔c.p.fin=2∨c.state=5∨c.state=6)
def zx (c:jW) (q:Qv):List AV:=jc c.p q.sp++[.int .u64 c.stamp,q.sv,q.cv,q.tv,q.wv,.int .u64 c.lk.1,.bool c.lk.2.1,.int .i64 c.lk.2.2,.int .i64 q.ph,.int .i64 q.at_,.int .u64 q.t,.int .i64 q.z.1,.int .i64 q.z.2.1,.int .i64 q.z.2.2]
abbrev zm (b:Nat) (c:jW) (q:Qv) (R:List SP):List SP :=
 qw b (zx c q)::qL 98 2 c.seen.length q.sv (c.seen.flatMap yM)::qL 61 2 c.cells.length q.cv (c.cells.flatMap jU)::qL 3 1 c.s.length q.tv (c.s.map (.int .i64))::qL 40 3 c.was.length q.wv (c.was.flatMap jw)::R
def RComC (b:Nat) (c:jW):SP:=.ex λq:Qv=>.all (.pur (kO c q∧c.p.me=c.me)::zm b c q [])
section
variable {n b:Nat} {c:jW} {q:Qv}
theorem RComC.E (H:HS g h (RComC b c::R)):∃q,kO c q∧c.p.me=c.me∧HS g h (zm b c q R):=by obtain⟨q,H⟩:=H.exE;obtain⟨r,H⟩:=H.allE.purE;exact⟨q,r.1,r.2,H⟩
theorem RComC.I (r:kO c q) (hm:c.p.me=c.me) (H:HS g h (zm b c q R)):HS g h (RComC b c::R):=HS.exI q (HS.allI (A:=.pur (kO c q∧c.p.me=c.me)::zm b c q []) (HS.purI ⟨r,hm⟩ H))
def YK (g:AH) (b:Nat) (c:jW) (R:List SP) (h':AH):Prop:=∃q,kO c q∧HS g h' (zm b c q R)
structure RGo (c:jW) (q:Qv):Prop where
  sp:q.sp=c.p.spins
  fin:c.p.fin=0
  err:c.p.err=0
  by_:c.p.by_= -1
theorem Ki (hn:1≤n) (P:RGo c q) (qt:q.t=c.now) (hw:c.writing=true) (ht:0<c.s.length) (hl:c.s.length≤1000) (H:HS g h (zm b c q R)) :
  t_w n 41 [.ptr b 0] h λ_ h'=>YK g b (xF { c with at_:=0,state:=6 }) R h':=by
 refine t_e1 (S:=S41) rfl omQ λk hk=>?_;unfold S41;try simp only[iZ]
 have e:xF { c with at_:=0,state:=6 }={ c with at_:=0,state:=6 }:=by unfold xF;exact iQ (by show¬(0:Int)=(c.s.length:Int);omega)
 rw[e];unfold zm zx jc at H;refine qK (qQ (qk H (b:=b) .here ⟨rfl,rfl⟩ osQ λh2 H2=>?_));refine qK (qQ (qk H2 (b:=b) .here ⟨rfl,rfl⟩ osQ λh3 H3=>?_));refine qK (qQ (qV H3 (b:=b) .here (x:=q.tv) rfl ?_));refine qs H3 (n:=c.s.length) (v:=q.tv) e_3 ?_;refine qq omQ (qJ ?_);exact qW ⟨{ q with ph:=6,at_:=0 },⟨λ_=>⟨λ_=>P.sp,P.err,P.by_⟩,λ_=>⟨rfl,rfl⟩,λ_ h=>(by cases h),λh=>(by cases h),λh=>absurd h (by show¬(6:Int)≤3;decide),λ_ _=>qt,λ_=>⟨λ_=>.inr (.inr rfl),λ_=>hw⟩⟩,H3⟩
theorem Yh (hn:2≤n) (P:RGo c q) (qt:q.t=c.now) (ht:0<c.s.length) (hl:c.s.length≤1000) (H:HS g h (zm b c q R)) :
  t_w n 39 [.ptr b 0] h λ_ h'=>YK g b (yE c) R h':=by
 refine t_e1 (S:=S39) rfl omQ λk hk=>?_;unfold S39;try simp only[iZ]
 unfold yE xY;have H0:=H;unfold zm zx jc at H;refine qK (qQ (qk H (b:=b) .here ⟨rfl,rfl⟩ osQ λh2 H2=>?_));refine qK (qQ (qk H2 (b:=b) .here ⟨rfl,rfl⟩ osQ λh3 H3=>?_));refine qK (qQ (qV H3 (b:=b) .here (x:=q.cv) rfl ?_));refine qs H3 (n:=c.cells.length) (v:=q.cv) e_2 ?_;by_cases c0:c.cells.length=0
 ·refine qj omQ (qX ?_);rw[iJ (by show(0:Int)=(c.cells.length:Int);omega)];refine qY (Ki (c:={ c with writing:=true,at_:=0,state:=5 }) (q:={ q with ph:=5,at_:=0 }) omQ ⟨P.sp,P.fin,P.err,P.by_⟩ qt rfl ht hl H3) λ_ h4 H4=>qW H4
 ·refine qq omQ (qJ ?_);rw[iQ (by show¬(0:Int)=(c.cells.length:Int);omega)];exact qW ⟨{ q with ph:=5,at_:=0 },⟨λ_=>⟨λ_=>P.sp,P.err,P.by_⟩,λ_=>⟨rfl,rfl⟩,λ_ h=>(by cases h),λh=>(by cases h),λh=>absurd h (by show¬(5:Int)≤3;decide),λ_ _=>qt,λ_=>⟨λ_=>.inr (.inl rfl),λ_=>rfl⟩⟩,H3⟩
theorem J9 {p1:gj} {f e y:Int} (hn:1≤n) (hm:p1.me=c.p.me) (P:c.p.fin=0∧c.p.err=0∧c.p.by_= -1) (hf:f≠0∧f≠2) (hw:c.writing=false) (hl:c.was.length≤1000) (H:HS g h (zm b { c with p:=p1 } q R)) :
  t_w n 38 [.ptr b 0,.int .i64 f,.int .i64 e,.int .i64 y] h λ_ h'=>YK g b (y3 c f e y) R h':=by
 refine t_e4 (S:=S38) rfl omQ λk hk=>?_;unfold S38;try simp only[iZ]
 unfold y3 xd;unfold zm zx jc at H;dsimp only at H;rw[hm]at H;refine qK (qQ (qQ (qk H (b:=b) .here ⟨rfl,rfl⟩ osQ λh2 H2=>?_)));refine qK (qQ (qQ (qk H2 (b:=b) .here ⟨rfl,rfl⟩ osQ λh3 H3=>?_)));refine qK (qQ (qQ (qk H3 (b:=b) .here ⟨rfl,rfl⟩ osQ λh4 H4=>?_)));clear H H2 H3;refine qK (qQ (qV H4 (b:=b) .here (x:=q.wv) rfl ?_));refine qs H4 (n:=c.was.length) (v:=q.wv) e_4 ?_;by_cases c0:c.was.length=0
 ·refine xH omQ (qJ ?_);rw[iJ (by show(0:Int)=(c.was.length:Int);omega)];exact qW ⟨q,⟨λh=>absurd h hf.1,λh=>absurd h hf.1,λh=>absurd h hf.1,λ_=>hf.2,λh=>absurd h (by show¬(7:Int)≤3;decide),λ_ h=>absurd h (by show¬(7:Int)≤6;decide),λh=>(by rcases h with h |h<;>first |exact absurd h hf.1 |exact absurd h hf.2)⟩,H4⟩
 ·refine xT omQ (qX ?_);rw[iQ (by show¬(0:Int)=(c.was.length:Int);omega)];refine qK (qQ (qk H4 (b:=b) .here ⟨rfl,rfl⟩ osQ λh5 H5=>?_));refine qK (qQ (qk H5 (b:=b) .here ⟨rfl,rfl⟩ osQ λh6 H6=>?_));refine qK (qQ (qk H6 (b:=b) .here ⟨rfl,rfl⟩ osQ λh7 H7=>?_));clear H4 H5 H6;refine qK (qQ (qQ (qk H7 (b:=b) .here ⟨rfl,rfl⟩ osQ λh8 H8=>?_)));refine qK (qQ (qQ (qk H8 (b:=b) .here ⟨rfl,rfl⟩ osQ λh9 H9=>?_)));refine qK (qQ (qQ (qk H9 (b:=b) .here ⟨rfl,rfl⟩ osQ λh10 H10=>?_)));clear H7 H8 H9;refine qK (qQ (qk H10 (b:=b) .here ⟨rfl,rfl⟩ osQ λh11 H11=>?_));refine qK (qQ (qk H11 (b:=b) .here ⟨rfl,rfl⟩ osQ λh12 H12=>?_));have hwr:(c.writing=true↔c.p.fin=2∨(7:Int)=5∨(7:Int)=6):=by
   rw[hw,P.1];simp
  refine qW ⟨{ q with ph:=7,at_:=0,z:=(f,e,y) },⟨λ_=>⟨λh=>absurd h (by show¬(7:Int)≤6;decide),P.2.1,P.2.2⟩,λ_=>⟨rfl,rfl⟩,λ_ _=>rfl,λ_=>hf.2,λh=>absurd h (by show¬(7:Int)≤3;decide),λ_ h=>absurd h (by show¬(7:Int)≤6;decide),λ_=>hwr⟩,?_⟩;show HS g h12 (zm b { c with fin2:=f,err2:=e,by2:=y,at_:=0,state:=7 } { q with ph:=7,at_:=0,z:=(f,e,y) } R);unfold zm zx jc;dsimp only;rw[P.1,P.2.1,P.2.2];exact H12
end
end
section
variable {g h:AH} {L R:List SP}
section
variable {c:jW} {a:AnM}
abbrev XS (c d:jW):Prop:=d.p.me=c.p.me∧d.me=c.me
theorem O5:XS c (xF c):=by unfold xF;split<;>exact⟨rfl,rfl⟩
theorem VX:XS c (xY c):=by unfold xY;split;exact O5 (c:={ c with at_:=0,state:=6 });exact⟨rfl,rfl⟩
theorem YR:XS c (yE c):=VX (c:={ c with writing:=true,at_:=0,state:=5 })
theorem MT:XS c (xd c):=by unfold xd;split<;>exact⟨rfl,rfl⟩
theorem Yy {f e y:Int}:XS c (y3 c f e y):=MT (c:={ c with fin2:=f,err2:=e,by2:=y,at_:=0,state:=7 })
theorem MW {p:gj} {l:LkM}:(qc p l).2.me=p.me:=by unfold qc;split<;>rfl
theorem OH {l:LkM}:XS c (yG c l):=by
 unfold yG
 split
 ·exact⟨MW,rfl⟩
 ·obtain⟨h1,h2⟩:=Yy (c:={ c with p:=(qc c.p l).2 }) (f:=5) (e:=0) (y:=l.2.2);exact⟨h1.trans MW,h2⟩
theorem KB:∀(n:Nat) {c:jW},XS c (xC c n)
 | 0,_=>YR
 |n+1,c=>by
  unfold xC
  split
  ·split
   ·exact⟨rfl,rfl⟩
   ·split
    ·exact Yy
    ·exact KB n (c:={ c with at_:=c.at_+1 })
  ·exact YR
theorem qVi (hm:c.p.me=c.me):(zQ c a).p.me=(zQ c a).me:=by
 suffices h:XS c (zQ c a) by rw[h.1,h.2,hm]
 have key:∀{d e:jW},XS d e→XS c d→XS c e:=λh1 h2=>⟨h1.1.trans h2.1,h1.2.trans h2.2⟩;have prv:∀{d:jW},XS c d→XS c (yh d):=λh=>key (KB _) (key (d:=_) (e:=_) ⟨rfl,rfl⟩ h);unfold zQ
 repeat' split
 ·refine⟨?_,rfl⟩;unfold qS
  split<;>rfl
 ·unfold yz
  repeat' split
  ·exact OH
  ·exact⟨rfl,rfl⟩
  ·exact⟨rfl,rfl⟩
  ·exact⟨rfl,rfl⟩
 ·unfold x7
  repeat' split
  ·exact Yy
  ·exact⟨rfl,rfl⟩
  ·exact⟨rfl,rfl⟩
  ·exact YR
  ·exact prv ⟨rfl,rfl⟩
 ·unfold xe
  repeat' split
  ·exact OH
  ·exact Yy
  ·exact prv (d:={ c with at_:=c.at_+1 }) ⟨rfl,rfl⟩
 ·exact VX (c:={ c with at_:=c.at_+1 })
 ·exact O5 (c:={ c with at_:=c.at_+1 })
 ·exact MT (c:={ c with at_:=c.at_+1 })
end
section
variable {n b:Nat} {c:jW} {q:Qv} {a:AnM}
theorem qJ1 {x:Int} (hn:1≤n) (hl:c.was.length≤c.s.length) (hs:c.s.length≤1000) (H:HS g h (zm b c q R)) :
  t_w n 76 [.ptr b 0,.int .i64 x] h λr h'=>r=.tup [.int .u64 ((Xe c.s c.was x).getD 0),.bool (Xe c.s c.was x).isSome]∧h'=h:=by
 refine t_e2 (S:=S76) rfl omQ λk hk=>?_;unfold S76;try simp only[iZ]
 have H1:=H;unfold zm zx jc at H1;have e0:Xe (c.s.drop 0) (c.was.drop 0) x=Xe c.s c.was x:=rfl;generalize Xe c.s c.was x=FF at e0 ⊢;refine zG (λm s h'=>∃i:Nat,s=(.int .i64 (i:Int),.int .i64 x,.ptr b 0,())∧i≤c.was.length∧m=c.was.length-i∧Xe (c.s.drop i) (c.was.drop i) x=FF∧h'=h)
  ?_ (m:=c.was.length) (by show _<1000000000;omega) ⟨0,rfl,by omega,by omega,e0,rfl⟩
 rintro m ih s h2 hih ⟨i,rfl,hi,rfl,hb,rfl⟩;dsimp only;refine qK (qQ (qV ‹_› .here rfl ?_));refine qs ‹_› e_4 ?_;by_cases hlt:i<c.was.length
 ·refine zJ omQ (qX ?_);have e1:c.s.drop i=qD c.s i::c.s.drop (i+1):=by
   rw[List.drop_eq_getElem_cons omQ]
   congr 1
   unfold qD;rw[Int.toNat_natCast,iW omQ];rfl
  have e2:c.was.drop i=jN c.was i::c.was.drop (i+1):=by
   rw[List.drop_eq_getElem_cons omQ]
   congr 1
   unfold jN;rw[Int.toNat_natCast,iW omQ];rfl
  rw[e1,e2]at hb;unfold Xe at hb;refine qK (qQ (qV ‹_› .here rfl ?_));refine jf (H.sl e_3) (x:=.int .i64 (qD c.s i)) (by rw[List.getElem?_map,ye omQ];rfl) ?_;by_cases hy:qD c.s i=x
  ·refine qj hy ?_;rw[iJ hy]at hb;refine qX (qK (qQ (qV ‹_› .here rfl ?_)));refine zH (f:=0) (x:=.int .u64 (jN c.was i).1) (H.sl e_4) omQ hlt ?_ ?_
   ·have:=congrArg (·[0]?) (XF (l:=c.was) (k:=i) hlt);simp only[List.getElem?_take_of_lt (show 0<3 by omega),List.getElem?_drop]at this;exact this
   refine qv ?_;rw[← hb];exact qW ⟨rfl,rfl⟩
  ·refine qq hy ?_;rw[iQ hy]at hb;refine qJ (qf omQ ?_);exact hih (c.was.length-(i+1)) _ _ omQ ⟨i+1,rfl,by omega,rfl,hb,rfl⟩
 ·refine jb omQ (qJ ?_);obtain rfl:i=c.was.length:=by omega
  rw[List.drop_of_length_le (Nat.le_refl c.was.length)]at hb;refine qv ?_;rw[← hb];have e:∀s:List Int,Xe s [] x=none:=λs=>by cases s<;>rfl
  rw[e];exact qW ⟨rfl,rfl⟩
theorem UJ (hn:3≤n) (O:ComL c) (hw:c.was.length=c.s.length) (P:RGo c q) (qt:q.t=c.now) (wf:c.writing=false) (qp:q.ph=4) (qa:q.at_=c.at_) (ha:c.at_≤c.seen.length) (H:HS g h (zm b c q R)) :
  t_w n 40 [.ptr b 0] h λ_ h'=>YK g b (yh c) R h':=by
 refine t_e1 (S:=S40) rfl omQ λk hk=>?_;unfold S40;try simp only[iZ]
 generalize hF:yh c=F;unfold yh at hF;have l1:=O.seen;have l2:=O.s;have l3:=O.pos;have l4:=O.lo;obtain⟨qsp,qph,qat,qtt,qz,qsv,qcv,qtv,qwv⟩:=q;dsimp only at qp qa qt;subst qp qa;refine zG (λm s h'=>s=(.ptr b 0,())∧∃a:Int,xC { c with state:=4,at_:=a } m=F∧0≤a∧a≤c.seen.length∧c.seen.length<a+m∧HS g h' (zm b c ⟨qsp,4,a,qtt,qz,qsv,qcv,qtv,qwv⟩ R))
  ?_ (m:=c.seen.length+1) (by show _<1000000000;omega) ⟨rfl,c.at_,hF,l4,ha,by omega,H⟩
 clear H hF;rintro m ih s h3 hih ⟨rfl,a,hF,ha0,ha,hm,H⟩;dsimp only;obtain⟨m,rfl⟩:∃k,m=k+1:=⟨m-1,by omega⟩;unfold xC at hF;dsimp only at hF;have H1:=H;unfold zm zx jc at H1;dsimp only at H1;refine qK (qQ (qV ‹_› .here rfl ?_));refine qK (qQ (qV ‹_› .here rfl ?_));refine qs ‹_› e_1 ?_;by_cases hlt:a<c.seen.length
 ·refine zJ hlt ?_;rw[iJ hlt]at hF;obtain⟨k,rfl⟩:∃k:Nat,a=k:=⟨a.toNat,by omega⟩;refine qX (qK (qQ (qV ‹_› .here rfl ?_)));refine qK (qQ (qV ‹_› .here rfl ?_));refine zH (H.sl e_1) omQ (by show k<c.seen.length;omega) (yd (by show k<c.seen.length;omega)).1 ?_;refine qY (qJ1 omQ omQ omQ H) ?_;rintro _ _ ⟨rfl,rfl⟩;cases ho:Xe c.s c.was (jr c.seen k).1 with
  |none=>
   rw[ho]at hF;dsimp only at hF;subst hF;refine qB rfl ?_;refine qB rfl ?_;have hwr:(c.writing=true↔c.p.fin=2∨(4:Int)=5∨(4:Int)=6):=by rw[wf,P.fin];simp
   exact qW ⟨⟨qsp,4,(k:Int),qtt,qz,qsv,qcv,qtv,qwv⟩,⟨λ_=>⟨λ_=>P.sp,P.err,P.by_⟩,λ_=>⟨rfl,rfl⟩,λ_ h=>(by cases h),λh=>(by cases h),λh=>absurd h (by show¬(4:Int)≤3;decide),λ_ _=>qt,λ_=>hwr⟩,H⟩
  |some v=>
   rw[ho]at hF;dsimp only at hF;refine qB rfl (qB rfl (jV (qJ ?_)));refine qK (qQ (qV ‹_› .here rfl ?_));refine qK (qQ (qV ‹_› .here rfl ?_));refine zH (H.sl e_1) omQ (by show k<c.seen.length;omega) (yd (by show k<c.seen.length;omega)).2 ?_;by_cases hv:v=(jr c.seen k).2
   ·refine jK hv ?_;rw[iQ (λh=>h hv)]at hF;refine qJ (qK (qQ (qV ‹_› .here rfl ?_)));refine qf omQ ?_;refine qK (qQ (qk H1 (b:=b) .here ⟨rfl,rfl⟩ osQ λh4 H4=>?_));exact hih m _ _ omQ ⟨rfl,(k:Int)+1,hF,by omega,by omega,by omega,H4⟩
   ·refine jX hv ?_;rw[iJ hv]at hF;subst hF;refine qX (qY (J9 (c:={ c with state:=4,at_:=(k:Int) }) (p1:=c.p) omQ rfl ⟨P.fin,P.err,P.by_⟩ ⟨by decide,by decide⟩ wf (by have:=O.was;show c.was.length≤1000;omega) H) λ_ h4 H4=>?_);refine qv ?_;exact qW H4
 ·refine jb hlt ?_;rw[iQ hlt]at hF;subst hF;refine qJ (qY (Yh (c:={ c with state:=4,at_:=a }) (q:=⟨qsp,4,a,qtt,qz,qsv,qcv,qtv,qwv⟩) omQ ⟨P.sp,P.fin,P.err,P.by_⟩ qt l3 (by show c.s.length≤1000;omega) H) λ_ h4 H4=>?_);refine qv ?_;exact qW H4
end
end
section
variable {g h:AH} {L R:List SP}
theorem qjH {n:Nat} {p a w:Int} (hn:2≤n) (hp:p<4611686018427387904):t_w n 74 [.int .i64 p,.int .i64 a,.int .i64 w] h λr h'=>r=.int .i64 (ofM p a w)∧h'=h:=by
 refine t_e3 (S:=S74) rfl omQ λk hk=>?_;unfold S74;try simp only[iZ]
 unfold ofM;by_cases c:p<0
 ·refine zJ c (qX ?_);rw[iJ c];exact qW ⟨rfl,rfl⟩
 ·refine jb c (qJ ?_);rw[iQ c];refine qY (Gq omQ omQ) ?_;rintro _ _ ⟨rfl,rfl⟩;refine qKo omQ ?_;have h1:p.tdiv (max ((1:Nat):Int) (min w ((16:Nat):Int)))=p/max 1 (min w 16):=Int.tdiv_eq_ediv_of_nonneg omQ;have h2:0≤p/max 1 (min w 16):=Int.ediv_nonneg omQ omQ;have h3:p/max 1 (min w 16)≤p:=Int.ediv_le_self _ omQ;rw[h1,V5 omQ];refine qY (Gq omQ omQ) ?_;rintro _ _ ⟨rfl,rfl⟩;refine Jz omQ ?_;rw[Int.tmod_eq_emod_of_nonneg h2];exact qW ⟨rfl,rfl⟩
def inS (cs:List Cl) (a w:Int):List AV:=(List.range 16).map λi:Nat=>.bool (cs.any λc=>decide (ofM c.1 a w=(i:Int)))
theorem Uh {cs:List Cl} {a w:Int} {i:Nat} (hi:i<16):(inS cs a w)[i]? =some (.bool (cs.any λc=>decide (ofM c.1 a w=(i:Int)))):=by unfold inS;rw[List.getElem?_map,List.getElem?_range hi];rfl
theorem Yx {cs:List Cl} {a w:Int}:(inS cs a w).length=16:=by simp[inS]
theorem qVu {cs:List Cl} {c:Cl} {a w:Int} {k:Nat} (hk:ofM c.1 a w=(k:Int)):inS (cs++[c]) a w=(inS cs a w).set k (.bool true):=by
 apply List.ext_getElem?;intro i;by_cases hi:i<16
 ·rw[List.getElem?_set,Uh hi,Uh hi,Yx,List.any_append];by_cases e:k=i
  ·subst e;rw[iJ rfl,iJ hi];simp[hk]
  ·rw[iQ e];have:¬ofM c.1 a w=(i:Int):=by omega
   simp[this]
 ·rw[List.getElem?_eq_none (by rw[Yx];omega),List.getElem?_eq_none (by rw[List.length_set,Yx];omega)]
def upS (cs:List Cl) (a w:Int) (i:Nat):List Int:=((List.range i).map λi:Nat=>(i:Int)).filter λs=>cs.any λc=>decide (ofM c.1 a w=s)
theorem MZ {cs:List Cl} {a w:Int} {i:Nat}:upS cs a w (i+1)=upS cs a w i++if(cs.any λc=>decide (ofM c.1 a w=(i:Int)))=true then[(i:Int)]else[]:=by
 unfold upS;rw[List.range_succ,List.map_append,List.filter_append]
 congr 1
 rw[List.map_cons,List.map_nil,List.filter_cons,List.filter_nil]
theorem qGI {cs:List Cl} {a w:Int} {i:Nat}:(upS cs a w i).length≤i:=by unfold upS;have:=List.length_filter_le (λs=>cs.any λc=>decide (ofM c.1 a w=s)) ((List.range i).map λi:Nat=>(i:Int));simpa using this
theorem My {n:Nat} {cv:AV} {cs:List Cl} {a w:Int} (hn:3≤n) (H:HS g h R) (S:Rd g R 2 cs.length cv (cs.flatMap jU)) (hl:cs.length≤1000) (hc:∀c∈cs,0≤c.1∧c.1<100000) :
  t_w n 34 [cv,.int .i64 a,.int .i64 w] h λr h'=>HS g h' (qL 3 1 (jS cs a w).length r ((jS cs a w).map (.int .i64))::R):=by
 refine t_e3 (S:=S34) rfl omQ λk hk=>?_;unfold S34;try simp only[iZ]
 refine qH H (l:=inS [] a w) rfl λb h1 H1=>?_;refine zG (λm s h'=>∃i:Nat,s=(.int .i64 (i:Int),.ptr b 0,.int .i64 w,.int .i64 a,cv,())∧i≤cs.length∧m=cs.length-i∧HS g h' (qw b (inS (cs.take i) a w)::R))
  ?_ (m:=cs.length) (by show _<1000000000;omega) ⟨0,rfl,by omega,by omega,H1⟩
 clear H H1;rintro m ih s h2 hih ⟨i,rfl,hi,rfl,H⟩;dsimp only;refine yb (S.sl H.drop) ?_;by_cases hlt:i<cs.length
 ·refine zJ omQ (qX ?_);have hci:=hc _ (List.getElem_mem hlt);have hr:=GL (n:=a) (w:=w) hci.1;refine qG ?_
  try dsimp only
  refine zH (S.sl H.drop) omQ hlt (x:=.int .i64 cs[i].1) ?_ ?_
  ·have:=congrArg (·[0]?) (gP (sz:=2) (enc:=jU) (λ_=>rfl) (iW hlt));simp only[List.getElem?_take_of_lt (show 0<2 by omega),List.getElem?_drop]at this;exact this
  refine qY (qjH omQ omQ) ?_;rintro _ _ ⟨rfl,rfl⟩;refine jh omQ (qX ?_);obtain⟨k,hk⟩:∃k:Nat,ofM cs[i].1 a w=(k:Int):=⟨(ofM cs[i].1 a w).toNat,by omega⟩;rw[hk];refine Xk omQ ?_;refine qk H (b:=b) .here (x:=.bool true) ⟨rfl,rfl⟩ (by rw[Yx];omega) λh4 H4=>?_;refine qf omQ ?_;refine hih (cs.length-(i+1)) _ _ omQ ⟨i+1,rfl,by omega,rfl,?_⟩;have e:cs.take (i+1)=cs.take i++[cs[i]]:=by rw[List.take_add_one,iW hlt];rfl
  rw[e,qVu hk];rw[show 0+k*1=k by omega]at H4;exact H4
 ·obtain rfl:i=cs.length:=by omega
  refine jb omQ (qJ ?_);rw[List.take_of_length_le (Nat.le_refl _)]at H;refine zG (λm s h'=>∃(i:Nat) (v:AV),s=(.int .i64 (i:Int),v,.ptr b 0,())∧i≤16∧m=16-i∧HS g h' (qL 3 1 (upS cs a w i).length v ((upS cs a w i).map (.int .i64))::qw b (inS cs a w)::R))
   ?_ (m:=16) od ⟨0,.nils,rfl,by omega,by omega,H.nils⟩
  clear H hih ih;rintro m ih s h3 hih ⟨i,v,rfl,hi,rfl,H⟩;dsimp only;have hu:=qGI (cs:=cs) (a:=a) (w:=w) (i:=i);by_cases h16:i<16
  ·refine zJ omQ (qX ?_);refine qG ?_
   try dsimp only
   refine Xk h16 ?_;refine qV H (b:=b) e_1 (by rw[show 0+i*1=i by omega];exact Uh h16) ?_;cases hb:cs.any λc=>decide (ofM c.1 a w=(i:Int))with
   |true=>refine qX (jY (n:=1) (l:=[.int .i64 (i:Int)]) (sz:=1) H rfl rfl rfl rfl λv2 h5 H5=>?_);refine zn (H5.sel e_1) (H5.sl .here) omQ omQ rfl λv3 h6 H6=>?_;refine qf omQ ?_;refine hih (16-(i+1)) _ _ omQ ⟨i+1,v3,rfl,by omega,rfl,?_⟩;rw[MZ,hb,iJ rfl,List.length_append,List.map_append];exact H6.sub (.cons .here (.cons e_1 (.drop .refl)))
   |false=>refine qJ (qf omQ ?_);refine hih (16-(i+1)) _ _ omQ ⟨i+1,v,rfl,by omega,rfl,?_⟩;rw[MZ,hb,iQ od,List.append_nil];exact H
  ·obtain rfl:i=16:=by omega
   refine jb omQ (qJ ?_);exact qv (qW (H.sub (.cons .here (.drop .refl))))
end
section
variable {g h:AH} {L R:List SP}
section
variable {n b:Nat} {c:jW} {q:Qv} {a:AnM}
theorem kO.go (r:kO c q) (hg:c.p.fin=0) (h6:c.state≤6):RGo c q:=⟨(r.p hg).1 h6,hg,(r.p hg).2.1,(r.p hg).2.2⟩
theorem kO.wf (r:kO c q) (hg:c.p.fin=0) (h:c.state≤4∨c.state=7):c.writing=false:=by
 cases hw:c.writing with
 |false=>rfl
 |true=>rcases(r.w (.inl hg)).1 hw with h' |h'<;>omega
theorem RGo.r {s:Int} (P:RGo c q) (wf:c.writing=false) (hs:c.state=s) (h:s≤4) (qp:q.ph=s) (qa:q.at_=zO c) (a3:s≤3→c.at_=0) (t:3≤s→q.t=c.now):kO c q :=
 ⟨λ_=>⟨λ_=>P.sp,P.err,P.by_⟩,λ_=>⟨qp.trans hs.symm,qa⟩,λ_ h7=>absurd h7 omQ,λh7=>absurd h7 omQ,λh3=>a3 omQ,λh3 _=>t omQ,λ_=>⟨λh'=>(by rw[wf]at h';cases h'),λh'=>(by
  have:=P.fin
  rcases h' with h' |h'<;>omega)⟩⟩
theorem OI {p:gj} {l:LkM}:(qc p l).2.fin=p.fin∧(qc p l).2.err=p.err∧(qc p l).2.by_=p.by_∧(qc p l).2.me=p.me:=by unfold qc;split<;>exact⟨rfl,rfl,rfl,rfl⟩
theorem Zu {l:LkM} {P0:AV→AH→Go.Ae.R} {Q0:AV→AH→Prop} (hn:2≤n) (G:RGo c q) (r:kO c q) (h6:c.state≤6) (wf:c.writing=false) (hs:0≤c.p.spins∧c.p.spins≤4) (hl:c.was.length≤1000) (H:HS g h (zm b c q R))
  (w1:∀h',YK g b { c with p:=(qc c.p l).2 } R h'→(qc c.p l).1=true→wp (P0 (.bool true) h') Q0)
  (w2:∀h' sp,HS g h' (zm b { c with p:=q9 (qc c.p l).2 5 0 l.2.2 } { q with sp:=sp } R)→(qc c.p l).1=false→wp (P0 (.bool false) h') Q0) :
  wp (jF (callT tab qx n) (.fn 75 [] []) [.ptr b 0,.agg (jw l)] h P0) Q0:=by
 have H':HS g h (qw b (jc c.p c.p.spins++(zx c q).drop 5)::(zm b c q R).tail):=by rw[show jc c.p c.p.spins=jc c.p q.sp by rw[G.sp]];exact H
 refine qY (qQn (l:=l) omQ G.fin (λ_=>⟨rfl,G.err,G.by_⟩) hs H') ?_;rintro _ h2 ⟨sp',rfl,Q',H2⟩;cases hw:(qc c.p l).1 with
 |true=>
  rw[hw,iJ rfl]at Q' H2;obtain⟨a1,a2,a3,a4⟩:=OI (p:=c.p) (l:=l);obtain⟨b1,b2,b3⟩:=Q' (a1.trans G.fin)
  exact w1 h2 ⟨{ q with sp:=sp' },⟨λ_=>⟨λ_=>b1,b2,b3⟩,λ_=>r.ph G.fin,λ_ h7=>absurd h7 (by show¬c.state=7;omega),r.f7,r.a3,r.t,λ_=>(by
   have:=r.w (.inl G.fin);rw[show(qc c.p l).2.fin=c.p.fin from a1]
   exact this)⟩,H2⟩ hw
 |false=>rw[hw,iQ od]at H2;exact w2 h2 sp' H2 hw
def J4 (c:jW) (a:AnM):jW:=if c.state=4 then xe c a.lk else yz c a
theorem M4 (hn:4≤n) (O:zK c) (hg:c.p.fin=0) (r:kO c q) (h014:c.state=0∨c.state=1∨c.state=4) (H:HS g h (zm b c q R)) :
  t_w n 37 [.ptr b 0,.agg (zq a)] h λ_ h'=>YK g b (J4 c a) R h':=by
 refine t_e2 (S:=S37) rfl omQ λk hk=>?_;unfold S37;try simp only[iZ]
 generalize hF:J4 c a=F;unfold J4 at hF;have wf:=r.wf hg omQ;have G:=r.go hg omQ;obtain⟨qp,qa⟩:=r.ph hg;have l1:=O.s;have l2:=O.was;have l3:=O.seen;have l4:=O.lo;refine qH H rfl λb0 h1 H1=>?_;clear H;have fld:∀{x:AV} {f:Nat} {K:AV→Go.Ae.R} {Q:AV→AH→Prop},(zx c q)[f]? =some x→wp (K x) Q→wp (z7 (.ptr b 0) λv=>ql v f λv=>jJ h1 v K) Q:=λe w=>qK (qQ (qV H1 (b:=b) e_1 e w));refine fld (f:=13) (x:=.int .i64 c.state) (by rw[← qp];rfl) ?_;by_cases c1:c.state=1
 ·refine qj c1 (qX ?_);have h1':zO c=(c.was.length:Int):=by unfold zO;rw[iJ omQ]
  rw[iQ omQ]at hF;unfold yz at hF;rw[iQ (λh=>by omega),iQ omQ]at hF;refine qQ (qV H1 (b:=b0) .here (x:=.bool a.done) rfl ?_);cases hd:a.done with
  |false=>rw[iQ (by rw[hd];decide)]at hF;subst hF;refine jq (qX ?_);refine qK (qQ (qk H1 (b:=b) e_1 (x:=.int .i64 0) ⟨rfl,rfl⟩ (by simp[zx,jc]) λh2 H2=>qW ?_));exact⟨{ q with ph:=0 },RGo.r (c:={ c with state:=0 }) (s:=0) ⟨G.sp,G.fin,G.err,G.by_⟩ wf rfl od rfl (qa.trans (h1'.trans (by unfold zO;rw[iJ (by show(0:Int)≤1;decide)]))) (λ_=>r.a3 omQ) (λh=>absurd h od),H2.sub (.cons .here (.drop .refl))⟩
  |true=>
   rw[iJ hd]at hF;refine jV (qJ ?_);refine fld (f:=9) (x:=q.wv) rfl ?_;refine qK (qQ (qA H1 (b:=b) (off:=10) e_1 rfl omQ (l:=jw c.lk) rfl ?_));refine jY (n:=1) (l:=jw c.lk) (sz:=3) H1 rfl rfl rfl rfl λv2 h2 H2=>?_;refine zn (H2.sel (P:=qL 40 3 c.was.length q.wv (c.was.flatMap jw)) e_6) (H2.sl .here) omQ omQ rfl λv3 h3 H3=>?_;have o3:=H3.one .here;refine qK (qQ (qk H3 (b:=b) e_3 o3 (by simp[zx,jc]) λh4 H4=>?_));refine qK (qQ (qV H4 (b:=b) .here (x:=.int .i64 (c.was.length:Int)) (by rw[← h1',← qa];rfl) ?_));refine qf omQ ?_;refine qK (qQ (qk H4 (b:=b) .here ⟨rfl,rfl⟩ (by simp[zx,jc]) λh5 H5=>?_));refine qK (qQ (qk H5 (b:=b) .here ⟨rfl,rfl⟩ (by simp[zx,jc]) λh6 H6=>?_));have hl1:(c.was++[c.lk]).length=c.was.length+1:=by simp
   have H7:HS g h6 (zm b { c with was:=c.was++[c.lk] } { q with wv:=v3,at_:=(c.was.length:Int)+((1:Nat):Int),ph:=0 } R):=by unfold zm;rw[show({ c with was:=c.was++[c.lk] }:jW).was.length=c.was.length+1 from hl1,show({ c with was:=c.was++[c.lk] }:jW).was.flatMap jw=c.was.flatMap jw++jw c.lk by show(c.was++[c.lk]).flatMap jw=_;simp];exact H6.sub (.cons .here (.cons e_3 (.cons e_3 (.cons e_3 (.cons .here (.drop (.drop .refl)))))))
   clear H1 H2 H3 H4 H5 H6 fld;refine jR [] (λ_ h'=>YK g b F R h') (λj hj=>?_) λ_ h' H'=>qv (qW H');refine qK (qQ (qV H7 (b:=b) .here (x:=.int .i64 ((c.was.length:Int)+((1:Nat):Int))) rfl ?_));refine qK (qQ (qV H7 (b:=b) .here (x:=q.tv) rfl ?_));refine qs H7 (n:=c.s.length) (v:=q.tv) e_3 ?_;unfold wO at hF;rw[show({ c with was:=c.was++[c.lk] }:jW).was.length=c.was.length+1 from hl1]at hF;by_cases c2:c.was.length+1=c.s.length
   ·refine qj omQ (qX ?_);rw[iJ (by show c.was.length+1=c.s.length;exact c2)]at hF;subst hF;refine qK (qQ (qk H7 (b:=b) .here (x:=.int .i64 2) ⟨rfl,rfl⟩ (by simp[zx,jc]) λh8 H8=>?_));refine qK (qQ (qk H8 (b:=b) .here (x:=.int .i64 0) ⟨rfl,rfl⟩ (by simp[zx,jc]) λh9 H9=>?_));refine hj _ _ ⟨{ q with wv:=v3,at_:=0,ph:=2 },RGo.r (c:={ c with was:=c.was++[c.lk],state:=2 }) (s:=2) ⟨G.sp,G.fin,G.err,G.by_⟩ wf rfl od rfl (by unfold zO;rw[iQ (by show¬(2:Int)≤1;decide),iJ (by show(2:Int)≤3;decide)]) (λ_=>r.a3 omQ) (λh=>absurd h od),H9⟩
   ·refine qq omQ (qJ ?_);rw[iQ (by show¬c.was.length+1=c.s.length;exact c2)]at hF;subst hF;refine hj _ _ ⟨{ q with wv:=v3,at_:=(c.was.length:Int)+((1:Nat):Int),ph:=0 },RGo.r (c:={ c with was:=c.was++[c.lk],state:=0 }) (s:=0) ⟨G.sp,G.fin,G.err,G.by_⟩ wf rfl od rfl (by unfold zO;rw[iJ (by show(0:Int)≤1;decide)];show _=(((c.was++[c.lk]).length:Nat):Int);rw[hl1];rfl) (λ_=>r.a3 omQ) (λh=>absurd h od),H7⟩
 refine qq c1 (qJ ?_);have c04:c.state=0∨c.state=4:=by omega
 refine qQ (qu (qV H1 (b:=b0) .here (x:=.bool a.lk.2.1) rfl ?_));cases hd:a.lk.2.1 with
 |true=>
  have hF2:yG c a.lk=F:=by
   rw[← hF];rcases c04 with h |h
   ·rw[iQ omQ];unfold yz;rw[iJ ⟨h,hd⟩]
   ·rw[iJ h];unfold xe;rw[iJ hd]
  clear hF;subst hF2;refine qX (jR [] (λ_ h'=>YK g b (yG c a.lk) R h') (λj hj=>?_) λ_ h' H'=>qv (qW H'));refine qK (qQ (qQ (qA H1 (b:=b0) (off:=1) .here rfl omQ (l:=jw a.lk) rfl ?_)));refine Zu omQ G r omQ wf (O.p hg omQ) omQ H1.drop (λh2 H2 hw=>?_) (λh2 sp H2 hw=>?_)
  ·refine jV (qJ ?_);unfold yG at hj ⊢;rw[iJ hw]at hj ⊢;exact hj _ _ H2
  ·refine jq (qX ?_);unfold yG at hj ⊢;rw[iQ (by rw[hw];decide)]at hj ⊢;refine qK (qQ (qu (qV H2 (b:=b) .here (x:=.int .i64 5) rfl ?_)));refine qK (qQ (qu (qV H2 (b:=b) .here (x:=.int .i64 0) rfl ?_)));refine qK (qQ (qu (qV H2 (b:=b) .here (x:=.int .i64 a.lk.2.2) rfl ?_)));obtain⟨a1,a2,a3,a4⟩:=OI (p:=c.p) (l:=a.lk);refine qY (J9 (c:={ c with p:=(qc c.p a.lk).2 }) (p1:=q9 (qc c.p a.lk).2 5 0 a.lk.2.2) (q:={ q with sp:=sp }) omQ rfl ⟨a1.trans G.fin,a2.trans G.err,a3.trans G.by_⟩ ⟨by decide,by decide⟩ wf (by show c.was.length≤1000;omega) H2) λ_ h4 H4=>?_;exact hj _ _ H4
 |false=>
  refine qJ (fld (f:=13) (x:=.int .i64 c.state) (by rw[← qp];rfl) ?_);by_cases c0:c.state=0
  ·refine qj c0 (qX ?_);rw[iQ omQ]at hF;unfold yz at hF;rw[iQ (λh=>by rw[hd]at h;cases h.2),iJ c0]at hF;subst hF;have h1':zO c=(c.was.length:Int):=by unfold zO;rw[iJ omQ]
   refine qQ (qA H1 (b:=b0) (off:=1) .here rfl omQ (l:=jw a.lk) rfl ?_);refine qK (qQ (qe H1 (b:=b) e_1 rfl (by simp[zx,jc]) rfl λh2 H2=>?_));have H2:HS g h2 (qw b (zx { c with lk:=a.lk } q)::qw b0 (zq a)::(zm b c q R).tail):=H2;refine qK (qQ (qk H2 (b:=b) .here (x:=.int .i64 1) ⟨rfl,rfl⟩ (by simp[zx,jc]) λh3 H3=>qW ?_));exact⟨{ q with ph:=1 },RGo.r (c:={ c with lk:=a.lk,state:=1 }) (s:=1) ⟨G.sp,G.fin,G.err,G.by_⟩ wf rfl od rfl (qa.trans (h1'.trans (by unfold zO;exact(iJ (by show(1:Int)≤1;decide)).symm))) (λ_=>r.a3 omQ) (λh=>absurd h od),H3.sub (.cons .here (.drop .refl))⟩
  ·have c4:c.state=4:=by omega
   have h4':zO c=c.at_:=by unfold zO;rw[iQ omQ,iQ omQ]
   have hat:=O.st4 hg c4;refine qq c0 (qJ ?_);rw[iJ c4]at hF;unfold xe at hF;rw[iQ (by rw[hd];decide)]at hF;refine qQ (qu (qV H1 (b:=b0) .here (x:=.int .u64 a.lk.1) rfl ?_));refine fld (f:=6) (x:=q.sv) rfl ?_;refine fld (f:=14) (x:=.int .i64 c.at_) (by rw[← h4',← qa];rfl) ?_;obtain⟨k,hk⟩:∃k:Nat,c.at_=(k:Int):=⟨c.at_.toNat,by omega⟩;have hkl:k<c.seen.length:=by omega
   rw[hk]at hF ⊢;refine zH (H1.sl (v:=q.sv) (xs:=c.seen.flatMap yM) e_2) omQ hkl (yd hkl).2 ?_;by_cases hv:a.lk.1=(jr c.seen (k:Int)).2
   ·refine jK hv (qJ ?_);rw[iQ (λh=>h hv)]at hF;refine fld (f:=14) (x:=.int .i64 (k:Int)) (by rw[← hk,← h4',← qa];rfl) ?_;refine qf omQ ?_;refine qK (qQ (qk H1 (b:=b) e_1 ⟨rfl,rfl⟩ (by simp[zx,jc]) λh2 H2=>?_));have hst:=O.st3 omQ omQ;refine qY (UJ (c:={ c with at_:=(k:Int)+1 }) (q:={ q with at_:=(k:Int)+1 }) omQ { O.toComL with lo:=(by show(0:Int)≤k+1;omega),hi:=(by show(k:Int)+1≤1000;omega) } hst.1 ⟨G.sp,G.fin,G.err,G.by_⟩ (r.t omQ omQ) wf (qp.trans c4) rfl (by show(k:Int)+1≤c.seen.length;omega) (H2.sub (.cons .here (.drop .refl)))) λ_ h3 H3=>qW ?_;rw[← hF];exact H3
   ·refine jX hv (qX ?_);rw[iJ hv]at hF;subst hF;refine qY (J9 (c:=c) (p1:=c.p) omQ rfl ⟨G.fin,G.err,G.by_⟩ ⟨by decide,by decide⟩ wf omQ H1.drop) λ_ h3 H3=>qW H3
theorem Zs (hn:5≤n) (O:zK c) (H:HS g h (RComC b c::R)):t_w n 12 [.ptr b 0,.agg (zq a)] h λ_ h'=>HS g h' (RComC b (zQ c a)::R):=by
 refine t_e2 (S:=S12) rfl omQ λk hk=>?_;unfold S12;try simp only[iZ]
 obtain⟨q,r,hm,H0⟩:=RComC.E H;clear H;have hm2:=qVi (a:=a) hm;generalize hF:zQ c a=F at*;refine wp.mono (Q:=λ_ h'=>YK g b F R h') ?_ λ_ _ ⟨q',r',H'⟩=>RComC.I r' hm2 H';refine qH H0 rfl λb0 h1 H1=>?_;clear H0;refine qK (qQ (qu (qV H1 (b:=b) e_1 (x:=.int .i64 c.p.fin) rfl ?_)));by_cases hf:c.p.fin=0
 rotate_left
 ·refine jX hf ?_;refine qG ?_
  try dsimp only
  refine qr (qE (qX (qW ?_)));have e:F=c:=by
   have e0:qS c.p a=(true,c.p):=by unfold qS;rw[iQ (λh=>hf h.1),iG hf]
   rw[← hF];unfold zQ;rw[e0];exact iJ rfl
  rw[e];exact⟨q,r,H1.drop⟩
 refine jK hf ?_;refine qG ?_
 try dsimp only
 refine qd (qK (qQ ?_));refine qA H1 (b:=b0) (off:=0) .here rfl omQ (l:=zq a) rfl ?_;have hpb:=r.p hf;refine qY (ZU (p:={ c.p with spins:=q.sp }) (sp:=q.sp) (ys:=(zx c q).drop 5) omQ hf (λ_=>⟨rfl,hpb.2⟩) (H1.sel (P:=qw b (zx c q)) e_1)) ?_;rintro _ h2 ⟨sp',rfl,Q',H2⟩;clear H1;refine qI ?_;by_cases he:a.err=0
 rotate_left
 ·have e0:qS { c.p with spins:=q.sp } a=(true,q9 { c.p with spins:=q.sp } 4 a.err (-1)):=by
   unfold qS;rw[iJ ⟨hf,he⟩]
  have e1:F={ c with p:=q9 c.p 4 a.err (-1) }:=by
   have e2:qS c.p a=(true,q9 c.p 4 a.err (-1)):=by unfold qS;rw[iJ ⟨hf,he⟩]
   rw[← hF];unfold zQ;rw[e2];exact iJ rfl
  rw[e0]at H2 ⊢;rw[e1];refine qX (qW ?_);exact⟨{ q with sp:=sp' },⟨λh=>(by cases h),λh=>(by cases h),λh=>(by cases h),r.f7,r.a3,r.t,λh=>(by rcases h with h |h<;>cases h)⟩,H2.sub (.cons .here (.drop .refl))⟩
 have e0:qS { c.p with spins:=q.sp } a=(false,{ c.p with spins:=q.sp }):=by
  unfold qS;rw[iQ (λh=>h.2 he)]
  congr 1
  exact iV (λh=>h hf)
 rw[e0]at Q' H2 ⊢;obtain⟨q1,_,_⟩:=Q' hf;have q1:sp'=q.sp:=q1;subst q1;have H2:HS g h2 (zm b c q (qw b0 (zq a)::R)):=H2.sub (.cons .here (.cons e_1 (.cons e_1 (.cons e_1 (.cons e_1 (.cons .here .refl))))));refine qJ ?_;rw[y8 hf he]at hF;obtain⟨qp,qa⟩:=r.ph hf;have hst:=O.st;have l1:=O.s;have l2:=O.was;have l3:=O.seen;have l4:=O.lo;have l5:=O.hi;have lp:=O.toComL.pos;have lc:c.cells.length≤1000:=O.toComL.cells;have ldx:∀{x:AV} {f:Nat} {g':AH} {c':jW} {q':Qv} {T:List SP} {K:AV→Go.Ae.R} {Q:AV→AH→Prop},HS g g' (qw b (zx c' q')::T)→(zx c' q')[f]? =some x→wp (K x) Q→wp (z7 (.ptr b 0) λv=>ql v f λv=>jJ g' v K) Q:=λH e w=>qK (qQ (qV H (b:=b) .here e w));refine ldx H2 (f:=13) (x:=.int .i64 c.state) (by rw[← qp];rfl) ?_;refine jR [] (λ_ h'=>YK g b F R h') (λj hj=>?_) λ_ h' H'=>qv (qW H');refine jR [] (λz g'=>g'=h2∧z=(.bool (decide (c.state=0∨c.state=1∨c.state=4)),.int .i64 c.state,.ptr b0 0,.ptr b 0,())) (λj2 hj2=>?_) ?_
 ·refine xp (λc0=>qX ?_) (λc0=>qJ ?_)
  ·exact hj2 _ _ ⟨rfl,by rw[iG (.inl c0)]⟩
  ·refine xp (λc1=>qX ?_) (λc1=>qJ ?_)
   ·exact hj2 _ _ ⟨rfl,by rw[iG (.inr (.inl c1))]⟩
   ·refine xp (λc4=>?_) (λc4=>?_)
    ·exact hj2 _ _ ⟨rfl,by rw[iG (.inr (.inr c4))]⟩
    ·exact hj2 _ _ ⟨rfl,by rw[iV (λh=>by rcases h with h |h |h;exact c0 h;exact c1 h;exact c4 h)]⟩
 rintro _ hq ⟨e3,rfl⟩;rw[e3];clear e3;dsimp only;by_cases c014:c.state=0∨c.state=1∨c.state=4
 ·rw[iG c014];refine qX (qA H2 (b:=b0) (off:=0) e_5 rfl omQ (l:=zq a) rfl ?_);refine qY (M4 (a:=a) omQ O hf r c014 (H2.sub (.cons .here (.cons .here (.cons .here (.cons .here (.cons .here (.drop .refl)))))))) λ_ h3 H3=>?_;refine hj _ _ ?_;rw[← hF];unfold J4 at H3;rcases c014 with h |h |h
  ·rw[iJ (.inl h)];rw[iQ omQ]at H3;exact H3
  ·rw[iJ (.inr h)];rw[iQ omQ]at H3;exact H3
  ·rw[iQ omQ,iQ omQ,iJ h];rw[iJ h]at H3;exact H3
 rw[iV c014];refine qJ ?_;have H2:HS g h2 (zm b c q (qw b0 (zq a)::R)):=H2;have G6:c.state≤6→RGo c q:=λh=>r.go hf h;have outR:∀{h':AH} {c':jW},YK g b c' (qw b0 (zq a)::R) h'→YK g b c' R h':=λ⟨q',r',H'⟩=>⟨q',r',H'.sub (.cons .here (.cons .here (.cons .here (.cons .here (.cons .here (.drop .refl))))))⟩;rw[iQ omQ]at hF;by_cases c2:c.state=2
 ·refine qj c2 (qX ?_);have G:=G6 omQ;have wf:=r.wf hf omQ;rw[iJ (.inl c2)]at hF;unfold x7 at hF;refine qQ (qV H2 (b:=b0) e_5 (x:=.int .u64 a.word) rfl ?_);refine qK (qQ (qk H2 (b:=b) .here ⟨rfl,rfl⟩ (by simp[zx,jc]) λh3 H3=>?_));refine qK (qQ (qk H3 (b:=b) .here ⟨rfl,rfl⟩ (by simp[zx,jc]) λh4 H4=>?_));have H4:HS g h4 (zm b c { q with t:=a.word,ph:=3 } (qw b0 (zq a)::R)):=H4;refine ldx H4 (f:=15) (x:=.int .u64 a.word) rfl ?_;by_cases cw:4611686018427387903≤a.word
  ·refine jh cw (qX ?_);rw[iJ ⟨c2,cw⟩]at hF;subst hF;refine qY (J9 (c:=c) (p1:=c.p) omQ rfl ⟨G.fin,G.err,G.by_⟩ ⟨by decide,by decide⟩ wf omQ H4) λ_ h5 H5=>?_;exact hj _ _ (outR H5)
  ·refine ju cw (qJ ?_);rw[iQ (λh=>cw h.2),iJ c2]at hF;subst hF;exact hj _ _ (outR ⟨{ q with t:=a.word,ph:=3 },RGo.r (c:={ c with now:=a.word,state:=3 }) (s:=3) ⟨G.sp,G.fin,G.err,G.by_⟩ wf rfl od rfl (qa.trans (by unfold zO;rw[iQ omQ,iJ omQ,iQ (by show¬(3:Int)≤1;decide),iJ (by show(3:Int)≤3;decide)])) (λ_=>r.a3 omQ) (λ_=>rfl),H4⟩)
 refine qq c2 (qJ ?_);by_cases c3:c.state=3
 ·refine qj c3 (qX ?_);have G:=G6 omQ;have wf:=r.wf hf omQ;have ha3:=r.a3 omQ;have hat:zO c=0:=by unfold zO;rw[iQ omQ,iJ omQ]
  have hw:=O.st3 omQ omQ;rw[iJ (.inr c3)]at hF;unfold x7 at hF;rw[iQ (λh=>by omega),iQ c2]at hF;refine qQ (qV H2 (b:=b0) e_5 (x:=.bool a.done) rfl ?_);cases hd:a.done with
  |false=>rw[hd,iJ rfl]at hF;subst hF;refine jq (qX ?_);refine qK (qQ (qk H2 (b:=b) .here (x:=.int .i64 2) ⟨rfl,rfl⟩ (by simp[zx,jc]) λh3 H3=>qv (qW (outR ?_))));exact⟨{ q with ph:=2 },RGo.r (c:={ c with state:=2 }) (s:=2) ⟨G.sp,G.fin,G.err,G.by_⟩ wf rfl od rfl (qa.trans (hat.trans (by unfold zO;rw[iQ (by show¬(2:Int)≤1;decide),iJ (by show(2:Int)≤3;decide)]))) (λ_=>ha3) (λh=>absurd h od),H3⟩
  |true=>
   rw[hd,iQ od]at hF;refine jV (qJ ?_);refine qK (qQ (qk H2 (b:=b) .here ⟨rfl,rfl⟩ (by simp[zx,jc]) λh3 H3=>?_));refine qK (qQ (qk H3 (b:=b) .here ⟨rfl,rfl⟩ (by simp[zx,jc]) λh4 H4=>?_));have H4:HS g h4 (zm b c { q with ph:=4,at_:=0 } (qw b0 (zq a)::R)):=H4;have qt:=r.t omQ omQ;refine ldx H4 (f:=15) (x:=.int .u64 c.now) (by rw[← qt];rfl) ?_;refine ldx H4 (f:=5) (x:=.int .u64 c.stamp) rfl ?_;by_cases cs:c.now=c.stamp
   ·refine qj cs (qX ?_);rw[iJ cs]at hF;subst hF;refine qY (Yh (c:=c) (q:={ q with ph:=4,at_:=0 }) omQ ⟨G.sp,G.fin,G.err,G.by_⟩ qt lp omQ H4) λ_ h5 H5=>qv (qW (outR H5))
   ·refine qq cs (qJ ?_);rw[iQ cs]at hF;subst hF;refine qY (UJ (c:=c) (q:={ q with ph:=4,at_:=0 }) omQ O.toComL hw.1 ⟨G.sp,G.fin,G.err,G.by_⟩ qt wf rfl ha3.symm hw.2 H4) λ_ h5 H5=>hj _ _ (outR H5)
 refine qq c3 (qJ ?_);rw[iQ omQ,iQ omQ]at hF;have hat:zO c=c.at_:=by unfold zO;rw[iQ omQ,iQ omQ]
 by_cases c5:c.state=5
 ·refine qj c5 (qX ?_);have G:=G6 omQ;have qt:=r.t omQ omQ;have wt:c.writing=true:=(r.w (.inl hf)).2 (.inr (.inl c5));rw[iJ c5]at hF;unfold xY at hF;refine ldx H2 (f:=14) (x:=.int .i64 c.at_) (by rw[← hat,← qa];rfl) ?_;refine qf omQ ?_;refine qK (qQ (qk H2 (b:=b) .here ⟨rfl,rfl⟩ (by simp[zx,jc]) λh3 H3=>?_));have H3:HS g h3 (zm b c { q with at_:=c.at_+1 } (qw b0 (zq a)::R)):=H3;refine ldx H3 (f:=14) (x:=.int .i64 (c.at_+1)) rfl ?_;refine ldx H3 (f:=7) (x:=q.cv) rfl ?_;refine qs H3 (n:=c.cells.length) (v:=q.cv) e_2 ?_;by_cases ce:c.at_+1=(c.cells.length:Int)
  ·refine qj ce (qX ?_);rw[iJ ce]at hF;subst hF;refine qY (Ki (c:={ c with at_:=c.at_+1 }) (q:={ q with at_:=c.at_+1 }) omQ ⟨G.sp,G.fin,G.err,G.by_⟩ qt wt lp (by show c.s.length≤1000;omega) H3) λ_ h5 H5=>hj _ _ (outR H5)
  ·refine qq ce (qJ ?_);rw[iQ ce]at hF;subst hF;refine hj _ _ (outR ⟨{ q with at_:=c.at_+1 },⟨r.p,λ_=>⟨qp,?_⟩,r.z,r.f7,λh=>absurd h (by show¬c.state≤3;omega),r.t,r.w⟩,H3⟩);unfold zO;rw[iQ (by show¬c.state≤1;omega),iQ (by show¬c.state≤3;omega)]
 refine qq c5 (qJ ?_);rw[iQ c5]at hF;by_cases c6:c.state=6
 ·refine qj c6 (qX ?_);have G:=G6 omQ;have qt:=r.t omQ omQ;have wt:c.writing=true:=(r.w (.inl hf)).2 (.inr (.inr c6));rw[iJ c6]at hF;unfold xF at hF;refine ldx H2 (f:=14) (x:=.int .i64 c.at_) (by rw[← hat,← qa];rfl) ?_;refine qf omQ ?_;refine qK (qQ (qk H2 (b:=b) .here ⟨rfl,rfl⟩ (by simp[zx,jc]) λh3 H3=>?_));have H3:HS g h3 (zm b c { q with at_:=c.at_+1 } (qw b0 (zq a)::R)):=H3;refine ldx H3 (f:=14) (x:=.int .i64 (c.at_+1)) rfl ?_;refine ldx H3 (f:=8) (x:=q.tv) rfl ?_;refine qs H3 (n:=c.s.length) (v:=q.tv) e_3 ?_;by_cases ce:c.at_+1=(c.s.length:Int)
  ·refine qj ce (qX ?_);rw[iJ ce]at hF;subst hF;refine qK (qQ (qu (qk H3 (b:=b) .here (x:=.int .i64 2) ⟨rfl,rfl⟩ (by simp[zx,jc]) λh4 H4=>?_)));refine hj _ _ (outR ⟨{ q with at_:=c.at_+1 },⟨λh=>(by cases h),λh=>(by cases h),λh=>(by cases h),r.f7,λh=>absurd h (by show¬c.state≤3;omega),r.t,λ_=>⟨λ_=>.inl rfl,λ_=>wt⟩⟩,?_⟩);have e:zx { c with at_:=c.at_+1,p:=q9 c.p 2 0 (-1) } { q with at_:=c.at_+1 }=(zx c { q with at_:=c.at_+1 }).set 2 (.int .i64 2):=by
    unfold zx jc q9;rw[G.err,G.by_];rfl
   unfold zm;rw[e];exact H4
  ·refine qq ce (qJ ?_);rw[iQ ce]at hF;subst hF;refine hj _ _ (outR ⟨{ q with at_:=c.at_+1 },⟨r.p,λ_=>⟨qp,?_⟩,r.z,r.f7,λh=>absurd h (by show¬c.state≤3;omega),r.t,r.w⟩,H3⟩);unfold zO;rw[iQ (by show¬c.state≤1;omega),iQ (by show¬c.state≤3;omega)]
 refine qq c6 (qJ ?_);rw[iQ c6]at hF;have c7:c.state=7:=by omega
 have wf:=r.wf hf omQ;have hz:=r.z hf c7;unfold xd at hF;refine ldx H2 (f:=14) (x:=.int .i64 c.at_) (by rw[← hat,← qa];rfl) ?_;refine qf omQ ?_;refine qK (qQ (qk H2 (b:=b) .here ⟨rfl,rfl⟩ (by simp[zx,jc]) λh3 H3=>?_));have H3:HS g h3 (zm b c { q with at_:=c.at_+1 } (qw b0 (zq a)::R)):=H3;refine ldx H3 (f:=14) (x:=.int .i64 (c.at_+1)) rfl ?_;refine ldx H3 (f:=9) (x:=q.wv) rfl ?_;refine qs H3 (n:=c.was.length) (v:=q.wv) e_4 ?_;by_cases ce:c.at_+1=(c.was.length:Int)
 ·refine qj ce (qX ?_);rw[iJ ce]at hF;subst hF;have hf2:=r.f7 c7;refine ldx H3 (f:=16) (x:=.int .i64 c.fin2) (by show some (AV.int .i64 q.z.1)=_;rw[hz]) ?_;refine ldx H3 (f:=17) (x:=.int .i64 c.err2) (by show some (AV.int .i64 q.z.2.1)=_;rw[hz]) ?_;refine ldx H3 (f:=18) (x:=.int .i64 c.by2) (by show some (AV.int .i64 q.z.2.2)=_;rw[hz]) ?_;refine qK (qQ (qu (qk H3 (b:=b) .here ⟨rfl,rfl⟩ (by simp[zx,jc]) λh4 H4=>?_)));refine qK (qQ (qu (qk H4 (b:=b) .here ⟨rfl,rfl⟩ (by simp[zx,jc]) λh5 H5=>?_)));refine qK (qQ (qu (qk H5 (b:=b) .here ⟨rfl,rfl⟩ (by simp[zx,jc]) λh6 H6=>?_)));have hn0:c.fin2≠0:=by have h:=O.ar;unfold jm at h;omega
  exact hj _ _ (outR ⟨{ q with at_:=c.at_+1 },⟨λh=>absurd h hn0,λh=>absurd h hn0,λh=>absurd h hn0,r.f7,λh=>absurd h (by show¬c.state≤3;omega),r.t,λh=>(by rcases h with h |h;exact absurd h hn0;exact absurd h hf2)⟩,H6⟩)
 ·refine qq ce (qJ ?_);rw[iQ ce]at hF;subst hF;refine hj _ _ (outR ⟨{ q with at_:=c.at_+1 },⟨r.p,λ_=>⟨qp,?_⟩,r.z,r.f7,λh=>absurd h (by show¬c.state≤3;omega),r.t,r.w⟩,H3⟩);unfold zO;rw[iQ (by show¬c.state≤1;omega),iQ (by show¬c.state≤3;omega)]
end
end
end Go.Proofs.YtbiljkdgeekpbabGreatDoor
