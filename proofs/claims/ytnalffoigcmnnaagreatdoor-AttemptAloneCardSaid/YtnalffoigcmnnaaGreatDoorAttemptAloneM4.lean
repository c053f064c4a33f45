/- Lemmas for 'quietus/quietuslaw26.AttemptAlone': A run on a view that knows less: it asks for a word, or does the same. Plain;An attempt alone on a memory: plain: its fetches;Programs that are drawn: they ... No condition. -/
import Derived.Test.YtnalffoigcmnnaaGreatDoorAttemptAloneM2
import Derived.Test.YtnalffoigcmnnaaGreatDoorAttemptAloneM3
import Derived.Test.YtnalffoigcmnnaaGreatDoorAttemptAloneM1
namespace Go.Proofs.YtnalffoigcmnnaaGreatDoor
open Go Go.Ae
structure zE (V W:VM):Prop where
  sz:V.sz=W.sz
  most:V.most=W.most
  lv:V.lv=W.lv
  K:∀p x,j0 p V.K=some x→j0 p W.K=some x
theorem zE.same {V W:VM} (h:zE V W) (lv:List LvM):zE { V with lv:=lv } { W with lv:=lv }:=⟨h.sz,h.most,rfl,h.K⟩
theorem zE.read {V W:VM} (h:zE V W) (p:Int):(qb V p).1.2=11∨((qb V p).1=(qb W p).1∧zE (qb V p).2 (qb W p).2):=by
 unfold qb;rw[← h.sz,← h.lv]
 split
 ·cases hl:YM p V.lv with
  |some x=>exact .inr ⟨rfl,h⟩
  |none=>
   dsimp only;cases hk:j0 p V.K with
   |some x=>rw[h.K p x hk];exact .inr ⟨rfl,h⟩
   |none=>exact .inl rfl
 ·exact .inr ⟨rfl,h⟩
theorem zE.take {V W:VM} (h:zE V W) (cs:List Cl):(jr V cs).1=(jr W cs).1∧zE (jr V cs).2 (jr W cs).2:=by
 unfold jr;rw[← h.sz,← h.lv,← h.most]
 split
 ·refine⟨rfl,?_⟩;exact⟨rfl,rfl,rfl,h.K⟩
 ·exact⟨rfl,h⟩
theorem zE.ask {V W:VM} (h:zE V W) (b:Int):(ja V b).1.2.2=11∨((ja V b).1=(ja W b).1∧zE (ja V b).2 (ja W b).2):=by
 unfold ja;rw[← h.sz]
 split
 ·exact .inr ⟨rfl,h⟩
 ·rcases h.read (b-1)with e |⟨e,h2⟩
  ·rw[e];exact .inl rfl
  ·rw[← e]
   split
   ·split
    ·exact .inr ⟨rfl,h2⟩
    ·exact .inr ⟨rfl,h2⟩
   ·exact .inr ⟨rfl,h2⟩
theorem zE.again {V W:VM} (h:zE V W) (c b:Int):(xH V c b).1.2=11∨((xH V c b).1=(xH W c b).1∧zE (xH V c b).2 (xH W c b).2):=by
 unfold xH
 split
 ·exact .inr ⟨rfl,h⟩
 ·rcases h.read b with e |⟨e,h2⟩
  ·rw[e];exact .inl rfl
  ·rw[← e];have ht:=h2.take [(c,(qb V b).1.1),(b-1,c+8)];rw[← ht.1]
   split
   ·split
    ·exact .inr ⟨rfl,ht.2⟩
    ·exact .inr ⟨rfl,ht.2⟩
   ·exact .inr ⟨rfl,h2⟩
theorem zE.grown {V W:VM} (h:zE V W) (c:Int):(xL V c).1.2=11∨((xL V c).1=(xL W c).1∧zE (xL V c).2 (xL W c).2):=by
 unfold xL;rw[← h.sz];rcases h.read 5 with e |⟨e,h2⟩
 ·rw[e];exact .inl rfl
 ·rw[← e];have ht:=h2.take [(5,(qb V 5).1.1+1+yt c),((qb V 5).1.1,c+8)];rw[← ht.1]
  split
  ·split
   ·exact .inr ⟨rfl,h2⟩
   ·split
    ·exact .inr ⟨rfl,ht.2⟩
    ·exact .inr ⟨rfl,ht.2⟩
  ·exact .inr ⟨rfl,h2⟩
theorem zE.alloc {V W:VM} (h:zE V W) (n:Int):(zH V n).1.2=11∨((zH V n).1=(zH W n).1∧zE (zH V n).2 (zH W n).2):=by
 unfold zH
 split
 ·exact .inr ⟨rfl,h⟩
 ·rcases h.read (xX n)with e |⟨e,h2⟩
  ·rw[e];exact .inl rfl
  ·rw[← e]
   split
   ·split
    ·exact h2.grown _
    ·exact h2.again _ _
   ·exact .inr ⟨rfl,h2⟩
theorem zE.free {V W:VM} (h:zE V W) (b:Int):(yu V b).1=11∨((yu V b).1=(yu W b).1∧zE (yu V b).2 (yu W b).2):=by
 unfold yu;rcases h.ask b with e |⟨e,h2⟩
 ·rw[e];exact .inl rfl
 ·rw[← e];have ht:=h2.take [(b-1,(ja V b).1.1)];rw[← ht.1]
  split
  ·split
   ·split
    ·refine .inr ⟨rfl,?_⟩;unfold freeV;rw[← ht.2.lv];exact⟨ht.2.sz,ht.2.most,rfl,ht.2.K⟩
    ·exact .inr ⟨ht.1,ht.2⟩
   ·exact .inr ⟨rfl,h2⟩
  ·exact .inr ⟨rfl,h2⟩
theorem zE.give {V W:VM} (h:zE V W) (b:Int):(zv V b).1=11∨((zv V b).1=(zv W b).1∧zE (zv V b).2 (zv W b).2):=by
 unfold zv;rcases h.ask b with e |⟨e,h2⟩
 ·rw[e];exact .inl rfl
 ·rw[← e]
  split
  ·split
   ·exact .inr ⟨rfl,h2⟩
   ·rcases h2.read (ja V b).1.1 with e2 |⟨e2,h3⟩
    ·rw[e2];exact .inl rfl
    ·rw[← e2]
     split
     ·exact .inr (h3.take _)
     ·exact .inr ⟨rfl,h3⟩
  ·exact .inr ⟨rfl,h2⟩
theorem zE.open' {V W:VM} (h:zE V W):(yg V).1=(yg W).1∧zE (yg V).2 (yg W).2:=by unfold yg;rw[← h.lv];exact⟨rfl,h.same _⟩
theorem zE.drop {V W:VM} (h:zE V W):(xY V).1=(xY W).1∧zE (xY V).2 (xY W).2:=by unfold xY;rw[← h.lv];exact⟨rfl,h.same _⟩
theorem zE.keep {V W:VM} (h:zE V W):(yh V).1=(yh W).1∧zE (yh V).2 (yh W).2:=by unfold yh;rw[← h.lv];exact⟨rfl,h.same _⟩
structure Gz (a b:SM):Prop where
  e:a.e=b.e
  nx:a.nx=b.nx
  blk:a.blk=b.blk
  s:a.s=b.s
  v:zE a.v b.v
theorem zE.begin_ {V W:VM} (h:zE V W) (op a nx:Int) (s:IM):Gz (j4 op a nx s V) (j4 op a nx s W):=by
 unfold j4;rw[← h.open'.1]
 split
 ·exact⟨rfl,rfl,rfl,rfl,h.open'.2⟩
 ·exact⟨rfl,rfl,rfl,rfl,h.open'.2⟩
theorem zE.retry {mt:List Int} {s:IM}:∀(o:List PtM) {V W:VM},zE V W→Gz (yx mt o s V) (yx mt o s W):=by
 intro o
 induction o with
 |nil=>intro V W h;exact⟨rfl,rfl,rfl,rfl,h⟩
 |cons p o ih=>
  intro V W h;unfold yx;rw[← h.drop.1]
  split
  ·split
   ·exact h.drop.2.begin_ ..
   ·exact ih h.drop.2
  ·exact⟨rfl,rfl,rfl,rfl,h.drop.2⟩
theorem zE.turn {V W:VM} (h:zE V W) (mt:List Int) (s:IM) (op:Int):Gz (gV mt s V op) (gV mt s W op):=by
 unfold gV
 split
 ·exact h.begin_ ..
 ·split
  ·exact⟨h.keep.1,rfl,rfl,rfl,h.keep.2⟩
  ·split
   ·exact⟨h.keep.1,rfl,rfl,rfl,h.keep.2⟩
   ·split
    ·exact⟨h.drop.1,rfl,rfl,rfl,h.drop.2⟩
    ·exact zE.retry _ h
theorem zE.touch {V W:VM} (h:zE V W) (s:IM) (x:qS):(jB s V x).1=11∨((jB s V x).1=(jB s W x).1∧(jB s V x).2.1=(jB s W x).2.1∧zE (jB s V x).2.2 (jB s W x).2.2):=by
 unfold jB
 split
 ·split
  ·rcases h.read (yK (qB s.regs x.2.2.1) x.2.2.2.1).1 with e |⟨e,h2⟩
   ·rw[e];exact .inl rfl
   ·rw[← e]
    split
    ·exact .inr ⟨rfl,rfl,h2⟩
    ·exact .inr ⟨rfl,rfl,h2⟩
  ·exact .inr ⟨rfl,rfl,h⟩
 ·split
  ·split
   ·have ht:=h.take [((yK (qB s.regs x.2.1) x.2.2.2.1).1,qB s.regs x.2.2.1)];exact .inr ⟨ht.1,rfl,ht.2⟩
   ·exact .inr ⟨rfl,rfl,h⟩
  ·split
   ·split
    ·exact .inr ⟨rfl,rfl,h⟩
    ·rcases h.alloc (qB s.regs x.2.2.1)with e |⟨e,h2⟩
     ·rw[e];exact .inl rfl
     ·rw[← e]
      split
      ·exact .inr ⟨rfl,rfl,h2⟩
      ·exact .inr ⟨rfl,rfl,h2⟩
   ·split
    ·exact .inr ⟨rfl,rfl,h⟩
    ·rcases h.free (qB s.regs x.2.1)with e |⟨e,h2⟩
     ·exact .inl e
     ·exact .inr ⟨e,rfl,h2⟩
theorem xr {c:Prop} [Decidable c] {a b a' b':SM} (ha:a.e=11∨Gz a a') (hb:b.e=11∨Gz b b'):(if c then a else b).e=11∨Gz (if c then a else b) (if c then a' else b'):=by
 split
 ·exact ha
 ·exact hb
theorem zE.do_ {V W:VM} (h:zE V W) (mt:List Int) (s:IM) (x:qS):(doM mt s V x).e=11∨Gz (doM mt s V x) (doM mt s W x):=by
 have sm:∀(e nx:Int) (b:Bool) (s':IM),(⟨e,nx,b,s',V⟩:SM).e=11∨Gz ⟨e,nx,b,s',V⟩ ⟨e,nx,b,s',W⟩:=λe nx b s'=>.inr ⟨rfl,rfl,rfl,rfl,h⟩;unfold doM;refine xr (sm ..) (xr (sm ..) (xr (sm ..) (xr (sm ..) (xr (sm ..) (xr (sm ..) (xr (sm ..) (xr (sm ..) (xr (sm ..) (xr (xr (sm ..) (sm ..)) (xr (sm ..) (xr ?_ (.inr (h.turn ..)))))))))))));rcases h.touch s x with e |⟨e1,e2,h2⟩
 ·exact .inl e
 ·exact .inr ⟨e1,rfl,rfl,e2,h2⟩
theorem qKf {l:List qS} (F:Fit l) (Q:Quiet l):∀(n:Nat) {s:IM} {V W:VM},GI l s V→GI l s W→frS V.lv+n<9000→zE V W→
  ((jZ l (qA l) n s V).kind=1∧∃W',zE (jZ l (qA l) n s V).v W'∧W'.K=W.K∧W'.sz=W.sz∧GI l (jZ l (qA l) n s V).s W'∧jZ l (qA l) n s W=jZ l (qA l) (jZ l (qA l) n s V).left (jZ l (qA l) n s V).s W')∨
  ((jZ l (qA l) n s V).kind≠1∧(jZ l (qA l) n s W).kind=(jZ l (qA l) n s V).kind∧(jZ l (qA l) n s W).err=(jZ l (qA l) n s V).err∧(jZ l (qA l) n s W).left=(jZ l (qA l) n s V).left∧
   (jZ l (qA l) n s W).s=(jZ l (qA l) n s V).s∧zE (jZ l (qA l) n s V).v (jZ l (qA l) n s W).v):=by
 intro n
 induction n with
 |zero=>
  intro s V W G GW hf h;right;rw[gJ,gJ]
  split
  ·exact⟨(λh=>by cases h),rfl,rfl,rfl,rfl,h⟩
  ·exact⟨(λh=>by cases h),rfl,rfl,rfl,rfl,h⟩
 |succ n ih=>
  intro s V W G GW hf h;by_cases h0:s.pc=l.length
  ·right;rw[Uj h0,Uj h0];exact⟨(λh=>by cases h),rfl,rfl,rfl,rfl,h⟩
  ·obtain⟨i,hi,hil⟩:=G.pc;have hlt:i<l.length:=by omega
   have hfW:frS W.lv=frS V.lv:=by rw[h.lv]
   have S:=QE F G hi hlt omQ (Q.at hlt).2 (Q.at hlt).1;have SW:=QE F GW hi hlt omQ (Q.at hlt).2 (Q.at hlt).1;have D:=h.do_ (qA l) s (qL l i);have eV:=vt (l:=l) (mt:=qA l) (n:=n) (s:=s) (V:=V);have eW:=vt (l:=l) (mt:=qA l) (n:=n) (s:=s) (V:=W);rw[iQ h0,hi]at eV eW;generalize doM (qA l) s V (qL l i)=A at*;generalize doM (qA l) s W (qL l i)=B at*;rcases D with e11 |D
   ·left;obtain⟨n1,n2,_⟩:=S.need e11;rw[eV,iQ (by rw[e11];decide),iJ e11];refine⟨rfl,W,⟨by rw[← h.sz];exact S.sz,by rw[← h.most];exact S.most,by rw[← h.lv];exact n2,λp x hx=>h.K p x (by rw[← S.K];exact hx)⟩,rfl,rfl,?_,?_⟩
    ·rw[n1];exact GW
    ·rw[n1]
   ·rw[eV,eW,← D.e,← D.nx,← D.blk,← D.s];by_cases h1:A.e=0
    ·rw[iJ h1,iJ h1];by_cases h2:A.blk=true
     ·right;rw[iJ h2,iJ h2];exact⟨(λh=>by cases h),rfl,rfl,rfl,rfl,D.v⟩
     ·rw[iQ h2,iQ h2];have hb:A.blk=false:=by simpa using h2
      have nW:=SW.next (by rw[← D.e];exact h1) (by rw[← D.blk];exact hb);rw[← D.nx,← D.s]at nW;have hfr:=S.fr;rcases ih (S.next h1 hb) nW omQ D.v with⟨k,W',p,hK,hz,g,e⟩ |r
      ·exact .inl ⟨k,W',p,hK.trans SW.K,hz.trans SW.sz,g,e⟩
      ·exact .inr r
    ·rw[iQ h1,iQ h1];by_cases h2:A.e=11
     ·left;obtain⟨n1,n2,_⟩:=S.need h2;obtain⟨m1,m2,_⟩:=SW.need (by rw[← D.e];exact h2);rw[iJ h2,iJ h2];refine⟨rfl,W,⟨by rw[← h.sz];exact S.sz,by rw[← h.most];exact S.most,by rw[← h.lv];exact n2,λp x hx=>h.K p x (by rw[← S.K];exact hx)⟩,rfl,rfl,?_,?_⟩
      ·show GI l A.s W;rw[n1];exact GW
      ·show _=jZ l (qA l) (n+1) A.s W;rw[n1,eW,← D.e,← D.nx,← D.blk,← D.s,iQ h1,iJ h2,n1]
     ·right;rw[iQ h2,iQ h2];exact⟨(λh=>by cases h),rfl,rfl,rfl,rfl,D.v⟩
end Go.Proofs.YtnalffoigcmnnaaGreatDoor
namespace Go.Proofs.YtnalffoigcmnnaaGreatDoor
open Go Go.Ae
inductive Stp:Nat→jG→js→jG→js→Prop
  |nil {x:jG} {M:js}:Stp 0 x M x M
  |cons {k:Nat} {x y:jG} {M N:js} {o:OpM} (hn:z8 x=some o) (r:Stp k (xB x (xW M o).1) (xW M o).2 y N):Stp (k+1) x M y N
theorem Stp.trans {a b:Nat} {x y z:jG} {M N O:js} (s:Stp a x M y N) (t:Stp b y N z O):Stp (a+b) x M z O:=by
 induction s with
 |nil=>rw[Nat.zero_add];exact t
 |cons hn _ ih=>rw[Nat.add_right_comm];exact .cons hn (ih t)
theorem Stp.one {x y:jG} {M N:js} {o:OpM} (hn:z8 x=some o) (e:xW M o=(⟨0,lk0,false,0⟩,N)) (h:xB x ⟨0,lk0,false,0⟩=y):Stp 1 x M y N:=by refine .cons hn ?_;rw[e];dsimp only;rw[h];exact .nil
theorem Stp.step {x y:jG} {M N:js} {o:OpM} {a:AnM} (hn:z8 x=some o) (e:xW M o=(a,N)) (h:xB x a=y):Stp 1 x M y N:=by refine .cons hn ?_;rw[e];dsimp only;rw[h];exact .nil
def bump (M:js) (k:Int):js:={ M with cnt:=M.cnt+k }
theorem wT (M:js) (a b:Int):bump (bump M a) b=bump M (a+b):=by unfold bump;dsimp only;rw[Int.add_assoc]
structure yC (S:yv) (M:js) (me:Int):Prop where
  w:(M.w.length:Int)=S.words
  l:(M.l.length:Int)=S.stripes
  s:(M.s.length:Int)=S.threads
  me:0≤me∧me<S.threads
  lk:∀i:Nat,i<M.l.length→∃v:Int,jh M.l i=(v,false,0)∧0≤v∧v≤M.n
  n:0≤M.n∧M.n<4611686018427387902
  wd:∀z∈M.w,0≤z∧z<18446744073709551616
section
variable {S:yv} {M:js} {me:Int}
theorem yC.bump (C:yC S M me) (k:Int):yC S (bump M k) me:=⟨C.w,C.l,C.s,C.me,C.lk,C.n,C.wd⟩
theorem Gb (C:yC S M me) {s:Int} (h:0≤s∧s<S.stripes):xW M (op0 3 s 0)=(⟨0,jh M.l s,false,0⟩,bump M 1):=by
 have hl:=C.l;have e:kT M (op0 3 s 0)=(⟨0,jh M.l s,false,0⟩,M):=by unfold kT;rw[iQ (by show¬(s<0∨(M.l.length:Int)≤s);omega),iJ (by rfl)];rfl
 show(if(kT M (op0 3 s 0)).1.err=0 then((kT M (op0 3 s 0)).1,{ (kT M (op0 3 s 0)).2 with cnt:=(kT M (op0 3 s 0)).2.cnt+1 })else kT M (op0 3 s 0))=_;rw[e];rfl
theorem qzN (C:yC S M me) {p:Int} (h:1≤p∧p<S.words):xW M (op0 1 p 0)=(⟨qB M.w p,lk0,false,0⟩,bump M 1):=by
 have hl:=C.w;have e:J5 M (op0 1 p 0)=(⟨qB M.w p,lk0,false,0⟩,M):=by unfold J5;rw[iQ (by show¬(p<1∨(M.w.length:Int)≤p);omega),iJ (by rfl)];rfl
 show(if(J5 M (op0 1 p 0)).1.err=0 then((J5 M (op0 1 p 0)).1,{ (J5 M (op0 1 p 0)).2 with cnt:=(J5 M (op0 1 p 0)).2.cnt+1 })else J5 M (op0 1 p 0))=_;rw[e];rfl
theorem Mm (M:js):xW M (op0 6 0 0)=(⟨M.n,lk0,false,0⟩,bump M 1):=rfl
theorem KJ (C:yC S M me) {w:Int}:xW M (op0 9 me w)=(an0,{ M with s:=M.s.set me.toNat w,cnt:=M.cnt+1 }):=by
 have hl:=C.s;have hm:=C.me;have e:Ys M (op0 9 me w)=(an0,{ M with s:=M.s.set me.toNat w }):=by unfold Ys;rw[iQ (by show¬(me<0∨(M.s.length:Int)≤me);omega),iQ (by show¬(9:Int)=8;decide)];rfl
 show(if(Ys M (op0 9 me w)).1.err=0 then((Ys M (op0 9 me w)).1,{ (Ys M (op0 9 me w)).2 with cnt:=(Ys M (op0 9 me w)).2.cnt+1 })else Ys M (op0 9 me w))=_;rw[e];rfl
theorem yC.at (C:yC S M me) {s:Int} (h:0≤s∧s<S.stripes):∃v:Int,jh M.l s=(v,false,0)∧0≤v∧v≤M.n:=by have hl:=C.l;obtain⟨k,rfl⟩:∃k:Nat,s=k:=⟨s.toNat,by omega⟩;exact C.lk k omQ
theorem qQA {S:yv} (O:we S) {p:Int} (hp:0≤p):0≤ofM p S.stripes S.wide∧ofM p S.stripes S.wide<S.stripes:=by have h:=O.stripes;unfold ofM;rw[iQ omQ,show max 1 (min S.stripes 16)=S.stripes by omega];exact⟨Int.emod_nonneg _ omQ,Int.emod_lt_of_pos _ omQ⟩
structure wx (S:yv) (M:js) (r:List xG):Prop where
  at_:∀y∈r,0≤y.1∧y.1<S.stripes∧y.2=(jh M.l y.1).1
  un:(r.map (·.1)).Nodup
theorem wx.len {r:List xG} (O:we S) (R:wx S M r):r.length≤16:=by
 have:=Xp 16 (r.map (·.1)) R.un (λx hx=>by
  obtain⟨y,hy,rfl⟩:=List.mem_map.1 hx;have h1:=R.at_ y hy;have h2:=O.stripes
  omega)
 simpa using this
theorem wx.add {r:List xG} (O:we S) (C:yC S M me) (R:wx S M r) {s:Int} (hs:0≤s∧s<S.stripes):(wk r (s,(jh M.l s).1)).1=0∧wx S M (wk r (s,(jh M.l s).1)).2:=by
 obtain⟨v,e,h0,h1⟩:=C.at hs;have hst:=O.stripes;have hn:=C.n;unfold wk;rw[iQ (by rw[e];dsimp only;omega)];cases hf:r.find? λy=>decide (y.1=(s,(jh M.l s).1).1)with
 |some y=>
  dsimp only;have hy:=List.find?_some hf;have hm:=List.mem_of_find?_eq_some hf;have h2:=R.at_ y hm;have hys:y.1=s:=by simpa using hy
  rw[iQ (by rw[h2.2.2,hys];exact λh=>h rfl)];exact⟨rfl,R⟩
 |none=>
  dsimp only;have hno:∀y∈r,y.1≠s:=λy hy h=>by
   have:=List.find?_eq_none.1 hf y hy;simp[h]at this
  have hnd:(s::r.map (·.1)).Nodup:=List.nodup_cons.2 ⟨λh=>by obtain⟨y,hy,h2⟩:=List.mem_map.1 h;exact hno y hy h2,R.un⟩
  have hl:=Xp 16 _ hnd (λx hx=>by
   rcases List.mem_cons.1 hx with rfl |hx
   ·omega
   ·obtain⟨y,hy,rfl⟩:=List.mem_map.1 hx;have h1:=R.at_ y hy
    omega)
  simp at hl;rw[iQ omQ];refine⟨rfl,λy hy=>?_,?_⟩
  ·rcases List.mem_append.1 hy with hy |hy
   ·exact R.at_ y hy
   ·rw[List.mem_singleton]at hy;subst hy;exact⟨hs.1,hs.2,rfl⟩
  ·show((r++[(s,(jh M.l s).1)]).map (·.1)).Nodup;rw[List.map_append,List.nodup_append];refine⟨R.un,List.nodup_cons.2 ⟨λh=>(by cases h),List.nodup_nil⟩,λa ha b hb=>?_⟩;obtain⟨y,hy,rfl⟩:=List.mem_map.1 ha;rw[List.map_singleton,List.mem_singleton]at hb;subst hb;exact hno y hy
theorem XA {x:jG} (h:(zi x).1=0) (hw:zm x=false):xd x=x:=by unfold xd;rw[iJ h];unfold xV;rw[hw];rfl
theorem wQ {x:jG} (h:x.c=none):zm x=false:=by unfold zm;rw[h];exact Bool.and_false _
theorem qG6 {x:jG} (h:x.c=none):zm (xO x)=false:=by
 have hc:(yR x).2.c=none:=by
  unfold yR
  split<;>exact h
 unfold xO ge;generalize(yR x).2=y at*
 split
 ·exact wQ hc
 ·split
  ·exact wQ hc
  ·split
   ·exact wQ hc
   ·split
    ·exact wQ hc
    ·unfold zm;dsimp only;have e:∀(me sp st:Int) (r:List xG) (cs:List Cl) (a w:Int),gC (Qi me sp st r cs a w)=false∧(Qi me sp st r cs a w).p.fin=0:=λ_ _ _ _ _ _ _=>⟨rfl,rfl⟩;rw[(e ..).1,(e ..).2];rfl
theorem XN {x:jG} {a:AnM} (h3:x.state=3) (ha:a.err=0):xB x a=xd { x with f:=xD x.f a }:=by unfold xB;rw[iQ omQ,iQ (by rw[ha];exact λh=>h rfl),iQ omQ,iQ omQ,iQ omQ,iQ omQ,iJ h3]
theorem qkl (O:we S) (C:yC S M me) {x:jG} (h3:x.state=3) (hc:x.c=none) {p:Int} (hf:x.f=kY x.me p (ofM p S.stripes S.wide) S.spins x.stamp) (hs:x.stamp=M.n) (hp:1≤p∧p<S.words) (hR:wx S M x.r) (hn:x.v.need=p) :
  ∃F:ki,Stp 3 x M (xO { x with f:=F,r:=(wk x.r (ofM p S.stripes S.wide,(jh M.l (ofM p S.stripes S.wide)).1)).2,v:=(zP x.v p (qB M.w p)).2 }) (bump M 3):=by
 have hof:=qQA O (p:=p) omQ;generalize hst:ofM p S.stripes S.wide=st at*;obtain⟨v,e,h0,h1⟩:=C.at hof;have ha:=(wx.add O C hR hof).1;rw[e]at ha ⊢;have n1:z8 x=some (op0 3 st 0):=by unfold z8;rw[iQ omQ,iQ omQ,iQ omQ,iQ omQ,iQ omQ,iJ h3,hf];rfl
 have s1:Stp 1 x M { x with f:={ kY x.me p st S.spins x.stamp with lk:=(v,false,0),state:=1 } } (bump M 1):=by
  refine .step n1 (Gb C hof) ?_;rw[e,XN h3 rfl,hf];have ef:xD (kY x.me p st S.spins x.stamp) ⟨0,(v,false,0),false,0⟩={ kY x.me p st S.spins x.stamp with lk:=(v,false,0),state:=1 }:=by show(if x.stamp<v then _ else _)=_;rw[iQ omQ]
  rw[ef];refine XA ?_ (wQ hc);unfold zi;rw[iJ h3];rfl
 have s2:Stp 1 { x with f:={ kY x.me p st S.spins x.stamp with lk:=(v,false,0),state:=1 } } (bump M 1) { x with f:={ kY x.me p st S.spins x.stamp with lk:=(v,false,0),state:=2,word:=qB M.w p } } (bump (bump M 1) 1):=by
  refine .step (o:=op0 1 p 0) ?_ (qzN (C.bump 1) hp) ?_
  ·unfold z8;rw[iQ (by show¬x.state=0;omega),iQ (by show¬x.state=1;omega),iQ (by show¬x.state=2;omega),iQ (by show¬x.state=7;omega),iQ (by show¬x.state=8;omega),iJ (by exact h3)];rfl
  ·rw[XN (by exact h3) rfl];refine XA ?_ (wQ hc);unfold zi;rw[iJ (by exact h3)];rfl
 have s3:Stp 1 { x with f:={ kY x.me p st S.spins x.stamp with lk:=(v,false,0),state:=2,word:=qB M.w p } } (bump (bump M 1) 1)
   (xO { x with f:={ kY x.me p st S.spins x.stamp with lk:=(v,false,0),state:=2,word:=qB M.w p,p:=jn (kR x.me S.spins) 2 0 (-1) },r:=(wk x.r (st,v)).2,v:=(zP x.v p (qB M.w p)).2 }) (bump (bump (bump M 1) 1) 1):=by
  refine .step (o:=op0 3 st 0) ?_ (Gb ((C.bump 1).bump 1) hof) ?_
  ·unfold z8;rw[iQ (by show¬x.state=0;omega),iQ (by show¬x.state=1;omega),iQ (by show¬x.state=2;omega),iQ (by show¬x.state=7;omega),iQ (by show¬x.state=8;omega),iJ (by exact h3)];rfl
  ·rw[XN (by exact h3) rfl];have ef:xD { kY x.me p st S.spins x.stamp with lk:=(v,false,0),state:=2,word:=qB M.w p } ⟨0,jh (bump (bump M 1) 1).l st,false,0⟩={ kY x.me p st S.spins x.stamp with lk:=(v,false,0),state:=2,word:=qB M.w p,p:=jn (kR x.me S.spins) 2 0 (-1) }:=by
    show xD _ ⟨0,jh M.l st,false,0⟩=_;rw[e];unfold xD;rw[iQ (by exact λh=>by cases h),iQ (by show¬(2:Int)=1;decide),iJ ⟨rfl,rfl⟩];rfl
   dsimp only;rw[ef];unfold xd;have hfin:(zi { x with f:={ kY x.me p st S.spins x.stamp with lk:=(v,false,0),state:=2,word:=qB M.w p,p:=jn (kR x.me S.spins) 2 0 (-1) } }).1=2:=by unfold zi;rw[iJ (by exact h3)];rfl
   rw[hfin,iQ od,iQ od];have hend:xp { x with f:={ kY x.me p st S.spins x.stamp with lk:=(v,false,0),state:=2,word:=qB M.w p,p:=jn (kR x.me S.spins) 2 0 (-1) } }=xO { x with f:={ kY x.me p st S.spins x.stamp with lk:=(v,false,0),state:=2,word:=qB M.w p,p:=jn (kR x.me S.spins) 2 0 (-1) },r:=(wk x.r (st,v)).2,v:=(zP x.v p (qB M.w p)).2 }:=by unfold xp;rw[iJ (by exact h3)];unfold yH;rw[iQ (by show¬(2:Int)=6;decide)];have es:ye { kY x.me p st S.spins x.stamp with lk:=(v,false,0),state:=2,word:=qB M.w p,p:=jn (kR x.me S.spins) 2 0 (-1) }=(st,v):=rfl;have ew:yX { kY x.me p st S.spins x.stamp with lk:=(v,false,0),state:=2,word:=qB M.w p,p:=jn (kR x.me S.spins) 2 0 (-1) }=qB M.w p:=rfl;dsimp only;rw[es,ew,iJ ha,hn]
   rw[hend];unfold xV;rw[qG6 (by exact hc)];rfl
 have:=(s1.trans s2).trans s3;rw[wT,wT]at this;exact⟨_,this⟩
end
end Go.Proofs.YtnalffoigcmnnaaGreatDoor
namespace Go.Proofs.YtnalffoigcmnnaaGreatDoor
open Go Go.Ae
theorem JN {l t:List qS} {j:Nat} (h:j<l.length):qL (l++t) (j:Int)=qL l (j:Int):=by unfold qL;rw[Int.toNat_natCast,List.getElem?_append_left h]
theorem Qk {l t:List qS} {k:Nat} {x:qS} (h:t[k]? =some x):qL (l++t) ((l.length+k:Nat):Int)=x:=by unfold qL;rw[Int.toNat_natCast,List.getElem?_append_right omQ,show l.length+k-l.length=k by omega,h];rfl
theorem gD {l t:List qS}:∀i,i≤l.length→qg (l++t) i=qg l i:=by
 intro i
 induction i with
 |zero=>intro _;rfl
 |succ i ih=>intro h;rw[jJ,jJ,ih omQ,JN omQ]
theorem qYp {l t:List qS} {st:List Int} (h:StOk l.length st):opM (l++t) st=opM l st:=by
 unfold opM;by_cases h0:st=[]
 ·rw[iJ h0,iJ h0]
 ·rw[iQ h0,iQ h0];have hb:=h.inmost h0;obtain⟨p,hp⟩:∃p:Nat,qm st=p:=⟨(qm st).toNat,by omega⟩;rw[hp,JN omQ]
theorem Vq {l t:List qS} {st:List Int} {x:qS} (h:StOk l.length st):zk (l++t) st x=zk l st x:=by unfold zk;rw[qYp h]
theorem StOk.mono {i j:Nat} {st:List Int} (h:StOk i st) (hij:i≤j):StOk j st:=λy hy=>by have:=h y hy;omega
def qVo (l:List qS) (calm:Bool) (j:Nat) (x:qS):Prop:=(x.1=12∨x.1=13)→∃c:Nat,x.2.2.2.1=c∧c≤l.length∧qg l c=qg l j∧(calm=true→j<c)
structure YQ (calm:Bool) (x:qS):Prop where
  may:vJ x=true
  no:x.1≠23
  n:0≤x.2.2.2.2∧x.2.2.2.2<18446744073709551616
  cal:calm=true→x.1≠20∧x.1≠22∧x.1≠12
structure Bld (calm:Bool) (l:List qS) (st:List Int):Prop where
  ok:∀x∈l,YQ calm x
  wr:∀j,j<l.length→zk l (qg l j) (qL l j)=0
  top:qg l l.length=st
  jp:∀j,j<l.length→qVo l calm j (qL l j)
  five:st.length≤5
def jC (l:List qS) (st:List Int):List Int:=st.map λp=>(qL l p).1
theorem Jh {l t:List qS} {st:List Int} (h:StOk l.length st):jC (l++t) st=jC l st:=by unfold jC;refine List.map_congr_left λp hp=>?_;have:=h p hp;obtain⟨q,rfl⟩:∃q:Nat,p=q:=⟨p.toNat,by omega⟩;rw[JN omQ]
theorem Bld.stok {calm:Bool} {l:List qS} {st:List Int} (B:Bld calm l st):StOk l.length st:=by rw[← B.top];exact(GG l.length).1
theorem Bld.nil (calm:Bool):Bld calm [] []:=⟨λx hx=>(by cases hx),λj hj=>(by simp at hj),rfl,λj hj=>(by simp at hj),osQ⟩
theorem Bld.ext {calm:Bool} {l t:List qS} {st:List Int} (B:Bld calm l st) (h1:∀x∈t,YQ calm x) (h2:∀k,k<t.length→zk (l++t) (qg (l++t) (l.length+k)) (qL (l++t) ((l.length+k:Nat):Int))=0)
  (h3:∀k,k<t.length→qVo (l++t) calm (l.length+k) (qL (l++t) ((l.length+k:Nat):Int))) (h5:(qg (l++t) (l++t).length).length≤5):Bld calm (l++t) (qg (l++t) (l++t).length):=by
 refine⟨?_,?_,rfl,?_,h5⟩
 ·intro x hx;rcases List.mem_append.1 hx with hx |hx
  ·exact B.ok x hx
  ·exact h1 x hx
 ·intro j hj;by_cases hjl:j<l.length
  ·rw[gD j omQ,JN hjl,Vq ((GG j).1.mono omQ)];exact B.wr j hjl
  ·have:=h2 (j-l.length) (by simp at hj;omega)
   rwa [show l.length+(j-l.length)=j by omega]at this
 ·intro j hj;by_cases hjl:j<l.length
  ·intro ho;rw[JN hjl]at ho ⊢;obtain⟨c,c1,c2,c3,c4⟩:=B.jp j hjl ho;exact⟨c,c1,by simp;omega,by rw[gD c c2,gD j omQ];exact c3,c4⟩
  ·have:=h3 (j-l.length) (by simp at hj;omega)
   rwa [show l.length+(j-l.length)=j by omega]at this
theorem qZp {l:List qS} {x:qS}:qg (l++[x]) (l.length+1)=qt (qg l l.length) l.length x.1:=by have e:=Qk (l:=l) (t:=[x]) (k:=0) (x:=x) rfl;rw[Nat.add_zero]at e;rw[jJ,gD _ (Nat.le_refl _),e]
theorem Bld.app {calm:Bool} {l:List qS} {st:List Int} (B:Bld calm l st) {x:qS} (h1:YQ calm x) (h2:zk l st x=0) (h3:x.1≠12∧x.1≠13) (h5:(qt st l.length x.1).length≤5):Bld calm (l++[x]) (qt st l.length x.1):=by
 have e:=Qk (l:=l) (t:=[x]) (k:=0) (x:=x) rfl;rw[Nat.add_zero]at e;have hs:qg (l++[x]) (l++[x]).length=qt st l.length x.1:=by rw[List.length_append,List.length_singleton,qZp,B.top]
 rw[← hs]at h5 ⊢;refine B.ext (by intro y hy;rw[List.mem_singleton]at hy;subst hy;exact h1) ?_ ?_ h5
 ·intro k hk;obtain rfl:k=0:=by simpa using hk
  rw[Nat.add_zero,e,gD _ (Nat.le_refl _),B.top,Vq B.stok];exact h2
 ·intro k hk;obtain rfl:k=0:=by simpa using hk
  rw[Nat.add_zero,e];intro ho;omega
def Flat (op:Int):Prop:=op≠14∧op≠15∧op≠16∧op≠17∧op≠18∧op≠19
theorem Flat.behind {op:Int} (h:Flat op) (st:List Int) (i:Int):qt st i op=st:=by obtain⟨h1,h2,h3,h4,h5,h6⟩:=h;unfold qt;rw[iQ (by unfold zR;simp;omega),iQ (by unfold jO;rw[iQ h2,iQ h5,iQ h6];omega)]
theorem Flat.wrong {x:qS} (h:Flat x.1) (hm:vJ x=true) (l:List qS) (st:List Int):zk l st x=0:=by
 obtain⟨h1,h2,h3,h4,h5,h6⟩:=h;unfold zk
 rw[iQ (by rw[hm];simp),iQ (λhh=>by have:=hh.1;unfold jO at this;rw[iQ h2,iQ h5,iQ h6]at this;omega),iQ (λhh=>h3 hh.1),
  iQ (λhh=>by have:=hh.1;unfold zR at this;simp at this;omega)]
theorem Bld.flat {calm:Bool} {l:List qS} {st:List Int} (B:Bld calm l st) {x:qS} (h1:YQ calm x) (hf:Flat x.1) (h3:x.1≠12∧x.1≠13):Bld calm (l++[x]) st:=by
 have:=B.app h1 (hf.wrong h1.may l st) h3 (by rw[hf.behind];exact B.five)
 rwa [hf.behind]at this
theorem Bld.two {calm:Bool} {l:List qS} {st:List Int} (B:Bld calm l st) {x y:qS} (hx:YQ calm x) (hy:YQ calm y) (fx:Flat x.1) (fy:Flat y.1)
  (jx:(x.1=12∨x.1=13)→x.2.2.2.1=((l.length+2:Nat):Int)) (jy:(y.1=12∨y.1=13)→y.2.2.2.1=(l.length:Int)∧calm=false):Bld calm (l++[x,y]) st:=by
 have e0:=Qk (l:=l) (t:=[x,y]) (k:=0) (x:=x) rfl;have e1:=Qk (l:=l) (t:=[x,y]) (k:=1) (x:=y) rfl;rw[Nat.add_zero]at e0;have s0:qg (l++[x,y]) l.length=st:=by rw[gD _ (Nat.le_refl _),B.top]
 have s1:qg (l++[x,y]) (l.length+1)=st:=by rw[jJ,s0,e0,fx.behind]
 have s2:qg (l++[x,y]) (l.length+2)=st:=by rw[show l.length+2=l.length+1+1 from rfl,jJ,s1,e1,fy.behind]
 have hs:qg (l++[x,y]) (l++[x,y]).length=st:=by rw[List.length_append];exact s2
 have:=B.ext (t:=[x,y]) (by intro z hz;simp at hz;rcases hz with rfl |rfl;exact hx;exact hy) (λk hk=>by
  have hk:k=0∨k=1:=by simp at hk;omega
  rcases hk with rfl |rfl
  ·rw[Nat.add_zero,e0];exact fx.wrong hx.may _ _
  ·rw[e1];exact fy.wrong hy.may _ _) (λk hk=>by
  have hk:k=0∨k=1:=by simp at hk;omega
  rcases hk with rfl |rfl
  ·rw[Nat.add_zero,e0];intro ho;exact⟨l.length+2,jx ho,by simp,by rw[s2,s0],λ_=>by omega⟩
  ·rw[e1];intro ho;obtain⟨a,b⟩:=jy ho
   exact⟨l.length,a,by simp,by rw[s0,s1],λh=>by rw[b]at h;cases h⟩) (by rw[hs];exact B.five)
 rwa [hs]at this
abbrev one (op:Int):qS:=(op,0,0,0,0)
theorem Zt (calm:Bool) {op:Int} (h:op=14∨op=15∨op=16∨op=17∨op=18∨op=19):YQ calm (one op):=by refine⟨?_,by dsimp only;omega,by dsimp only;omega,λ_=>by dsimp only;omega⟩;rcases h with rfl |rfl |rfl |rfl |rfl |rfl<;>decide
theorem Bld.begin {calm:Bool} {l:List qS} {st:List Int} (B:Bld calm l st) {op:Int} (h:op=14∨op=17) (h5:st.length<5):Bld calm (l++[one op]) (st++[(l.length:Int)])∧jC (l++[one op]) (st++[(l.length:Int)])=jC l st++[op]:=by
 have hb:qt st l.length op=st++[(l.length:Int)]:=by unfold qt;rw[iJ (.inl (by unfold zR;exact iG h)),iQ (by rcases h with rfl |rfl<;>decide)]
 have hw:zk l st (one op)=0:=by unfold zk;rw[iQ (by rcases h with rfl |rfl<;>decide),iQ (λhh=>by have:=hh.1;rcases h with rfl |rfl<;>exact absurd this od),iQ (λhh=>by have:=hh.1;dsimp only at this;omega),iQ omQ]
 have:=B.app (x:=one op) (Zt calm omQ) hw (by dsimp only;omega) (by rw[hb];simp;omega);rw[hb]at this;refine⟨this,?_⟩;unfold jC;rw[List.map_append]
 congr 1
 ·exact Jh B.stok
 ·have e:=Qk (l:=l) (t:=[one op]) (k:=0) (x:=one op) rfl;rw[Nat.add_zero]at e;rw[List.map_singleton,e]
theorem Bld.undo {calm:Bool} {l:List qS} {st:List Int} (B:Bld calm l st) (h:opM l st=14):Bld calm (l++[one 16]) st:=by
 have hb:qt st l.length 16=st:=by unfold qt;rw[iQ od,iQ od]
 have hw:zk l st (one 16)=0:=by unfold zk;rw[iQ od,iQ (λhh=>absurd hh.1 od),iQ (λhh=>hh.2 h),iQ (λhh=>absurd hh.1 od)]
 have:=B.app (x:=one 16) (Zt calm omQ) hw od (by rw[hb];exact B.five)
 rwa [hb]at this
def yo (o:Int):Int:=if o=14 then 15 else if o=17 then 18 else 19
def kr (l:List qS) (st:List Int):List qS:=l++[one (yo (opM l st))]
def J8 (l:List qS) (st:List Int):List Int:=if opM l st=17 then st.dropLast++[(l.length:Int)]else st.dropLast
theorem Bld.shut {calm:Bool} {l:List qS} {st:List Int} (B:Bld calm l st) (hn:st≠[]) (ho:opM l st=14∨opM l st=17∨opM l st=18):Bld calm (kr l st) (J8 l st)∧
  jC (kr l st) (J8 l st)=(jC l st).dropLast++(if opM l st=17 then[18]else[]):=by
 have hs:jO (yo (opM l st))=opM l st:=by rcases ho with h |h |h<;>rw[h]<;>decide
 have hso:yo (opM l st)=15∨yo (opM l st)=18∨yo (opM l st)=19:=by
  unfold yo
  repeat' split
  all_goals omega
 have he:0<jO (yo (opM l st)):=by rw[hs];omega
 have hlen:=List.length_pos_iff.2 hn;have hb:qt st l.length (yo (opM l st))=J8 l st:=by
  unfold qt J8;rw[iJ he];by_cases h17:opM l st=17
  ·rw[iJ h17,iJ (.inr (by rw[h17];decide))]
  ·rw[iQ h17,iQ];rcases ho with h |h |h
   ·rw[h];decide
   ·exact absurd h h17
   ·rw[h];decide
 have hw:zk l st (one (yo (opM l st)))=0:=by
  unfold zk
  rw[iQ (by rcases hso with h |h |h<;>rw[h]<;>decide),iQ (λhh=>hh.2 hs.symm),iQ (λhh=>by have:=hh.1;dsimp only at this;omega),iQ (λhh=>by
   have:=hh.1
   rcases hso with h |h |h<;>rw[h]at this<;>exact absurd this od)]
 have h5:=B.five;have:=B.app (x:=one (yo (opM l st))) (Zt calm omQ) hw (by dsimp only;omega) (by rw[hb];unfold J8;split<;>simp<;>omega);rw[hb]at this;refine⟨this,?_⟩;unfold kr J8 jC;have hd:(st.dropLast.map λp=>(qL (l++[one (yo (opM l st))]) p).1)=(jC l st).dropLast:=by have:=Jh (t:=[one (yo (opM l st))]) B.stok.dropLast;unfold jC at this ⊢;rw[this,List.map_dropLast]
 split
 ·rename_i h17;have e:=Qk (l:=l) (t:=[one (yo (opM l st))]) (k:=0) (x:=one (yo (opM l st))) rfl;rw[Nat.add_zero]at e;rw[List.map_append,hd,List.map_singleton,e,h17];rfl
 ·rw[hd,List.append_nil];rfl
theorem OB {l:List qS} {st:List Int} (hn:st≠[]):opM l st=(jC l st).getLast?.getD 0:=by unfold opM jC qm;rw[iQ hn,List.getLast?_map,List.getLast?_eq_some_getLast hn];rfl
theorem Bld.fit {calm:Bool} {l:List qS} (B:Bld calm l []) (h0:0<l.length) (h40:l.length≤40):yQ l=(0,0):=by
 have key:∀d i,i+d=l.length→goM l (l.drop i) i (qg l i)=.inr []:=by
  intro d
  induction d with
  |zero=>
   intro i hi;obtain rfl:i=l.length:=by omega
   rw[List.drop_length,B.top];rfl
  |succ d ih=>
   intro i hi;have hlt:i<l.length:=by omega
   rw[Yz hlt];have hw:=B.wr i hlt;rw[xx hlt]at hw;rw[iJ hw];have:=ih (i+1) omQ;rw[jJ,xx hlt]at this;exact this
 have hg:=key l.length 0 omQ;have hreg:∀j,j<l.length→(yn l 0 [])[j]? =some (qm (qg l j)):=λj hj=>by
  have:=Vc (l:=l) l.length 0 omQ j omQ;rw[Nat.zero_add]at this;exact this
 have hnum:∀j:Nat,j<l.length→qB (yn l 0 []) (j:Int)=qm (qg l j):=λj hj=>by
  unfold qB;rw[Int.toNat_natCast,hreg j hj];rfl
 have hj:∀d i,i+d=l.length→Qo l (yn l 0 []) (l.drop i) i=(0,0):=by
  intro d
  induction d with
  |zero=>
   intro i hi;obtain rfl:i=l.length:=by omega
   rw[List.drop_length];rfl
  |succ d ih=>
   intro i hi;have hlt:i<l.length:=by omega
   rw[XS hlt,iQ,ih (i+1) omQ];rintro⟨ho,hc⟩;have hB:=B.jp i hlt;rw[xx hlt]at hB;obtain⟨c,c1,c2,c3,_⟩:=hB ho;rw[c1]at hc;rcases hc with hc |⟨hc,hc2⟩ |⟨hc,hc2⟩
   ·omega
   ·have:c=l.length:=by omega
    subst this;rw[B.top]at c3;rw[hnum i hlt,← c3]at hc2;exact hc2 rfl
   ·rw[hnum c omQ,hnum i hlt,c3]at hc2;exact hc2 rfl
 unfold yQ;rw[iQ omQ];have hg2:goM l l 0 []=.inr []:=hg;rw[hg2];dsimp only;rw[iJ rfl];exact hj l.length 0 omQ
end Go.Proofs.YtnalffoigcmnnaaGreatDoor
namespace Go.Proofs.YtnalffoigcmnnaaGreatDoor
open Go Go.Ae
set_option maxRecDepth 100000
variable {g h:AH} {L R:List SP}
def OkN (zs:List Int):Prop:=∀z∈zs,0≤z∧z<18446744073709551616
theorem OkN.set {zs:List Int} {i:Nat} {x:Int} (h:OkN zs) (hx:0≤x∧x<18446744073709551616):OkN (zs.set i x):=by
 intro z hz;rcases List.mem_or_eq_of_mem_set hz with h1 |rfl
 ·exact h z h1
 ·exact hx
theorem GQ {u x:Bool} {r:AV} {K:AV→Go.Ae.R} {Q:AV→AH→Prop} (hr:u=true→r=.bool x) (w:wp (K (.bool (u&&x))) Q):wp (yJ (.bool u) r (.bool false) K) Q:=by
 cases u
 ·exact w
 ·rw[hr rfl];exact w
theorem qKi {k:IntKind} {a b:Int} {K:AV→Go.Ae.R} {Q:AV→AH→Prop} (w:∀z:Int,wp (K (.int k z)) Q):wp (jv .and (.int k a) (.int k b) K) Q:=by rw[wq];simp only[w8];exact w _
def tw (c:Int):Int:=j6 .i64 (1*2 ^ (min c.toNat (IntKind.bits .i64)))
theorem tw_b {c:Int} (h:1≤c∧c≤3):2≤tw c∧tw c≤8:=by
 obtain rfl |rfl |rfl:c=1∨c=2∨c=3:=by omega
 all_goals decide
theorem wc {x lo hi:Int} (h:lo≤hi):lo≤jI x lo hi∧jI x lo hi≤hi:=by
 unfold jI;have:=Qf x (show 0<hi-lo+1 by omega)
 split<;>omega
def OkZ (zs:List Int):Prop:=OkN zs∧zs[0]? =some 0
theorem OkZ.set {zs:List Int} {i:Nat} {x:Int} (h:OkZ zs) (hx:0≤x∧x<18446744073709551616) (hi:0<i):OkZ (zs.set i x):=⟨h.1.set hx,by rw[List.getElem?_set_ne omQ];exact h.2⟩
theorem Z3 {n:Nat} (hn:2≤n) {x:Int} {rv bv:AV} {rs bs:List Int} (H:HS g h R) (SR:Rd g R 1 rs.length rv (rs.map (.int .u64))) (hr:∀z∈rs,0≤z∧z<18446744073709551616) (S:Rd g R 1 bs.length bv (bs.map (.int .u8))) (hb:∀z∈bs,0≤z∧z≤255) :
  t_w n 7 [.int .i64 x,rv,bv] h λr h'=>∃zs,OkN zs∧zs[0]? =some 0∧32≤zs.length∧zs.length≤80∧shut r=true∧qQM r∧HS g h' (qD 24 1 zs.length r (zs.map (.int .u64))::R):=by
 refine t_e3 (S:=S7) rfl omQ λk hk=>?_;unfold S7;try simp only[iZ]
 refine qW (xQ omQ omQ omQ omQ) ?_;rintro _ _ ⟨rfl,rfl⟩;have hwb:=wc (x:=x) (lo:=((32:Nat):Int)) (hi:=((80:Nat):Int)) omQ;obtain⟨n,hn⟩:∃n:Nat,jI x ((32:Nat):Int) ((80:Nat):Int)=(n:Int):=⟨_,(Int.toNat_of_nonneg omQ).symm⟩;rw[hn]at hwb ⊢;refine GP (Nat.le_refl _) omQ λb h3 hb3 A F=>?_;have H3:HS g h3 (qD 24 1 n (.slice b 0 n n false) ((List.replicate n (0:Int)).map (.int .u64))::R):=by
  refine H.add (D':=λa=>a=b) F.none ⟨by simp,.inr ⟨b,n,false,_,rfl,λa=>Iff.rfl,A,by rw[yN];simp,?_,?_⟩⟩ ?_
  ·rw[List.take_of_length_le (by rw[yN];simp),YE,List.map_replicate];rfl
  ·rw[iQ osQ];exact⟨by rw[yN];rfl,Nat.le_refl _⟩
  ·rintro a rfl;exact⟨hb3,A.lt⟩
 have z0:OkZ (List.replicate n (0:Int)):=⟨by intro z hz;rw[List.eq_of_mem_replicate hz];omega,by rw[List.getElem?_replicate,iJ omQ]⟩;have hsh:shut (.slice b 0 n n false)=true:=rfl;have hro:qQM (.slice b 0 n n false):=Nat.le_refl n;generalize AV.slice b 0 n n false=wv at*;clear H F A;refine gH (i:=5) H3 omQ ⟨rfl,rfl⟩ λh4 H=>?_;rw[← List.map_set]at H;have z1:=z0.set (i:=5) (x:=((14:Nat):Int)) omQ omQ;have l1:((List.replicate n (0:Int)).set 5 ((14:Nat):Int)).length=n:=by simp
 generalize(List.replicate n (0:Int)).set 5 ((14:Nat):Int)=zs at*;clear z0 H3;refine jP (λm s h'=>∃(i:Nat) (zs:List Int),s=(.int .i64 (i:Int),wv,bv,rv,())∧i≤8∧m=8-i∧OkZ zs∧zs.length=n∧HS g h' (qD 24 1 n wv (zs.map (.int .u64))::R))
  ?_ (m:=8) (by show 8<1000000000;omega) ⟨0,zs,rfl,by omega,by omega,z1,l1,H⟩
 clear H z1 l1 zs;rintro m ih s h4 hih ⟨i,zs,rfl,hi8,rfl,z1,l1,H⟩;dsimp only;refine zD (SR.sl H.drop) (QP ?_);refine Gf (λs g'=>∃(r:AV) (u x:Bool),s=(r,.bool u,.int .i64 (i:Int),wv,bv,rv,())∧g'=h4∧(u=true→r=.bool x)∧((u&&x)=decide (i<rs.length∧i<8))) ?_ ?_
 ·intro j hj;refine qQc (λhl=>QP (hj _ _ ⟨_,_,decide (i<8),rfl,rfl,λ_=>(by congr 1;exact decide_eq_decide.2 omQ),?_⟩)) (λhl=>hj _ _ ⟨_,_,false,rfl,rfl,λh=>absurd (of_decide_eq_true h) hl,?_⟩)
  ·have hl':i<rs.length:=by omega
   simp[hl']
  ·have hl':¬i<rs.length:=by omega
   simp[hl']
 rintro s h4 ⟨r,u,x2,rfl,rfl,hr2,hux⟩;refine GQ hr2 ?_;rw[hux];dsimp only;clear hr2 hux;refine MN (λhi=>?_) λhi=>?_
 ·have hci:(rs.map (AV.int .u64))[i]? =some (.int .u64 rs[i]):=by rw[List.getElem?_map,iW hi.1];rfl
  have hbi:=hr rs[i] (List.getElem_mem hi.1);have hb1:=Int.tmod_nonneg ((90:Nat):Int) hbi.1;have hb2:=Int.tmod_lt_of_pos rs[i] (show 0<((90:Nat):Int) by omega);refine qU omQ (jA (SR.sl H.drop) hci (kM omQ ?_));rw[show((6:Nat):Int)+(i:Int)=((6+i:Nat):Int) by omega];refine gH H omQ ⟨rfl,rfl⟩ λh6 H6=>?_;rw[← List.map_set]at H6;exact qU omQ (hih (8-(i+1)) _ _ omQ ⟨i+1,_,rfl,by omega,rfl,z1.set omQ omQ,by simp[l1],H6⟩)
 ·refine jT [] (λs h'=>s=(wv,())∧∃zs,OkZ zs∧zs.length=n∧HS g h' (qD 24 1 n wv (zs.map (.int .u64))::R)) ?_ ?_
  ·intro j hj;refine jP (λm s h'=>∃(i:Nat) (at':Int) (zs:List Int),s=(.int .i64 (i:Int),.int .i64 at',wv,bv,())∧i≤8∧m=8-i∧14≤at'∧at'≤n∧OkZ zs∧zs.length=n∧HS g h' (qD 24 1 n wv (zs.map (.int .u64))::R))
    ?_ (m:=8) (by show 8<1000000000;omega) ⟨0,((14:Nat):Int),zs,rfl,by omega,by omega,by omega,by omega,z1,l1,H⟩
   clear H z1 l1 hih zs ih;rintro m ih s h5 hih ⟨i,a,zs,rfl,hi8,rfl,ha,ha2,hz,hl,H⟩;dsimp only;refine zD (S.sl H.drop) (QP ?_);refine Gf (λs g'=>∃(r:AV) (u x:Bool),s=(r,.bool u,.int .i64 (i:Int),.int .i64 a,wv,bv,())∧g'=h5∧(u=true→r=.bool x)∧((u&&x)=decide (i<bs.length∧i<8))) ?_ ?_
   ·intro j hj;refine qQc (λhl=>QP (hj _ _ ⟨_,_,decide (i<8),rfl,rfl,λ_=>(by congr 1;exact decide_eq_decide.2 omQ),?_⟩)) (λhl=>hj _ _ ⟨_,_,false,rfl,rfl,λh=>absurd (of_decide_eq_true h) hl,?_⟩)
    ·have hl':i<bs.length:=by omega
     simp[hl']
    ·have hl':¬i<bs.length:=by omega
     simp[hl']
   rintro s h5 ⟨r,u,x,rfl,rfl,hr,hux⟩;refine GQ hr ?_;rw[hux];dsimp only;refine MN (λhi=>?_) λhi=>hj _ _ ⟨rfl,zs,hz,hl,H⟩;have hci:(bs.map (AV.int .u8))[i]? =some (.int .u8 bs[i]):=by rw[List.getElem?_map,iW hi.1];rfl
   have hbi:=hb bs[i] (List.getElem_mem hi.1);have hb1:=Int.tmod_nonneg ((3:Nat):Int) hbi.1;have hb2:=Int.tmod_lt_of_pos bs[i] (show 0<((3:Nat):Int) by omega);refine jA (S.sl H.drop) hci (kM omQ (z7 omQ (qU omQ ?_)));obtain⟨c,hc⟩:∃c,c=Int.tmod bs[i] ((3:Nat):Int)+((1:Nat):Int):=⟨_,rfl⟩;rw[← hc];have hcb:1≤c∧c≤3:=by omega
   have htw:=tw_b hcb;refine qU omQ (xN omQ (ZL omQ ?_));show wp (jv .add _ (.int .i64 (tw c)) _) _;refine qU omQ (qs H .here (yd (λhg=>qX (hj _ _ ⟨rfl,zs,hz,hl,H⟩)) λhg=>qJ ?_));obtain⟨p,rfl⟩:∃p:Nat,a=(p:Int):=⟨a.toNat,by omega⟩;refine xN omQ ?_;refine gH H omQ ⟨rfl,rfl⟩ λh6 H=>?_;rw[← List.map_set]at H;have hz2:=hz.set (i:=p) (x:=c) omQ omQ;have hl2:(zs.set p c).length=n:=by simp[hl]
   generalize zs.set p c=zs2 at*;clear hz hl;refine jT [] (λs h'=>s=(.int .i64 c,.int .i64 (i:Int),.int .i64 (p:Int),wv,bv,())∧∃zs,OkZ zs∧zs.length=n∧HS g h' (qD 24 1 n wv (zs.map (.int .u64))::R)) ?_ ?_
   ·intro j hj;refine jA (S.sl H.drop) hci (qKi λz=>?_);refine yd (λ_=>qX ?_) λ_=>qJ ?_
    ·refine qU omQ (xN omQ ?_);refine gH H omQ ⟨rfl,rfl⟩ λh7 H7=>?_;rw[← List.map_set]at H7;exact hj _ _ ⟨rfl,_,hz2.set omQ omQ,by simp[hl2],H7⟩
    ·refine jA (S.sl H.drop) hci (qKi λz=>?_);refine yd (λ_=>qX ?_) λ_=>qJ (hj _ _ ⟨rfl,zs2,hz2,hl2,H⟩);refine qU omQ (qU omQ (jM omQ ?_));obtain⟨d,hd⟩:∃d:Nat,((1:Nat):Int)+c-((1:Nat):Int)=(d:Int):=⟨c.toNat,by omega⟩;rw[hd];have hdn:d<zs2.length:=by omega
     refine jA (x:=.int .u64 zs2[d]) (H.sl .here) (by rw[List.getElem?_map,iW hdn];rfl) ?_;rw[show(p:Int)+((1:Nat):Int)=((p+1:Nat):Int) by omega];refine gH H omQ ⟨rfl,rfl⟩ λh7 H7=>?_;rw[← List.map_set]at H7;refine qU omQ (jM omQ (qU omQ (xN omQ ?_)));rw[hd];refine gH H7 omQ ⟨rfl,rfl⟩ λh8 H8=>?_;rw[← List.map_set]at H8;exact hj _ _ ⟨rfl,_,(hz2.set (hz2.1 zs2[d] (List.getElem_mem hdn)) omQ).set omQ omQ,by simp[hl2],H8⟩
   rintro s h7 ⟨rfl,zs3,hz3,hl3,H⟩;dsimp only;refine qU omQ (xN omQ (ZL omQ ?_));show wp (jv .add _ (.int .i64 (tw c)) _) _;refine qU omQ (xN omQ ?_);refine gH (i:=5) H omQ ⟨rfl,rfl⟩ λh8 H8=>?_;rw[← List.map_set]at H8;refine qU omQ (hih (8-(i+1)) _ _ omQ ⟨i+1,_,_,rfl,by omega,rfl,by omega,by omega,hz3.set omQ omQ,by simp[hl3],H8⟩)
  rintro s h5 ⟨rfl,zs,hz,hl,H⟩;dsimp only;refine qx (qY ⟨zs,hz.1,hz.2,by omega,by omega,hsh,hro,?_⟩);rw[hl];exact H
end Go.Proofs.YtnalffoigcmnnaaGreatDoor
namespace Go.Proofs.YtnalffoigcmnnaaGreatDoor
open Go Go.Ae
set_option maxRecDepth 100000
variable {g h:AH} {L R:List SP}
def yD (lv:AV) (l:List qS):SP:=qD 74 5 l.length lv (l.flatMap q8)
def Xb (ov:AV) (o:List Int):SP:=qD 3 1 o.length ov (o.map (.int .i64))
theorem Jo {n:Nat} (hn:2≤n) {x:Int}:t_w n 41 [.int .i64 x] h λv h'=>v=.int .i64 (jI x 0 6)∧h'=h:=by
 refine t_e1 (S:=S41) rfl omQ λk hk=>?_;unfold S41;try simp only[iZ]
 refine qW (xQ omQ omQ omQ omQ) ?_;rintro _ _ ⟨rfl,rfl⟩;exact qY ⟨rfl,rfl⟩
theorem wL {l:List qS} {lv:AV} {t:List qS} {tv:AV} {K2:AV→AH→Go.Ae.R} {Q:AV→AH→Prop} {D':Nat→Prop} (H:HS g h (yD lv l::R)) (S:Sl D' h 5 t.length tv (t.flatMap q8)) (hl:l.length+t.length≤100000)
  (w:∀v' h',HS g h' (yD v' (l++t)::R)→wp (K2 v' h') Q):wp (zU h 74 5 lv tv K2) Q:=by
 refine zT H S omQ omQ (GA t) λv' h' H'=>w v' h' ?_;unfold yD;rw[List.length_append,List.flatMap_append];exact H'
theorem qWE {a n:Int} (h:0≤a∧a≤7):vJ (1,a,0,0,n)=true:=by simp[vJ,jY,vK];omega
theorem may_2 {a b:Int} (h:0≤a∧a≤7) (h2:0≤b∧b≤7):vJ (2,a,b,0,0)=true:=by simp[vJ,jY,vK];omega
theorem may_3 {o a b c:Int} (ho:3≤o∧o≤7) (h:0≤a∧a≤7) (h2:0≤b∧b≤7) (h3:0≤c∧c≤7):vJ (o,a,b,c,0)=true:=by
 rcases(show o=3∨o=4∨o=5∨o=6∨o=7 by omega)with rfl |rfl |rfl |rfl |rfl<;>(simp[vJ,jY,vK];omega)
theorem Xu {o a b c:Int} (ho:o=8∨o=9) (h:0≤a∧a≤7) (h2:0≤b∧b≤7) (h3:0≤c∧c≤15):vJ (o,a,b,c,0)=true:=by
 rcases ho with rfl |rfl<;>(simp[vJ,jY,vK];omega)
theorem qWh {a b:Int} (h:0≤a∧a≤7) (h2:0≤b∧b≤7):vJ (10,a,b,0,0)=true:=by simp[vJ,jY,vK];omega
theorem qW5 {o a:Int} (ho:o=11∨o=21) (h:0≤a∧a≤7):vJ (o,a,0,0,0)=true:=by
 rcases ho with rfl |rfl<;>(simp[vJ,jY,vK];omega)
theorem qKB {a c:Int} (h:0≤a∧a≤7) (h3:0≤c∧c≤40):vJ (13,a,0,c,0)=true:=by simp[vJ,jY,vK];omega
structure Kb (x:qS):Prop where
  flat:Flat x.1
  nj:x.1≠12∧x.1≠13
  ok:∀calm,YQ calm x
theorem Kb.of {x:qS} (h1:vJ x=true) (h2:(1≤x.1∧x.1≤11)∨x.1=21) (h3:0≤x.2.2.2.2∧x.2.2.2.2<18446744073709551616):Kb x :=
 ⟨⟨by omega,by omega,by omega,by omega,by omega,by omega⟩,by omega,λ_=>⟨h1,by omega,h3,λ_=>by omega⟩⟩
set_option maxHeartbeats 4000000 in
theorem XC {n:Nat} (hn:3≤n) {kx:qS} (hN:0≤kx.2.2.2.2∧kx.2.2.2.2<18446744073709551616) (H:HS g h R) :
  t_w n 42 [.agg (q8 kx)] h λr h'=>∃x,r=.agg (q8 x)∧Kb x∧HS g h' R:=by
 refine t_e1 (S:=S42) rfl omQ λk hk=>?_;unfold S42;try simp only[iZ]
 refine qM H rfl λb0 h1 H1=>?_;refine qM H1 rfl λb2 h2 H2=>?_;have H2:HS g h2 (qk b2 [.int .i64 ((0:Nat):Int),.int .i64 ((0:Nat):Int),.int .i64 ((0:Nat):Int),.int .i64 ((0:Nat):Int),.int .u64 ((0:Nat):Int)]::qk b0 (q8 kx)::R):=H2;clear H H1;refine qV ?_
 try dsimp only
 refine qQ (qG H2 (b:=b0) e_1 rfl ?_);refine qW (Jo omQ) ?_;rintro _ _ ⟨rfl,rfl⟩;refine qQ (qG H2 (b:=b0) e_1 rfl ?_);refine qW (Jo omQ) ?_;rintro _ _ ⟨rfl,rfl⟩;refine qQ (qG H2 (b:=b0) e_1 rfl ?_);refine qW (Jo omQ) ?_;rintro _ _ ⟨rfl,rfl⟩;refine qp H2 (b:=b0) e_1 rfl H2 e_1 rfl (HS.lt H2 e_1) ?_;refine qp H2 (b:=b0) e_1 rfl H2 e_1 rfl (HS.lt H2 e_1) ?_;refine qp H2 (b:=b0) e_1 rfl H2 e_1 rfl (HS.lt H2 e_1) ?_;refine qQ (qG H2 (b:=b0) e_1 rfl ?_);refine qW (xQ omQ omQ omQ omQ) ?_;rintro _ _ ⟨rfl,rfl⟩;refine qQ (qG H2 (b:=b0) e_1 rfl ?_);refine qW (xQ omQ omQ omQ omQ) ?_;rintro _ _ ⟨rfl,rfl⟩;have ha:=zJ kx.2.1 (show(0:Int)≤6 by omega);have hb:=zJ kx.2.2.1 (show(0:Int)≤6 by omega);have hc:=zJ kx.2.2.2.1 (show(0:Int)≤6 by omega);have hat:=zJ kx.2.2.2.1 (show(((6:Nat):Int))≤((15:Nat):Int) by omega);have hw:=zJ kx.1 (show(((0:Nat):Int))≤((19:Nat):Int) by omega);generalize jI kx.2.1 0 6=a at*;generalize jI kx.2.2.1 0 6=b at*;generalize jI kx.2.2.2.1 0 6=c at*;generalize jI kx.2.2.2.1 ((6:Nat):Int) ((15:Nat):Int)=at_ at*;generalize jI kx.1 ((0:Nat):Int) ((19:Nat):Int)=w at*;have fin:∀(x:qS) (h0:AH),Kb x→HS g h0 (qk b2 [.int .i64 ((0:Nat):Int),.int .i64 ((0:Nat):Int),.int .i64 ((0:Nat):Int),.int .i64 ((0:Nat):Int),.int .u64 ((0:Nat):Int)]::qk b0 (q8 kx)::R)→
   wp (jj h0 (.ptr b2 0) (.agg (q8 x)) 5 λh22=>zw [] h22 λh23=>je h23 (.ptr b2 0) 5 λv24=>some (v24,h23)) λr h'=>∃x,r=.agg (q8 x)∧Kb x∧HS g h' R:=by
  intro x h0 hx H0;refine qc H0 (b:=b2) .here rfl (by show 0+5≤5;omega) rfl λh6 H6=>?_;have H6:HS g h6 (qk b2 (q8 x)::qk b0 (q8 kx)::R):=H6;refine qx (qE H6 (b:=b2) (off:=0) .here rfl omQ (l:=q8 x) rfl ?_);exact qY ⟨x,rfl,hx,H6.drop.drop⟩
 have z0:(0:Int)≤0∧(0:Int)<18446744073709551616:=by omega
 have hd:w=0∨w=1∨w=2∨w=3∨w=4∨w=5∨w=6∨w=7∨w=8∨w=9∨w=10∨w=11∨w=12∨w=13∨w=14∨w=15∨w=16∨17≤w:=by omega
 rcases hd with h0 |h0 |h0 |h0 |h0 |h0 |h0 |h0 |h0 |h0 |h0 |h0 |h0 |h0 |h0 |h0 |h0 |h0
 all_goals (first |with_reducible (refine qV ?_;(try dsimp only);refine qZ omQ ?_;refine qJ ?_;refine qZ omQ ?_;refine qJ ?_;refine qZ omQ ?_;refine qJ ?_;refine qZ omQ ?_;refine qJ ?_;refine qZ omQ ?_;refine qJ ?_;refine qV ?_;(try dsimp only);refine qZ omQ ?_;refine qJ ?_;refine qZ omQ ?_;refine qJ ?_;refine qZ omQ ?_;refine qJ ?_;refine qV ?_;(try dsimp only);refine qZ omQ ?_;refine qJ ?_;refine qZ omQ ?_;refine qJ ?_;refine qZ omQ ?_;refine qJ ?_;refine qZ omQ ?_;refine qJ ?_;refine qZ omQ ?_;refine qJ ?_;refine qV ?_;(try dsimp only);refine qZ omQ ?_;refine qJ ?_;refine qZ omQ ?_;refine qJ ?_;refine qZ omQ ?_;refine qJ ?_;refine qz omQ ?_;refine qX ?_;refine qI rfl ?_) |with_reducible (refine qV ?_;(try dsimp only);refine qZ omQ ?_;refine qJ ?_;refine qZ omQ ?_;refine qJ ?_;refine qZ omQ ?_;refine qJ ?_;refine qZ omQ ?_;refine qJ ?_;refine qZ omQ ?_;refine qJ ?_;refine qV ?_;(try dsimp only);refine qZ omQ ?_;refine qJ ?_;refine qZ omQ ?_;refine qJ ?_;refine qZ omQ ?_;refine qJ ?_;refine qV ?_;(try dsimp only);refine qZ omQ ?_;refine qJ ?_;refine qZ omQ ?_;refine qJ ?_;refine qZ omQ ?_;refine qJ ?_;refine qZ omQ ?_;refine qJ ?_;refine qZ omQ ?_;refine qJ ?_;refine qV ?_;(try dsimp only);refine qZ omQ ?_;refine qJ ?_;refine qZ omQ ?_;refine qJ ?_;refine qZ omQ ?_;refine qJ ?_;refine qZ omQ ?_;refine qJ ?_;refine qI rfl ?_) |with_reducible (refine qV ?_;(try dsimp only);refine qZ omQ ?_;refine qJ ?_;refine qZ omQ ?_;refine qJ ?_;refine qZ omQ ?_;refine qJ ?_;refine qZ omQ ?_;refine qJ ?_;refine qZ omQ ?_;refine qJ ?_;refine qV ?_;(try dsimp only);refine qZ omQ ?_;refine qJ ?_;refine qZ omQ ?_;refine qJ ?_;refine qZ omQ ?_;refine qJ ?_;refine qV ?_;(try dsimp only);refine qZ omQ ?_;refine qJ ?_;refine qZ omQ ?_;refine qJ ?_;refine qZ omQ ?_;refine qJ ?_;refine qZ omQ ?_;refine qJ ?_;refine qZ omQ ?_;refine qJ ?_;refine qV ?_;(try dsimp only);refine qZ omQ ?_;refine qJ ?_;refine qZ omQ ?_;refine qJ ?_;refine qz omQ ?_;refine qX ?_;refine qI rfl ?_) |with_reducible (refine qV ?_;(try dsimp only);refine qZ omQ ?_;refine qJ ?_;refine qZ omQ ?_;refine qJ ?_;refine qZ omQ ?_;refine qJ ?_;refine qZ omQ ?_;refine qJ ?_;refine qZ omQ ?_;refine qJ ?_;refine qV ?_;(try dsimp only);refine qZ omQ ?_;refine qJ ?_;refine qZ omQ ?_;refine qJ ?_;refine qZ omQ ?_;refine qJ ?_;refine qV ?_;(try dsimp only);refine qZ omQ ?_;refine qJ ?_;refine qZ omQ ?_;refine qJ ?_;refine qZ omQ ?_;refine qJ ?_;refine qZ omQ ?_;refine qJ ?_;refine qZ omQ ?_;refine qJ ?_;refine qV ?_;(try dsimp only);refine qZ omQ ?_;refine qJ ?_;refine qz omQ ?_;refine qX ?_;refine qI rfl ?_) |with_reducible (refine qV ?_;(try dsimp only);refine qZ omQ ?_;refine qJ ?_;refine qZ omQ ?_;refine qJ ?_;refine qZ omQ ?_;refine qJ ?_;refine qZ omQ ?_;refine qJ ?_;refine qZ omQ ?_;refine qJ ?_;refine qV ?_;(try dsimp only);refine qZ omQ ?_;refine qJ ?_;refine qZ omQ ?_;refine qJ ?_;refine qZ omQ ?_;refine qJ ?_;refine qV ?_;(try dsimp only);refine qZ omQ ?_;refine qJ ?_;refine qZ omQ ?_;refine qJ ?_;refine qZ omQ ?_;refine qJ ?_;refine qZ omQ ?_;refine qJ ?_;refine qZ omQ ?_;refine qJ ?_;refine qV ?_;(try dsimp only);refine qz omQ ?_;refine qX ?_;refine qX ?_;refine qI rfl ?_) |with_reducible (refine qV ?_;(try dsimp only);refine qZ omQ ?_;refine qJ ?_;refine qZ omQ ?_;refine qJ ?_;refine qZ omQ ?_;refine qJ ?_;refine qZ omQ ?_;refine qJ ?_;refine qZ omQ ?_;refine qJ ?_;refine qV ?_;(try dsimp only);refine qZ omQ ?_;refine qJ ?_;refine qZ omQ ?_;refine qJ ?_;refine qZ omQ ?_;refine qJ ?_;refine qV ?_;(try dsimp only);refine qZ omQ ?_;refine qJ ?_;refine qZ omQ ?_;refine qJ ?_;refine qZ omQ ?_;refine qJ ?_;refine qZ omQ ?_;refine qJ ?_;refine qz omQ ?_;refine qX ?_;refine qQ ?_;refine qG ‹_› e_1 rfl ?_) |with_reducible (refine qV ?_;(try dsimp only);refine qZ omQ ?_;refine qJ ?_;refine qZ omQ ?_;refine qJ ?_;refine qZ omQ ?_;refine qJ ?_;refine qZ omQ ?_;refine qJ ?_;refine qZ omQ ?_;refine qJ ?_;refine qV ?_;(try dsimp only);refine qZ omQ ?_;refine qJ ?_;refine qZ omQ ?_;refine qJ ?_;refine qZ omQ ?_;refine qJ ?_;refine qV ?_;(try dsimp only);refine qZ omQ ?_;refine qJ ?_;refine qZ omQ ?_;refine qJ ?_;refine qZ omQ ?_;refine qJ ?_;refine qz omQ ?_;refine qX ?_;refine qQ ?_;refine qG ‹_› e_1 rfl ?_) |with_reducible (refine qV ?_;(try dsimp only);refine qZ omQ ?_;refine qJ ?_;refine qZ omQ ?_;refine qJ ?_;refine qZ omQ ?_;refine qJ ?_;refine qZ omQ ?_;refine qJ ?_;refine qZ omQ ?_;refine qJ ?_;refine qV ?_;(try dsimp only);refine qZ omQ ?_;refine qJ ?_;refine qZ omQ ?_;refine qJ ?_;refine qZ omQ ?_;refine qJ ?_;refine qV ?_;(try dsimp only);refine qZ omQ ?_;refine qJ ?_;refine qZ omQ ?_;refine qJ ?_;refine qz omQ ?_;refine qX ?_;refine qI rfl ?_) |with_reducible (refine qV ?_;(try dsimp only);refine qZ omQ ?_;refine qJ ?_;refine qZ omQ ?_;refine qJ ?_;refine qZ omQ ?_;refine qJ ?_;refine qZ omQ ?_;refine qJ ?_;refine qZ omQ ?_;refine qJ ?_;refine qV ?_;(try dsimp only);refine qZ omQ ?_;refine qJ ?_;refine qZ omQ ?_;refine qJ ?_;refine qZ omQ ?_;refine qJ ?_;refine qV ?_;(try dsimp only);refine qZ omQ ?_;refine qJ ?_;refine qz omQ ?_;refine qX ?_;refine qX ?_;refine qI rfl ?_) |with_reducible (refine qV ?_;(try dsimp only);refine qZ omQ ?_;refine qJ ?_;refine qZ omQ ?_;refine qJ ?_;refine qZ omQ ?_;refine qJ ?_;refine qZ omQ ?_;refine qJ ?_;refine qZ omQ ?_;refine qJ ?_;refine qV ?_;(try dsimp only);refine qZ omQ ?_;refine qJ ?_;refine qZ omQ ?_;refine qJ ?_;refine qZ omQ ?_;refine qJ ?_;refine qV ?_;(try dsimp only);refine qz omQ ?_;refine qX ?_;refine qX ?_;refine qI rfl ?_) |with_reducible (refine qV ?_;(try dsimp only);refine qZ omQ ?_;refine qJ ?_;refine qZ omQ ?_;refine qJ ?_;refine qZ omQ ?_;refine qJ ?_;refine qZ omQ ?_;refine qJ ?_;refine qZ omQ ?_;refine qJ ?_;refine qV ?_;(try dsimp only);refine qZ omQ ?_;refine qJ ?_;refine qZ omQ ?_;refine qJ ?_;refine qz omQ ?_;refine qX ?_;refine qI rfl ?_) |with_reducible (refine qV ?_;(try dsimp only);refine qZ omQ ?_;refine qJ ?_;refine qZ omQ ?_;refine qJ ?_;refine qZ omQ ?_;refine qJ ?_;refine qZ omQ ?_;refine qJ ?_;refine qZ omQ ?_;refine qJ ?_;refine qV ?_;(try dsimp only);refine qZ omQ ?_;refine qJ ?_;refine qz omQ ?_;refine qX ?_;refine qX ?_;refine qI rfl ?_) |with_reducible (refine qV ?_;(try dsimp only);refine qZ omQ ?_;refine qJ ?_;refine qZ omQ ?_;refine qJ ?_;refine qZ omQ ?_;refine qJ ?_;refine qZ omQ ?_;refine qJ ?_;refine qZ omQ ?_;refine qJ ?_;refine qV ?_;(try dsimp only);refine qz omQ ?_;refine qX ?_;refine qX ?_;refine qI rfl ?_) |with_reducible (refine qV ?_;(try dsimp only);refine qZ omQ ?_;refine qJ ?_;refine qZ omQ ?_;refine qJ ?_;refine qZ omQ ?_;refine qJ ?_;refine qZ omQ ?_;refine qJ ?_;refine qz omQ ?_;refine qX ?_;refine qQ ?_;refine qG ‹_› e_1 rfl ?_) |with_reducible (refine qV ?_;(try dsimp only);refine qZ omQ ?_;refine qJ ?_;refine qz omQ ?_;refine qX ?_;refine qQ ?_;refine qG ‹_› e_1 rfl ?_;refine qI rfl ?_) |with_reducible (refine qV ?_;(try dsimp only);refine qZ omQ ?_;refine qJ ?_;refine qZ omQ ?_;refine qJ ?_;refine qz omQ ?_;refine qX ?_;refine qQ ?_;refine qG ‹_› e_1 rfl ?_) |with_reducible (refine qV ?_;(try dsimp only);refine qZ omQ ?_;refine qJ ?_;refine qZ omQ ?_;refine qJ ?_;refine qZ omQ ?_;refine qJ ?_;refine qz omQ ?_;refine qX ?_;refine qI rfl ?_) |with_reducible (refine qV ?_;(try dsimp only);refine qz omQ ?_;refine qX ?_;refine qX ?_;refine qQ ?_;refine qG ‹_› e_1 rfl ?_;refine qI rfl ?_))
 ·exact fin (1,a,0,0,kx.2.2.2.2) _ (.of (qWE omQ) (by dsimp only;omega) hN) H2
 ·exact fin (1,a,0,0,kx.2.2.2.2) _ (.of (qWE omQ) (by dsimp only;omega) hN) H2
 ·refine kM od ?_;obtain⟨m,hm⟩:∃m:Nat,kx.2.2.2.2=m:=⟨kx.2.2.2.2.toNat,by omega⟩;have ht:kx.2.2.2.2.tmod ((20:Nat):Int)=((m%20:Nat):Int):=by rw[hm];rfl
  rw[ht];refine qI rfl ?_;exact fin (1,a,0,0,((m%20:Nat):Int)) _ (.of (qWE omQ) (by dsimp only;omega) (by dsimp only;omega)) H2
 ·exact fin (2,a,b,0,0) _ (.of (may_2 omQ omQ) (by dsimp only;omega) z0) H2
 ·refine kM od ?_;obtain⟨m,hm⟩:∃m:Nat,kx.2.2.2.2=m:=⟨kx.2.2.2.2.toNat,by omega⟩;have ht:kx.2.2.2.2.tmod ((64:Nat):Int)=((m%64:Nat):Int):=by rw[hm];rfl
  rw[ht];refine z7 omQ ?_;refine qW (xQ omQ omQ omQ omQ) ?_;rintro _ _ ⟨rfl,rfl⟩;have ho:=zJ ((m%64:Nat):Int) (show(((0:Nat):Int))≤((4:Nat):Int) by omega);generalize jI ((m%64:Nat):Int) ((0:Nat):Int) ((4:Nat):Int)=o at*;refine qU omQ ?_;refine qI rfl ?_;exact fin (((3:Nat):Int)+o,a,b,c,0) _ (.of (may_3 omQ omQ omQ omQ) (by dsimp only;omega) z0) H2
 ·exact fin (8,a,7,at_,0) _ (.of (Xu (.inl rfl) omQ omQ omQ) (by dsimp only;omega) z0) H2
 ·exact fin (8,a,7,at_,0) _ (.of (Xu (.inl rfl) omQ omQ omQ) (by dsimp only;omega) z0) H2
 ·exact fin (8,a,7,at_,0) _ (.of (Xu (.inl rfl) omQ omQ omQ) (by dsimp only;omega) z0) H2
 ·exact fin (9,7,b,at_,0) _ (.of (Xu (.inr rfl) omQ omQ omQ) (by dsimp only;omega) z0) H2
 ·exact fin (9,7,b,at_,0) _ (.of (Xu (.inr rfl) omQ omQ omQ) (by dsimp only;omega) z0) H2
 ·exact fin (9,7,b,at_,0) _ (.of (Xu (.inr rfl) omQ omQ omQ) (by dsimp only;omega) z0) H2
 ·refine qW (xQ omQ omQ omQ omQ) ?_;rintro _ _ ⟨rfl,rfl⟩;have ho:=zJ kx.2.2.2.1 (show(((0:Nat):Int))≤((3:Nat):Int) by omega);generalize jI kx.2.2.2.1 ((0:Nat):Int) ((3:Nat):Int)=o at*;refine qI rfl ?_;exact fin (8,a,b,o,0) _ (.of (Xu (.inl rfl) omQ omQ omQ) (by dsimp only;omega) z0) H2
 ·refine qW (xQ omQ omQ omQ omQ) ?_;rintro _ _ ⟨rfl,rfl⟩;have ho:=zJ kx.2.2.2.1 (show(((0:Nat):Int))≤((3:Nat):Int) by omega);generalize jI kx.2.2.2.1 ((0:Nat):Int) ((3:Nat):Int)=o at*;refine qI rfl ?_;exact fin (9,a,b,o,0) _ (.of (Xu (.inr rfl) omQ omQ omQ) (by dsimp only;omega) z0) H2
 ·exact fin (10,a,b,0,0) _ (.of (qWh omQ omQ) (by dsimp only;omega) z0) H2
 ·exact fin (10,a,b,0,0) _ (.of (qWh omQ omQ) (by dsimp only;omega) z0) H2
 ·exact fin (11,a,0,0,0) _ (.of (qW5 (.inl rfl) omQ) (by dsimp only;omega) z0) H2
 ·exact fin (8,a,7,at_,0) _ (.of (Xu (.inl rfl) omQ omQ omQ) (by dsimp only;omega) z0) H2
 ·exact fin (21,a,0,0,0) _ (.of (qW5 (.inr rfl) omQ) (by dsimp only;omega) z0) H2
end Go.Proofs.YtnalffoigcmnnaaGreatDoor
namespace Go.Proofs.YtnalffoigcmnnaaGreatDoor
open Go Go.Ae
set_option maxRecDepth 100000
variable {g h:AH} {L R:List SP}
theorem ZT (l:List Int):ql (l.map (AV.int .i64))=true:=by unfold ql;rw[List.all_eq_true];intro y hy;obtain⟨z,_,rfl⟩:=List.mem_map.1 hy;rfl
theorem gS (l:List qS) (st:List Int):(jC l st).length=st.length:=by simp[jC]
theorem ZR {l:List qS} {st:List Int} (hn:st≠[]):(jC l st)[st.length-1]? =some (opM l st):=by have hl:=List.length_pos_iff.2 hn;rw[OB hn,List.getLast?_eq_getElem?,gS,iW (by rw[gS];omega)];rfl
theorem KO {l:List qS} {st:List Int}:(kr l st).length=l.length+1:=by simp[kr]
theorem NQ {n:Nat} (hn:1≤n) {calm:Bool} {l:List qS} {st:List Int} {lv ov:AV} (B:Bld calm l st) (hne:st≠[]) (ho:opM l st=14∨opM l st=17∨opM l st=18) (hl:l.length≤1000)
  (H:HS g h (yD lv l::Xb ov (jC l st)::R)) :
  t_w n 40 [lv,ov] h λr h'=>∃lv' ov',r=.tup [lv',ov']∧HS g h' (yD lv' (kr l st)::Xb ov' (jC (kr l st) (J8 l st))::R):=by
 refine t_e2 (S:=S40) rfl omQ λk hk=>?_;unfold S40;try simp only[iZ]
 have hp:=List.length_pos_iff.2 hne;have h5:=B.five;have hol:=gS l st;have hat:=ZR (l:=l) hne;obtain⟨B2,hops⟩:=B.shut hne ho;rw[hops];have H0:HS g h (qD 74 5 l.length lv (l.flatMap q8)::qD 3 1 (jC l st).length ov ((jC l st).map (.int .i64))::R):=H;refine qs H0 e_1 ?_;rw[hol];refine jM omQ ?_;rw[show(st.length:Int)-((1:Nat):Int)=((st.length-1:Nat):Int) by omega];refine jA (H0.sl e_1) (x:=.int .i64 (opM l st)) (by rw[List.getElem?_map,hat];rfl) ?_;have hdl:(jC l st).dropLast=(jC l st).take (st.length-1):=by rw[List.dropLast_eq_take,hol]
 have tail:∀(op:Int),(opM l st=14∧op=15∨opM l st=18∧op=19)→
   wp (zN (α:=AV×AV×Unit→AH→Go.Ae.R) (λs5 h6=>some ((.tup [s5.2.1,s5.1]),h6)) λj7=>zx [(.int .i64 ((0:Nat):Int)),(.int .i64 ((0:Nat):Int)),(.int .i64 ((0:Nat):Int)),(.int .i64 ((0:Nat):Int)),(.int .u64 ((0:Nat):Int))] [(0,1,(.int .i64 op))] λv8=>
    zW h 74 [(.int .i64 ((0:Nat):Int)),(.int .i64 ((0:Nat):Int)),(.int .i64 ((0:Nat):Int)),(.int .i64 ((0:Nat):Int)),(.int .u64 ((0:Nat):Int))] 1 [(0,5,v8)] λv9 h10=>
    zU h10 74 5 lv v9 λv11 h12=>zd h12 3 1 ov none (some (.int .i64 ((st.length-1:Nat):Int))) λv13=>
    QC ov (some (3*65536+1)) v13 h10 h12 h.nx<| j7 (v13,v11,()) h12)
   λr h'=>∃lv' ov',r=.tup [lv',ov']∧HS g h' (yD lv' (kr l st)::Xb ov' ((jC l st).dropLast++(if opM l st=17 then[18]else[]))::R):=by
  intro op hop;refine qV ?_
  try dsimp only
  refine qI (l:=q8 (one op)) rfl ?_;refine qr (n:=1) (l:=q8 (one op)) (sz:=5) H0 rfl rfl rfl rfl λv9 h10 H10=>?_;have S:Sl (λ_=>True) h10 5 [one op].length v9 ([one op].flatMap q8):=H10.sl .here;refine wL (H10.sel (P:=yD lv l) e_1) S (by simp;omega) λv11 h12 H12=>?_;refine Ja (hi:=st.length-1) (H12.sel (P:=qD 3 1 (jC l st).length ov ((jC l st).map (.int .i64))) e_2) omQ omQ λv13 H13=>?_;refine qWD H10 (s:=e_2) H12 e_2 H0 e_1 omQ omQ rfl ?_;rw[Nat.mul_one,← List.map_take,← hdl]at H13;have h17:¬opM l st=17:=by omega
  rw[iQ h17,List.append_nil];refine qY ⟨v11,v13,rfl,?_⟩;have e:kr l st=l++[one op]:=by
   unfold kr yo;rcases hop with⟨h1,h2⟩ |⟨h1,h2⟩
   ·rw[h1,h2];rfl
   ·rw[h1,h2];rfl
  rw[e];unfold Xb;rw[show(jC l st).dropLast.length=st.length-1 by rw[List.length_dropLast,hol]];exact H13.sub (.cons e_1 (.cons .here (.drop .refl)))
 by_cases c14:opM l st=14
 ·refine qz c14 (qX ?_);exact tail 15 (.inl ⟨c14,rfl⟩)
 refine qZ c14 (qJ ?_);by_cases c17:opM l st=17
 ·refine qz c17 (qX ?_);refine Ja (hi:=st.length-1) (H0.sel (P:=qD 3 1 (jC l st).length ov ((jC l st).map (.int .i64))) e_1) omQ omQ λv15 H2=>?_;rw[Nat.mul_one,← List.map_take,← hdl]at H2;have hdn:(jC l st).dropLast.length=st.length-1:=by rw[List.length_dropLast,hol]
  have S:Sl (λ_=>True) h 1 (st.length-1) v15 ((jC l st).dropLast.map (.int .i64)):=H2.sl .here;refine zT (H2.nils (e:=3) (sz:=1)) S omQ omQ (ZT _) λv16 h3 H3=>?_;rw[List.nil_append,Nat.zero_add]at H3;refine qr (n:=1) (l:=[.int .i64 ((18:Nat):Int)]) (sz:=1) H3 rfl rfl rfl rfl λv18 h4 H4=>?_;refine zT (H4.sel e_1) (H4.sl .here) omQ omQ rfl λv20 h5 H5=>?_;refine qI (l:=q8 (one 18)) rfl ?_;refine qr (n:=1) (l:=q8 (one 18)) (sz:=5) H5 rfl rfl rfl rfl λv23 h6 H6=>?_;have S6:Sl (λ_=>True) h6 5 [one 18].length v23 ([one 18].flatMap q8):=H6.sl .here;refine wL (H6.sel (P:=yD lv l) e_4) S6 (by simp;omega) λv25 h7 H7=>?_;rw[iJ c17];refine qY ⟨v25,v20,rfl,?_⟩;have e:kr l st=l++[one 18]:=by unfold kr yo;rw[c17];rfl
  rw[e];unfold Xb;rw[List.length_append,hdn,List.map_append];exact H7.sub (.cons .here (.cons e_1 (.drop (.drop (.drop .refl)))))
 ·refine qZ c17 (qJ ?_);exact tail 19 (.inr ⟨by omega,rfl⟩)
def Qx (o:List Int):Nat:=(o.map λx=>if x=17 then 2 else 1).sum
theorem OY (a b:List Int):Qx (a++b)=Qx a+Qx b:=by simp[Qx]
theorem qj7 (o:List Int):Qx o≤2*o.length:=by
 induction o with
 |nil=>simp[Qx]
 |cons x o ih=>simp only[Qx,List.map_cons,List.sum_cons,List.length_cons]at*;split<;>omega
theorem qJ3 {l:List qS} {st:List Int} (hne:st≠[]):Qx ((jC l st).dropLast++(if opM l st=17 then[18]else[]))+1=Qx (jC l st):=by
 have h1:jC l st≠[]:=by intro h;have:=congrArg List.length h;rw[gS]at this;exact hne (iA this)
 have h2:=List.dropLast_concat_getLast h1;have h3:(jC l st).getLast h1=opM l st:=by rw[OB hne,List.getLast?_eq_some_getLast h1];rfl
 rw[h3]at h2;have h4:Qx (jC l st)=Qx (jC l st).dropLast+(if opM l st=17 then 2 else 1):=by
  conv=>lhs;rw[← h2]
  rw[OY];simp[Qx]
 rw[OY,h4]
 split
 ·simp[Qx]
 ·simp[Qx]
def OpsK (l:List qS) (st:List Int):Prop:=∀o∈jC l st,o=14∨o=17∨o=18
theorem OpsK.at {l:List qS} {st:List Int} (h:OpsK l st) (hne:st≠[]):opM l st=14∨opM l st=17∨opM l st=18:=h _ (List.mem_of_getElem? (ZR hne))
set_option maxHeartbeats 8000000 in
theorem qVI {n:Nat} (hn:5≤n) {calm:Bool} {ks:List qS} {kv:AV} {most:Int} (hN:∀x∈ks,0≤x.2.2.2.2∧x.2.2.2.2<18446744073709551616) (hm:1≤most∧most≤40) (H:HS g h R) (S:Rd g R 5 ks.length kv (ks.flatMap q8)) :
  t_w n 10 [kv,.int .i64 most,.bool calm] h λr h'=>∃lv l,r=.agg [lv]∧Bld calm l []∧0<l.length∧(l.length:Int)≤most∧HS g h' (yD lv l::R):=by
 refine t_e3 (S:=S10) rfl omQ λk hk=>?_;unfold S10;try simp only[iZ]
 refine qM H rfl λb0 h1 H1=>?_;clear H;have H1:=(H1.nils (e:=3) (sz:=1)).nils (e:=74) (sz:=5);refine jT [] (λs h'=>∃(l:List qS) (st:List Int) (lv ov:AV),s=(ov,lv,.ptr b0 0,())∧Bld calm l st∧OpsK l st∧(l.length:Int)+2*st.length≤most∧HS g h' (yD lv l::Xb ov (jC l st)::qk b0 [.nils]::R)) ?_ ?_
 rotate_left
 ·rintro s h2 ⟨l,st,lv,ov,rfl,B,OK,hle,H2⟩;dsimp only;have hW:(l.length:Int)+Qx (jC l st)≤most:=by
   have:=qj7 (jC l st);rw[gS]at this;omega
  refine jP (λm s h'=>∃(l:List qS) (st:List Int) (lv ov:AV),s=(ov,lv,.ptr b0 0,())∧m=Qx (jC l st)∧Bld calm l st∧OpsK l st∧(l.length:Int)+Qx (jC l st)≤most∧HS g h' (yD lv l::Xb ov (jC l st)::qk b0 [.nils]::R))
   ?_ (m:=Qx (jC l st)) (by show _<1000000000;omega) ⟨l,st,lv,ov,rfl,rfl,B,OK,hW,H2⟩
  clear H2 hW hle OK B st lv ov l;rintro m ih s h3 hih ⟨l,st,lv,ov,rfl,rfl,B,OK,hW,H⟩;dsimp only;have hol:=gS l st;refine qs (n:=(jC l st).length) (H:HS g h3 (yD lv l::qD 3 1 (jC l st).length ov ((jC l st).map (.int .i64))::qk b0 [.nils]::R)) e_1 ?_;rw[hol];by_cases h0:st=[]
  ·subst h0;refine xc osQ (qJ ?_);refine jT [] (λs h'=>∃(l:List qS) (lv:AV),s=(lv,.ptr b0 0,())∧Bld calm l []∧0<l.length∧(l.length:Int)≤most∧HS g h' (yD lv l::qk b0 [.nils]::R)) ?_ ?_
   ·intro j hj;refine qs (n:=l.length) (H:HS g h3 (qD 74 5 l.length lv (l.flatMap q8)::Xb ov (jC l [])::qk b0 [.nils]::R)) .here ?_;by_cases hl0:l.length=0
    ·refine qz omQ (qX ?_);obtain rfl:=iA hl0;refine qI (l:=q8 (1,0,0,0,1)) rfl ?_;refine qr (n:=1) (l:=q8 (1,0,0,0,1)) (sz:=5) H rfl rfl rfl rfl λv27 h4 H4=>?_;have S1:Sl (λ_=>True) h4 5 [((1,0,0,0,1):qS)].length v27 ([((1,0,0,0,1):qS)].flatMap q8):=H4.sl .here;refine wL (H4.sel (P:=yD lv []) e_1) S1 osQ λv29 h5 H5=>?_;refine hj _ _ ⟨_,v29,rfl,B.flat (x:=(1,0,0,0,1)) ⟨by decide,by decide,by decide,λ_=>by decide⟩ (by unfold Flat;decide) od,by simp,by simp;omega,H5.sub (.cons .here (.drop (.drop (.cons .here .refl))))⟩
    ·refine qZ omQ (qJ ?_);exact hj _ _ ⟨l,lv,rfl,B,by omega,by omega,H.sub (.cons .here (.drop (.cons .here .refl)))⟩
   ·rintro s h5 ⟨l,lv,rfl,B,hl0,hlm,H5⟩;dsimp only;have ol:=H5.one (e:=74) (sz:=5) (n:=l.length) .here;refine qI (l:=[lv]) (by simp only[vB,ol.1];rfl) ?_;refine qc H5 (b:=b0) e_1 rfl osQ (by show ql [lv]=true;simp[ql,ol.2]) λh6 H6=>?_;have H6:HS g h6 (qk b0 [lv]::yD lv l::R):=H6;refine qx (qE H6 (b:=b0) (off:=0) .here rfl omQ (l:=[lv]) rfl ?_);exact qY ⟨lv,l,rfl,B,hl0,hlm,H6.drop⟩
  ·have hp:=List.length_pos_iff.2 h0;refine xn omQ (qX ?_);refine qW (NQ omQ B h0 (OK.at h0) omQ H) ?_;rintro _ h4 ⟨lv',ov',rfl,H4⟩;obtain⟨B2,hops⟩:=B.shut h0 (OK.at h0);have hw:=qJ3 (l:=l) h0;rw[← hops]at hw;refine qw rfl (qw rfl ?_);refine hih (Qx (jC (kr l st) (J8 l st))) _ _ omQ ⟨_,_,lv',ov',rfl,rfl,B2,?_,by rw[KO];omega,H4⟩;intro o ho;rw[hops]at ho;rcases List.mem_append.1 ho with ho |ho
   ·exact OK o ((List.dropLast_sublist _).subset ho)
   ·split at ho
    ·rw[List.mem_singleton]at ho;omega
    ·cases ho
 intro j5 hj5;refine jP (λm s h'=>∃(i:Nat) (l:List qS) (st:List Int) (lv ov:AV),s=(.int .i64 (i:Int),ov,lv,.ptr b0 0,.bool calm,.int .i64 most,kv,())∧m=41-l.length∧i≤l.length∧Bld calm l st∧OpsK l st∧(l.length:Int)+2*st.length≤most∧HS g h' (yD lv l::Xb ov (jC l st)::qk b0 [.nils]::R))
  ?_ (m:=41) (by show _<1000000000;omega) ⟨0,[],[],.nils,.nils,rfl,rfl,by simp,Bld.nil calm,(λo ho=>by cases ho),by simp;omega,H1⟩
 clear H1;rintro m ih s h2 hih ⟨i,l,st,lv,ov,rfl,rfl,hil,B,OK,hle,H⟩;dsimp only;refine zD (S.sl H.drop.drop.drop) ?_;refine jt (λhlt=>qX ?_) λhge=>qJ (hj5 _ _ ⟨l,st,lv,ov,rfl,B,OK,hle,H⟩);have hlt:i<ks.length:=by omega
 refine zf (l:=q8 ks[i]) (S.sl H.drop.drop.drop) hlt omQ (kg (sz:=5) (λ_=>rfl) (iW hlt)) ?_;have hNi:=hN ks[i] (List.getElem_mem hlt);generalize ks[i]=kx at*;refine qM H rfl λb3 h3 H3=>qc H3 .here rfl (by show 0+5≤5;omega) rfl λh5 H5=>?_;have H5:HS g h5 (qk b3 (q8 kx)::yD lv l::Xb ov (jC l st)::qk b0 [.nils]::R):=H5;have H6:HS g h5 (qk b3 (q8 kx)::qD 74 5 l.length lv (l.flatMap q8)::qD 3 1 (jC l st).length ov ((jC l st).map (.int .i64))::qk b0 [.nils]::R):=H5;clear H H3;have hol:=gS l st;refine qs H6 e_2 ?_;rw[hol];refine qs H6 e_1 ?_;refine MM omQ (qU omQ (qU omQ ?_));refine yd (λhg=>qX (hj5 _ _ ⟨l,st,lv,ov,rfl,B,OK,hle,H5.drop⟩)) λhg=>qJ ?_;refine qQ (qG H5 (b:=b3) .here rfl ?_);refine qW (xQ omQ omQ omQ omQ) ?_;rintro _ h5 ⟨rfl,rfl⟩;have hwb:=zJ kx.1 (show(((0:Nat):Int))≤((40:Nat):Int) by omega);generalize jI kx.1 ((0:Nat):Int) ((40:Nat):Int)=w at*;refine jT [] (λs h'=>∃(l':List qS) (st':List Int) (lv' ov':AV),s=(.int .i64 (i:Int),ov',lv',.ptr b0 0,.bool calm,.int .i64 most,kv,())∧Bld calm l' st'∧OpsK l' st'∧(l'.length:Int)+2*st'.length≤most∧l.length<l'.length∧HS g h' (yD lv' l'::Xb ov' (jC l' st')::qk b0 [.nils]::R)) ?_ ?_
 rotate_left
 ·rintro s h7 ⟨l',st',lv',ov',rfl,B',OK',hle',hlt',H7⟩;dsimp only;refine qU omQ ?_;exact hih (41-l'.length) _ _ omQ ⟨i+1,l',st',lv',ov',rfl,rfl,by omega,B',OK',hle',H7⟩
 intro j hj;have hfive:=B.five;have hll:l.length≤100:=by omega
 have same:∀{t:List qS},OpsK (l++t) st:=λ{t} o ho=>OK o (by rw[Jh B.stok]at ho;exact ho);have hsame:∀{t:List qS},jC (l++t) st=jC l st:=Jh B.stok
 have dflt:wp (je h5 (.ptr b3 0) 5 λv218=>jw (callT tab qj k) (.fn 42 [] []) [v218] h5 λv219 h220=>zW h220 74 [(.int .i64 ((0:Nat):Int)),(.int .i64 ((0:Nat):Int)),(.int .i64 ((0:Nat):Int)),(.int .i64 ((0:Nat):Int)),(.int .u64 ((0:Nat):Int))] 1 [(0,5,v219)] λv221 h222=>
   zU h222 74 5 lv v221 λv223 h224=>j (.int .i64 (i:Int),ov,v223,.ptr b0 0,.bool calm,.int .i64 most,kv,()) h224 []) (λr h'=>∃lv l,r=.agg [lv]∧Bld calm l []∧0<l.length∧(l.length:Int)≤most∧HS g h' (yD lv l::R)):=by
  refine qE H5 (b:=b3) (off:=0) .here rfl omQ (l:=q8 kx) rfl ?_;refine qW (XC omQ hNi H5) ?_;rintro _ h7 ⟨x,rfl,hx,H7⟩;refine qr (n:=1) (l:=q8 x) (sz:=5) H7 rfl rfl rfl rfl λv8 h8 H8=>?_;have S1:Sl (λ_=>True) h8 5 [x].length v8 ([x].flatMap q8):=by simpa using H8.sl .here
  refine wL (H8.sel (P:=yD lv l) e_2) S1 (by simp;omega) λv9 h9 H9=>?_;refine hj _ _ ⟨l++[x],st,v9,ov,rfl,B.flat (hx.ok calm) hx.flat hx.nj,same,by simp;omega,by simp,?_⟩;rw[hsame];exact H9.sub (.cons .here (.drop (.drop (.cons .here (.cons .here .refl)))))
 have beg:∀op:Int,op=14∨op=17→st.length<5→wp (zW h5 74 [(.int .i64 ((0:Nat):Int)),(.int .i64 ((0:Nat):Int)),(.int .i64 ((0:Nat):Int)),(.int .i64 ((0:Nat):Int)),(.int .u64 ((0:Nat):Int))] 1 [(0,5,.agg (q8 (one op)))] λv63 h64=>zU h64 74 5 lv v63 λv65 h66=>
   zW h66 3 [(.int .i64 ((0:Nat):Int))] 1 [(0,1,(.int .i64 op))] λv67 h68=>zU h68 3 1 ov v67 λv69 h70=>j (.int .i64 (i:Int),v69,v65,.ptr b0 0,.bool calm,.int .i64 most,kv,()) h70 []) (λr h'=>∃lv l,r=.agg [lv]∧Bld calm l []∧0<l.length∧(l.length:Int)≤most∧HS g h' (yD lv l::R)):=by
  intro op hop hs5;refine qr (n:=1) (l:=q8 (one op)) (sz:=5) H5 rfl rfl rfl rfl λv8 h8 H8=>?_;have S1:Sl (λ_=>True) h8 5 [one op].length v8 ([one op].flatMap q8):=by simpa using H8.sl .here
  refine wL (H8.sel (P:=yD lv l) e_2) S1 (by simp;omega) λv9 h9 H9=>?_;refine qr (n:=1) (l:=[.int .i64 op]) (sz:=1) H9 rfl rfl rfl rfl λv10 h10 H10=>?_;refine zT (H10.sel (P:=qD 3 1 (jC l st).length ov ((jC l st).map (.int .i64))) e_4) (H10.sl .here) omQ omQ rfl λv11 h11 H11=>?_;obtain⟨B2,ho2⟩:=B.begin hop hs5;refine hj _ _ ⟨l++[one op],st++[(l.length:Int)],v9,v11,rfl,B2,?_,by simp;omega,by simp,?_⟩
  ·intro o ho;rw[ho2]at ho;rcases List.mem_append.1 ho with ho |ho
   ·exact OK o ho
   ·rw[List.mem_singleton]at ho;omega
  ·rw[ho2];unfold Xb;rw[List.length_append,List.map_append];exact H11.sub (.cons e_2 (.cons .here (.drop (.drop (.drop (.cons .here .refl))))))
 have shu:0<st.length→wp (jw (callT tab qj k) (.fn 40 [] []) [lv,ov] h5 λv98 h99=>jb v98 0 λv100=>jb v98 1 λv101=>j (.int .i64 (i:Int),v101,v100,.ptr b0 0,.bool calm,.int .i64 most,kv,()) h99 []) (λr h'=>∃lv l,r=.agg [lv]∧Bld calm l []∧0<l.length∧(l.length:Int)≤most∧HS g h' (yD lv l::R)):=by
  intro hp;have hne:=List.length_pos_iff.1 hp;refine qW (NQ omQ B hne (OK.at hne) omQ (H5.sub (L':=yD lv l::Xb ov (jC l st)::qk b3 (q8 kx)::qk b0 [.nils]::R) (.cons e_1 (.cons e_1 (.cons .here (.cons .here .refl)))))) ?_;rintro _ h7 ⟨lv',ov',rfl,H7⟩;obtain⟨B2,hops⟩:=B.shut hne (OK.at hne);have hsl:(J8 l st).length≤st.length:=by unfold J8;split<;>simp<;>omega
  refine qw rfl (qw rfl ?_);refine hj _ _ ⟨_,_,lv',ov',rfl,B2,?_,by rw[KO];omega,by rw[KO];omega,H7.sub (.cons .here (.cons .here (.drop (.cons .here .refl))))⟩;intro o ho;rw[hops]at ho;rcases List.mem_append.1 ho with ho |ho
  ·exact OK o ((List.dropLast_sublist _).subset ho)
  ·split at ho
   ·rw[List.mem_singleton]at ho;omega
   ·cases ho
 have und:opM l st=14→wp (zW h5 74 [(.int .i64 ((0:Nat):Int)),(.int .i64 ((0:Nat):Int)),(.int .i64 ((0:Nat):Int)),(.int .i64 ((0:Nat):Int)),(.int .u64 ((0:Nat):Int))] 1 [(0,5,.agg (q8 (one 16)))] λv8 h8=>zU h8 74 5 lv v8 λv9 h9=>j (.int .i64 (i:Int),ov,v9,.ptr b0 0,.bool calm,.int .i64 most,kv,()) h9 []) (λr h'=>∃lv l,r=.agg [lv]∧Bld calm l []∧0<l.length∧(l.length:Int)≤most∧HS g h' (yD lv l::R)):=by
  intro h14;refine qr (n:=1) (l:=q8 (one 16)) (sz:=5) H5 rfl rfl rfl rfl λv8 h8 H8=>?_;have S1:Sl (λ_=>True) h8 5 [one 16].length v8 ([one 16].flatMap q8):=by simpa using H8.sl .here
  refine wL (H8.sel (P:=yD lv l) e_2) S1 (by simp;omega) λv9 h9 H9=>?_;refine hj _ _ ⟨l++[one 16],st,v9,ov,rfl,B.undo h14,same,by simp;omega,by simp,?_⟩;rw[hsame];exact H9.sub (.cons .here (.drop (.drop (.cons .here (.cons .here .refl)))))
 have pair:∀(x y:qS) (h7:AH),HS g h7 (qk b3 (q8 kx)::yD lv l::Xb ov (jC l st)::qk b0 [.nils]::R)→Bld calm (l++[x,y]) st→(l.length:Int)+2*st.length+5≤most→wp (zW h7 74 [(.int .i64 ((0:Nat):Int)),(.int .i64 ((0:Nat):Int)),(.int .i64 ((0:Nat):Int)),(.int .i64 ((0:Nat):Int)),(.int .u64 ((0:Nat):Int))] 2 [(0,5,.agg (q8 x)),(5,5,.agg (q8 y))] λv8 h8=>
   zU h8 74 5 lv v8 λv9 h9=>j (.int .i64 (i:Int),ov,v9,.ptr b0 0,.bool calm,.int .i64 most,kv,()) h9 []) (λr h'=>∃lv l,r=.agg [lv]∧Bld calm l []∧0<l.length∧(l.length:Int)≤most∧HS g h' (yD lv l::R)):=by
  intro x y h7 H7 B7 hm7;refine qr (n:=2) (l:=q8 x++q8 y) (sz:=5) H7 rfl rfl rfl rfl λv8 h8 H8=>?_;have S1:Sl (λ_=>True) h8 5 [x,y].length v8 ([x,y].flatMap q8):=by simpa using H8.sl .here
  refine wL (H8.sel (P:=yD lv l) e_2) S1 (by simp;omega) λv9 h9 H9=>?_;refine hj _ _ ⟨l++[x,y],st,v9,ov,rfl,B7,same,by simp;omega,by simp,?_⟩;rw[hsame];exact H9.sub (.cons .here (.drop (.drop (.cons .here (.cons .here .refl)))))
 have zer:∀r:Int,0≤r∧r≤6→YQ calm (13,r,0,((l.length:Int)+((2:Nat):Int)),0):=λr hr=>⟨qKB omQ omQ,by show(13:Int)≠23;decide,by show(0:Int)≤0∧(0:Int)<18446744073709551616;decide,λ_=>by show(13:Int)≠20∧(13:Int)≠22∧(13:Int)≠12;decide⟩
 have two:∀op:Int,op=20∨op=22→calm=false→wp (jw (callT tab qj k) (.fn 41 [] []) [.int .i64 kx.2.1] h5 λv131 h132=>y7 lv λv133=>jv .add v133 (.int .i64 ((2:Nat):Int)) λv134=>
   zx [(.int .i64 ((0:Nat):Int)),(.int .i64 ((0:Nat):Int)),(.int .i64 ((0:Nat):Int)),(.int .i64 ((0:Nat):Int)),(.int .u64 ((0:Nat):Int))] [(0,1,(.int .i64 ((13:Nat):Int))),(1,1,v131),(3,1,v134)] λv135=>zx [(.int .i64 ((0:Nat):Int)),(.int .i64 ((0:Nat):Int)),(.int .i64 ((0:Nat):Int)),(.int .i64 ((0:Nat):Int)),(.int .u64 ((0:Nat):Int))] [(0,1,(.int .i64 op))] λv136=>
   zW h132 74 [(.int .i64 ((0:Nat):Int)),(.int .i64 ((0:Nat):Int)),(.int .i64 ((0:Nat):Int)),(.int .i64 ((0:Nat):Int)),(.int .u64 ((0:Nat):Int))] 2 [(0,5,v135),(5,5,v136)] λv8 h8=>zU h8 74 5 lv v8 λv9 h9=>j (.int .i64 (i:Int),ov,v9,.ptr b0 0,.bool calm,.int .i64 most,kv,()) h9 []) (λr h'=>∃lv l,r=.agg [lv]∧Bld calm l []∧0<l.length∧(l.length:Int)≤most∧HS g h' (yD lv l::R)):=by
  intro op hop hcal;refine qW (Jo omQ) ?_;rintro _ h5 ⟨rfl,rfl⟩;have hr:=zJ kx.2.1 (show(0:Int)≤6 by omega);refine qs (n:=l.length) H6 e_1 (qU omQ ?_);refine qI (l:=q8 (13,jI kx.2.1 0 6,0,((l.length:Int)+((2:Nat):Int)),0)) rfl ?_;refine qI (l:=q8 (one op)) rfl ?_;refine pair _ _ _ H5 (B.two (zer _ hr) ⟨by rcases hop with rfl |rfl<;>decide,by dsimp only;omega,by show(0:Int)≤0∧(0:Int)<18446744073709551616;decide,λhh=>by rw[hcal]at hh;cases hh⟩ (by show Flat 13;unfold Flat;decide) (by unfold Flat;dsimp only;omega) (λ_=>rfl) (λhh=>by dsimp only at hh;omega)) omQ
 have ovr:wp (zN (α:=AV×AV×AV×AV×AV×AV×AV×Unit→AH→Go.Ae.R) (λs180 h181=>j (s180.1,s180.2.1,s180.2.2.1,s180.2.2.2.1,s180.2.2.2.2.1,s180.2.2.2.2.2.1,s180.2.2.2.2.2.2.1,()) h181 []) λj182=>
   jw (callT tab qj k) (.fn 41 [] []) [.int .i64 kx.2.2.1] h5 λv185 h186=>y7 lv λv187=>jv .add v187 (.int .i64 ((2:Nat):Int)) λv188=>
   zx [(.int .i64 ((0:Nat):Int)),(.int .i64 ((0:Nat):Int)),(.int .i64 ((0:Nat):Int)),(.int .i64 ((0:Nat):Int)),(.int .u64 ((0:Nat):Int))] [(0,1,(.int .i64 ((13:Nat):Int))),(1,1,v185),(3,1,v188)] λv189=>je h186 (.ptr b3 0) 5 λv190=>jw (callT tab qj k) (.fn 42 [] []) [v190] h186 λv191 h192=>
   zW h192 74 [(.int .i64 ((0:Nat):Int)),(.int .i64 ((0:Nat):Int)),(.int .i64 ((0:Nat):Int)),(.int .i64 ((0:Nat):Int)),(.int .u64 ((0:Nat):Int))] 2 [(0,5,v189),(5,5,v191)] λv193 h194=>zU h194 74 5 lv v193 λv195 h196=>
   QC (.ptr b3 0) (some 5) v190 h5 h186 h5.nx<| j182 (.int .i64 (i:Int),ov,v195,.ptr b0 0,.bool calm,.int .i64 most,kv,()) h196) (λr h'=>∃lv l,r=.agg [lv]∧Bld calm l []∧0<l.length∧(l.length:Int)≤most∧HS g h' (yD lv l::R)):=by
  refine qV ?_
  try dsimp only
  refine qW (Jo omQ) ?_;rintro _ h5 ⟨rfl,rfl⟩;have hr:=zJ kx.2.2.1 (show(0:Int)≤6 by omega);refine qs (n:=l.length) H6 e_1 (qU omQ ?_);refine qI (l:=q8 (13,jI kx.2.2.1 0 6,0,((l.length:Int)+((2:Nat):Int)),0)) rfl ?_;refine qE H5 (b:=b3) (off:=0) .here rfl omQ (l:=q8 kx) rfl ?_;refine qW (XC omQ hNi H5) ?_;rintro _ h7 ⟨x,rfl,hx,H7⟩;refine qr (n:=2) (l:=q8 (13,jI kx.2.2.1 0 6,0,((l.length:Int)+((2:Nat):Int)),0)++q8 x) (sz:=5) H7 rfl rfl rfl rfl λv8 h8 H8=>?_;have S1:Sl (λ_=>True) h8 5 [((13,jI kx.2.2.1 0 6,0,((l.length:Int)+((2:Nat):Int)),0):qS),x].length v8 ([((13,jI kx.2.2.1 0 6,0,((l.length:Int)+((2:Nat):Int)),0):qS),x].flatMap q8):=by simpa using H8.sl .here
  refine wL (H8.sel (P:=yD lv l) e_2) S1 (by simp;omega) λv9 h9 H9=>?_;refine zb H5 (b:=b3) .here rfl H5 .here rfl rfl omQ (HS.lt H5 .here) ?_;refine hj _ _ ⟨_,st,v9,ov,rfl,B.two (zer _ hr) (hx.ok calm) (by show Flat 13;unfold Flat;decide) hx.flat (λ_=>rfl) (λhh=>by have:=hx.nj;omega),same,by simp;omega,by simp,?_⟩;rw[hsame];exact H9.sub (.cons .here (.drop (.drop (.cons .here (.cons .here .refl)))))
 have bak:calm=false→wp (zN (α:=AV×AV×AV×AV×AV×AV×AV×Unit→AH→Go.Ae.R) (λs180 h181=>j (s180.1,s180.2.1,s180.2.2.1,s180.2.2.2.1,s180.2.2.2.2.1,s180.2.2.2.2.2.1,s180.2.2.2.2.2.2.1,()) h181 []) λj182=>
   je h5 (.ptr b3 0) 5 λv205=>jw (callT tab qj k) (.fn 42 [] []) [v205] h5 λv206 h207=>qh (.ptr b3 0) 2 λv208=>jK h207 v208 λv209=>
   jw (callT tab qj k) (.fn 41 [] []) [v209] h207 λv210 h211=>y7 lv λv212=>
   zx [(.int .i64 ((0:Nat):Int)),(.int .i64 ((0:Nat):Int)),(.int .i64 ((0:Nat):Int)),(.int .i64 ((0:Nat):Int)),(.int .u64 ((0:Nat):Int))] [(0,1,(.int .i64 ((13:Nat):Int))),(1,1,v210),(3,1,v212)] λv213=>
   zW h211 74 [(.int .i64 ((0:Nat):Int)),(.int .i64 ((0:Nat):Int)),(.int .i64 ((0:Nat):Int)),(.int .i64 ((0:Nat):Int)),(.int .u64 ((0:Nat):Int))] 2 [(0,5,v206),(5,5,v213)] λv214 h215=>zU h215 74 5 lv v214 λv216 h217=>
   QC v208 none v209 h5 h207 h5.nx<| j182 (.int .i64 (i:Int),ov,v216,.ptr b0 0,.bool calm,.int .i64 most,kv,()) h217) (λr h'=>∃lv l,r=.agg [lv]∧Bld calm l []∧0<l.length∧(l.length:Int)≤most∧HS g h' (yD lv l::R)):=by
  intro hcal;refine qV ?_
  try dsimp only
  refine qE H5 (b:=b3) (off:=0) .here rfl omQ (l:=q8 kx) rfl ?_;refine qW (XC omQ hNi H5) ?_;rintro _ h7 ⟨x,rfl,hx,H7⟩;refine qQ (qG H7 (b:=b3) .here rfl ?_);refine qW (Jo omQ) ?_;rintro _ h7 ⟨rfl,rfl⟩;have hr:=zJ kx.2.2.1 (show(0:Int)≤6 by omega);have H7':HS g h7 (qk b3 (q8 kx)::qD 74 5 l.length lv (l.flatMap q8)::Xb ov (jC l st)::qk b0 [.nils]::R):=H7;refine qs (n:=l.length) H7' e_1 ?_;refine qI (l:=q8 (13,jI kx.2.2.1 0 6,0,(l.length:Int),0)) rfl ?_;refine qr (n:=2) (l:=q8 x++q8 (13,jI kx.2.2.1 0 6,0,(l.length:Int),0)) (sz:=5) H7 rfl rfl rfl rfl λv8 h8 H8=>?_;have S1:Sl (λ_=>True) h8 5 [x,((13,jI kx.2.2.1 0 6,0,(l.length:Int),0):qS)].length v8 ([x,((13,jI kx.2.2.1 0 6,0,(l.length:Int),0):qS)].flatMap q8):=by simpa using H8.sl .here
  refine wL (H8.sel (P:=yD lv l) e_2) S1 (by simp;omega) λv9 h9 H9=>?_;refine qp H5 (b:=b3) .here rfl H7 .here rfl (HS.lt H5 .here) ?_;refine hj _ _ ⟨l++[x,(13,jI kx.2.2.1 0 6,0,(l.length:Int),0)],st,v9,ov,rfl,B.two (hx.ok calm) ⟨qKB omQ omQ,by show(13:Int)≠23;decide,by show(0:Int)≤0∧(0:Int)<18446744073709551616;decide,λ_=>by show(13:Int)≠20∧(13:Int)≠22∧(13:Int)≠12;decide⟩ hx.flat (by show Flat 13;unfold Flat;decide) (λhh=>by have:=hx.nj;omega) (λ_=>⟨rfl,hcal⟩),same,by simp;omega,by simp,?_⟩;rw[hsame];exact H9.sub (.cons .here (.drop (.drop (.cons .here (.cons .here .refl)))))
 have hd:(w=20∧st.length<5)∨(w=20∧¬st.length<5)∨(w=21∧st.length<5)∨(w=21∧¬st.length<5)∨(w=22∧st.length<5)∨(w=22∧¬st.length<5)∨(w=23∧0<st.length)∨(w=23∧¬0<st.length)∨(w=24∧0<st.length)∨(w=24∧¬0<st.length)∨(w=25∧0<st.length)∨(w=25∧¬0<st.length)∨(w=26∧calm=true)∨(w=26∧calm=false∧0<st.length)∨(w=26∧calm=false∧¬0<st.length)∨(w=27∧calm=true)∨(w=27∧calm=false∧0<st.length)∨(w=27∧calm=false∧¬0<st.length)∨(w=28∧calm=true)∨(w=28∧calm=false)∨(w=29∧calm=true)∨(w=29∧calm=false)∨(w=30)∨(w=31)∨(w=32∧calm=true)∨(w=32∧calm=false)∨(w<20∨32<w):=by
  cases calm<;>simp only[reduceCtorEq,and_true,true_and,and_false,false_and,or_false,false_or]<;>omega
 rcases hd with⟨hw1,hs1⟩ |⟨hw1,hs1⟩ |⟨hw1,hs1⟩ |⟨hw1,hs1⟩ |⟨hw1,hs1⟩ |⟨hw1,hs1⟩ |⟨hw1,hs1⟩ |⟨hw1,hs1⟩ |⟨hw1,hs1⟩ |⟨hw1,hs1⟩ |⟨hw1,hs1⟩ |⟨hw1,hs1⟩ |⟨hw1,rfl⟩ |⟨hw1,rfl,hs1⟩ |⟨hw1,rfl,hs1⟩ |⟨hw1,rfl⟩ |⟨hw1,rfl,hs1⟩ |⟨hw1,rfl,hs1⟩ |⟨hw1,rfl⟩ |⟨hw1,rfl⟩ |⟨hw1,rfl⟩ |⟨hw1,rfl⟩ |hw1 |hw1 |⟨hw1,rfl⟩ |⟨hw1,rfl⟩ |hw1
 all_goals repeat (first |with_reducible refine qZ omQ ?_ |with_reducible refine qz omQ ?_ |(with_reducible refine qV ?_;try dsimp only) |(with_reducible refine qR ?_;try dsimp only) |(with_reducible refine qf ?_;try dsimp only) |(with_reducible refine qT ?_;try dsimp only) |(with_reducible refine qa ?_;try dsimp only) |with_reducible refine qC ?_ |with_reducible refine qF ?_ |with_reducible refine qX ?_ |with_reducible refine qJ ?_ |with_reducible refine zq omQ ?_ |with_reducible refine jo omQ ?_ |with_reducible refine xn omQ ?_ |with_reducible refine xc omQ ?_ |with_reducible refine qu ?_ |with_reducible refine jQ ?_ |with_reducible refine jM omQ ?_ |with_reducible refine qQ ?_ |(with_reducible refine jc ?_;try dsimp only) |with_reducible refine qG H6 .here rfl ?_ |with_reducible refine qI rfl ?_)
 ·exact beg 14 (.inl rfl) omQ
 ·exact dflt
 ·exact beg 17 (.inr rfl) omQ
 ·exact dflt
 ·exact beg 17 (.inr rfl) omQ
 ·exact dflt
 ·exact shu omQ
 ·exact dflt
 ·exact shu omQ
 ·exact dflt
 ·rw[show(st.length:Int)-((1:Nat):Int)=((st.length-1:Nat):Int) by omega];refine jA (H6.sl e_2) (x:=.int .i64 (opM l st)) (by rw[List.getElem?_map,ZR (List.length_pos_iff.1 hs1)];rfl) ?_;by_cases h14:opM l st=14
  ·refine qz h14 ?_;refine qC (qX (qI rfl ?_));exact und h14
  ·refine qZ h14 ?_;refine qC (qJ (qZ omQ ?_));refine qV ?_;(try dsimp only);refine qa ?_;(try dsimp only);refine qZ omQ ?_;refine qF (qV ?_);(try dsimp only);refine qT ?_;(try dsimp only);refine qF (qV ?_);(try dsimp only);refine qT ?_;(try dsimp only);refine qF (qJ (qZ omQ ?_));refine qV ?_;(try dsimp only);refine qT ?_;(try dsimp only);refine qF (qJ (qZ omQ ?_));refine qV ?_;(try dsimp only);refine qT ?_;(try dsimp only);refine qF (qJ (qZ omQ ?_));refine qV ?_;(try dsimp only);refine qa ?_;(try dsimp only);refine qZ omQ ?_;refine qF (qJ (qZ omQ ?_));refine qV ?_;(try dsimp only);refine qT ?_;(try dsimp only);refine qF (qJ ?_)
   exact dflt
 ·exact dflt
 ·exact dflt
 ·exact two 20 (.inl rfl) rfl
 ·exact dflt
 ·exact dflt
 ·exact two 20 (.inl rfl) rfl
 ·exact dflt
 ·exact dflt
 ·exact two 20 (.inl rfl) rfl
 ·exact dflt
 ·exact two 22 (.inr rfl) rfl
 ·exact ovr
 ·exact ovr
 ·exact dflt
 ·exact bak rfl
 ·exact dflt
end Go.Proofs.YtnalffoigcmnnaaGreatDoor
namespace Go.Proofs.YtnalffoigcmnnaaGreatDoor
open Go Go.Ae
set_option maxRecDepth 100000
variable {g h:AH} {L R:List SP}
theorem Xe {p:Int} {c:Cl} {l:List Cl}:j0 p (c::l)=if c.1=p then some c.2 else j0 p l:=rfl
theorem qQs (zs:List Int) {i:Nat} (h0:0<i) (h:i<szZ zs.length):j0 (i:Int) (kW zs)=some (xM zs i):=by
 have e:kW zs=(kW zs).take (i-1)++[((i:Int),xM zs i)]++(kW zs).drop i:=by have hk:=MP zs (show i-1+1<szZ zs.length by omega);rw[show i-1+1=i by omega]at hk;have:=List.take_add_one (l:=kW zs) (i:=i-1);rw[show i-1+1=i by omega,hk,Option.toList_some]at this;rw[← this,List.take_append_drop]
 have hg:∀(l1 l2:List Cl),j0 (i:Int) l1=none→j0 (i:Int) (l1++l2)=j0 (i:Int) l2:=by
  intro l1 l2
  induction l1 with
  |nil=>intro _;rfl
  |cons c l ih=>
   intro hn;rw[Xe]at hn
   split at hn
   ·cases hn
   ·rename_i hc;show j0 (i:Int) (c::(l++l2))=_;rw[Xe,iQ hc];exact ih hn
 rw[e,List.append_assoc,hg _ _ (qQb zs omQ)];show j0 (i:Int) (((i:Int),xM zs i)::_)=_;rw[Xe,iJ rfl]
theorem Qt {zs:List Int} {m:Int} (hz:∀z∈zs,0≤z∧z<18446744073709551616):jX (zt zs m):=by
 refine⟨qJu zs m,?_,?_⟩
 ·intro c hc;obtain⟨i,_,rfl⟩:=List.mem_map.1 hc;show 0≤xM zs (i+1)∧xM zs (i+1)<18446744073709551616;unfold xM;cases hzi:zs[i+1]? with
  |none=>simp
  |some z=>exact hz z (List.mem_of_getElem? hzi)
 ·intro x hx;simp[zt]at hx;subst hx;intro c hc;cases hc
theorem Gp {b o:Nat} {K:AV→Go.Ae.R} {Q:AV→AH→Prop} (w:wp (K (.bool false)) Q):wp (pEq .ptr false (.ptr b o) .nilp K) Q:=w
theorem qQL {b o:Nat} {K:AV→Go.Ae.R} {Q:AV→AH→Prop} (w:wp (K (.bool true)) Q):wp (pEq .ptr true (.ptr b o) .nilp K) Q:=w
theorem qYh {s:List UInt8} {K:AV→Go.Ae.R} {Q:AV→AH→Prop} (w:wp (K (.bool true)) Q):wp (UV .eql (.str s) (.str s) K) Q:=by show wp (K (.bool (seq? s s))) Q;rw[NT];exact w
theorem qXf (op a n:Int) (s:IM) (V:VM):(j4 op a n s V).blk=false:=by unfold j4;split<;>rfl
theorem M4 {mt:List Int} {s:IM} {V:VM} {x:qS} (h:1≤x.1∧x.1≤23) (h1:x.1≠20) (h3:x.1≠23):(doM mt s V x).blk=false:=by
 unfold doM;by_cases c1:x.1=1
 ·rw[iJ c1]
 rw[iQ c1];by_cases c2:x.1=2
 ·rw[iJ c2]
 rw[iQ c2];by_cases c3:x.1=3
 ·rw[iJ c3]
 rw[iQ c3];by_cases c4:x.1=4
 ·rw[iJ c4]
 rw[iQ c4];by_cases c5:x.1=5
 ·rw[iJ c5]
 rw[iQ c5];by_cases c6:x.1=6
 ·rw[iJ c6]
 rw[iQ c6];by_cases c7:x.1=7
 ·rw[iJ c7]
 rw[iQ c7];by_cases c12:x.1=12
 ·rw[iJ c12]
 rw[iQ c12];by_cases c13:x.1=13
 ·rw[iJ c13]
 rw[iQ c13];by_cases c21:x.1=21
 ·rw[iJ c21];split<;>rfl
 rw[iQ c21];by_cases c22:x.1=22
 ·rw[iJ c22]
 rw[iQ c22];by_cases c8:x.1=8∨x.1=9∨x.1=10∨x.1=11
 ·rw[iJ c8]
 rw[iQ c8];unfold gV;by_cases t1:x.1=14∨x.1=17
 ·rw[iJ t1];exact qXf ..
 rw[iQ t1];by_cases t2:x.1=15∨x.1=19
 ·rw[iJ t2]
 rw[iQ t2];by_cases t3:x.1=18
 ·rw[iJ t3]
 rw[iQ t3];by_cases t4:x.1=16
 ·rw[iJ t4]
 omega
def Calm (l:List qS):Prop:=∀x∈l,x.1≠20
theorem qGb {l:List qS} (F:Fit l) (Q:Quiet l) (C:Calm l):∀(n:Nat) {s:IM} {V:VM},GI l s V→frS V.lv+n<9000→(jZ l (qA l) n s V).kind≠3:=by
 intro n
 induction n with
 |zero=>
  intro s V G hf;rw[gJ]
  split
  ·show(2:Int)≠3;decide
  ·show(4:Int)≠3;decide
 |succ n ih=>
  intro s V G hf;rw[vt]
  split
  ·show(2:Int)≠3;decide
  ·rename_i h0;obtain⟨i,hi,hil⟩:=G.pc;have hlt:i<l.length:=by omega
   rw[hi];have S:=QE F G hi hlt omQ (Q.at hlt).2 (Q.at hlt).1;have hb:(doM (qA l) s V (qL l i)).blk=false:=by have hw:=xf (F.ok i hlt);have hb:=qQt hw.1 (Q.at hlt).1;refine M4 omQ ?_ (Q.at hlt).1;rw[xx hlt];exact C _ (List.getElem_mem hlt)
   generalize doM (qA l) s V (qL l i)=D at*;rw[hb]
   split
   ·rename_i h1;rw[iQ osQ];have hfr:=S.fr;exact ih (S.next h1 hb) omQ
   ·split
    ·show(1:Int)≠3;decide
    ·show(4:Int)≠3;decide
theorem qZI {l:List qS} (F:Fit l) (Q:Quiet l) {zs:List Int} {m:Int} {n:Nat} {s:IM} {V:VM} (G:GI l s V) (hK:V.K=kW zs) (hs:V.sz=szZ zs.length) (hf:frS V.lv+n<9000):(jZ l (qA l) n s V).kind≠1:=by intro h;obtain⟨_,_,_,d,_⟩:=Y2 F Q n G hf;obtain⟨_,d1,d2,d3⟩:=d h;generalize(jZ l (qA l) n s V).v.need=p at*;obtain⟨i,rfl⟩:∃i:Nat,p=i:=⟨p.toNat,by omega⟩;rw[hK,qQs zs omQ omQ]at d3;cases d3
theorem Gr {l:List qS} {zs:List Int} {m:Int} (hz:OkN zs):GI l J7 (zt zs m):=QD rfl (Qt hz)
theorem Ji (zs:List Int) (m:Int):frS (zt zs m).lv=0:=by simp[zt,frS]
section
variable {x y v u:Nat} {l l':List qS} {b b':Int} {mt mt':List Int} {s s':IM} {e e' f f' n1 n2 nx nx':Int} {V W:VM}
end
end Go.Proofs.YtnalffoigcmnnaaGreatDoor
namespace Go.Proofs.YtnalffoigcmnnaaGreatDoor
open Go Go.Ae
def jz:Qa→VM→(Int×Int)×Qa×VM
 | .prog q,V=>(((jZ q.l (qA q.l) q.left q.s V).kind,(jZ q.l (qA q.l) q.left q.s V).err),
   .prog ⟨q.l,(jZ q.l (qA q.l) q.left q.s V).s,if(jZ q.l (qA q.l) q.left q.s V).kind=1 then 0 else(jZ q.l (qA q.l) q.left q.s V).kind,(jZ q.l (qA q.l) q.left q.s V).err,(jZ q.l (qA q.l) q.left q.s V).left⟩,
   (jZ q.l (qA q.l) q.left q.s V).v)
 | .sweep bs k,V=>(if(jg V (bs.drop k) k).1.2=11 then(1,0)else if(jg V (bs.drop k) k).1.2=0 then(2,0)else(4,(jg V (bs.drop k) k).1.2),.sweep bs (jg V (bs.drop k) k).1.1,(jg V (bs.drop k) k).2)
theorem G5 (x:jG):yR x=((jz x.job x.v).1,{ x with job:=(jz x.job x.v).2.1,v:=(jz x.job x.v).2.2 }):=by unfold yR jz;cases x.job<;>rfl
theorem ZQ:∀(bs:List Int) (k:Nat) {V W:VM},zE V W→jX V→jX W→
  ((jg V bs k).1.2=11∧∃(j:Nat) (W':VM),(jg V bs k).1.1=k+j∧zE (jg V bs k).2 W'∧jX W'∧W'.K=W.K∧W'.sz=W.sz∧jg W bs k=jg W' (bs.drop j) (k+j))∨
  ((jg V bs k).1.2≠11∧(jg W bs k).1=(jg V bs k).1∧zE (jg V bs k).2 (jg W bs k).2):=by
 intro bs
 induction bs with
 |nil=>intro k V W h _ _;exact .inr ⟨by show(0:Int)≠11;decide,rfl,h⟩
 |cons b r ih=>
  intro k V W h GV GW;have hk:=YN (b:=b) GV.ok;rcases h.give b with h11 |⟨e,hp⟩
  ·left;have e0:jg V (b::r) k=((k,(zv V b).1),(zv V b).2):=iQ (by rw[h11];decide);have hn:=Yi h11;rw[e0];refine⟨h11,0,W,rfl,⟨hk.sz.trans h.sz,hk.most.trans h.most,hn.1.trans h.lv,λp x hx=>h.K p x (by rw[← hk.K];exact hx)⟩,GW,rfl,rfl,rfl⟩
  ·have kW:=YN (b:=b) GW.ok;by_cases h0:(zv V b).1=0
   ·have e1:jg V (b::r) k=jg (zv V b).2 r (k+1):=iJ h0;have e2:jg W (b::r) k=jg (zv W b).2 r (k+1):=iJ (by rw[← e];exact h0);rw[e1,e2];rcases ih (k+1) hp GV.give.1 GW.give.1 with⟨a,j,W',b1,b2,b3,b4,b5,b6⟩ |a
    ·refine .inl ⟨a,j+1,W',by omega,b2,b3,b4.trans kW.K,b5.trans kW.sz,?_⟩;rw[b6,List.drop_succ_cons,show k+1+j=k+(j+1) by omega]
    ·exact .inr a
   ·have e1:jg V (b::r) k=((k,(zv V b).1),(zv V b).2):=iQ h0;have e2:jg W (b::r) k=((k,(zv W b).1),(zv W b).2):=iQ (by rw[← e];exact h0);rw[e1,e2];by_cases h11:(zv V b).1=11
    ·left;have hn:=Yi h11;refine⟨h11,0,W,rfl,⟨hk.sz.trans h.sz,hk.most.trans h.most,hn.1.trans h.lv,λp x hx=>h.K p x (by rw[← hk.K];exact hx)⟩,GW,rfl,rfl,?_⟩;rw[List.drop_zero,Nat.add_zero,e2]
    ·exact .inr ⟨h11,by rw[← e],hp⟩
theorem qqr {j:Qa} {V W:VM} (h:zE V W) (GV:jX V) (GW:jX W) (hV:JobOk True V j) (hW:JobOk True W j) :
  ((jz j V).1.1=1∧∃W',zE (jz j V).2.2 W'∧jX W'∧W'.K=W.K∧W'.sz=W.sz∧JobOk True W' (jz j V).2.1∧jz j W=jz (jz j V).2.1 W')∨
  ((jz j V).1.1≠1∧(jz j W).1=(jz j V).1∧(jz j W).2.1=(jz j V).2.1∧zE (jz j V).2.2 (jz j W).2.2):=by
 cases j with
 |prog q=>
  obtain⟨F,Q,gb,hr,hl⟩:=hV;obtain⟨G,h0,h1,h2⟩:=hr trivial;obtain⟨GWi,_,_,h3⟩:=hW.2.2.2.1 trivial;rcases qKf F Q q.left G GWi h2 h with⟨k1,W',p,eK,eS,g,e⟩ |⟨k1,e1,e2,e3,e4,p⟩
  ·left;refine⟨k1,W',p,g.good,eK,eS,⟨F,Q,g.gb,λ_=>⟨g,iJ k1,qYO _ k1,?_⟩,?_⟩,?_⟩
   ·have:=qWI F Q q.left G h2 k1;show frS W'.lv+(jZ q.l (qA q.l) q.left q.s V).left<9000;rw[← p.lv];omega
   ·have:=qGB (l:=q.l) (mt:=qA q.l) q.left (s:=q.s) (V:=V);show(jZ q.l (qA q.l) q.left q.s V).left≤400;omega
   ·unfold jz;dsimp only;rw[← e]
  ·right;refine⟨k1,?_,?_,p⟩
   ·show((jZ q.l (qA q.l) q.left q.s W).kind,(jZ q.l (qA q.l) q.left q.s W).err)=_;rw[e1,e2];rfl
   ·show Qa.prog ⟨q.l,(jZ q.l (qA q.l) q.left q.s W).s,if(jZ q.l (qA q.l) q.left q.s W).kind=1 then 0 else(jZ q.l (qA q.l) q.left q.s W).kind,(jZ q.l (qA q.l) q.left q.s W).err,(jZ q.l (qA q.l) q.left q.s W).left⟩=_;rw[e1,e2,e3,e4];rfl
 |sweep bs k=>
  have hbk:=hV.1;rcases ZQ (bs.drop k) k h GV GW with⟨a,j,W',b1,b2,b3,b4,b5,b6⟩ |⟨a,e,p⟩
  ·left;have a4:=(NK (bs.drop k) k GV).2.2.2.1;rw[List.length_drop]at a4;refine⟨by unfold jz;dsimp only;rw[iJ a],W',b2,b3,b4,b5,⟨by show(jg V (bs.drop k) k).1.1≤bs.length;omega,hV.2⟩,?_⟩;unfold jz;dsimp only;rw[b6,b1,List.drop_drop]
  ·right;refine⟨?_,?_,?_,p⟩
   ·unfold jz;dsimp only;rw[iQ a]
    split
    ·decide
    ·exact(by decide:(4:Int)≠1)
   ·unfold jz;dsimp only;rw[e]
   ·unfold jz;dsimp only;rw[e]
section
variable {S:yv} {M:js} {me:Int}
structure KnM (M:js) (V:VM):Prop where
  sz:(V.sz:Int)=M.w.length
  K:∀p x,j0 p V.K=some x→x=qB M.w p
theorem qxr {zs:List Int} {p:Int} (hp:1≤p) (h:p<szZ zs.length):j0 p (kW zs)=some (qB zs p):=by obtain⟨i,rfl⟩:∃i:Nat,p=i:=⟨p.toNat,by omega⟩;rw[qQs zs omQ omQ];unfold xM qB;rw[Int.toNat_natCast]
theorem ZK (O:we S):∀(n:Nat) {M:js} {x:jG} {W:VM},yC S M me→x.v.sz≤x.v.K.length+1+n→x.me=me→x.set=S→x.c=none→x.stamp=M.n→wx S M x.r→wV x→JobOk True x.v x.job→zE x.v W→jX W→W.K=kW M.w→W.sz=szZ M.w.length→JobOk True W x.job→
  ∃(m:Nat) (y:jG),m≤3*n∧Stp m (xO x) M (ge y (jz x.job W).1.1 (jz x.job W).1.2) (bump M m)∧(jz x.job W).1.1≠1∧y.job=(jz x.job W).2.1∧zE y.v (jz x.job W).2.2∧
   y.me=me∧y.set=S∧y.c=none∧y.stamp=M.n∧wx S M y.r∧wV y∧y.begun=x.begun∧y.begin_=x.begin_∧y.blocking=x.blocking:=by
 intro n
 induction n using Nat.strongRecOn with
 |ind n ih=>
 intro M x W C hn hme hset hc hs hR B hj P GW hK hsz hjW;have D:=Gs B.good B.fr hj;rw[G5]at D;have hsame:=D.same;have hkept:=D.kept;rcases qqr P B.good GW hj hjW with⟨k1,W',p,gW,eK,eS,jW,e⟩ |⟨k1,e1,e2,p⟩
 ·obtain⟨n1,n2,n3⟩:=D.need k1;dsimp only at n1 n2 n3 hkept;generalize hp0:(jz x.job x.v).2.2.need=p0 at*;have hsz':(x.v.sz:Int)=M.w.length:=by
   have h1:=B.sz;have h2:=C.w;rw[h1,hset,h2]
  have hszN:szZ M.w.length=x.v.sz:=by rw[← hsz];exact P.sz.symm
  have hwS:p0<S.words:=by rw[← C.w,← hsz'];exact n2
  have ew:xO x=QA { x with job:=(jz x.job x.v).2.1,v:=(jz x.job x.v).2.2 } p0:=by unfold xO;rw[G5];unfold ge;rw[iJ k1];dsimp only;rw[hp0]
  have hgV':jX (jz x.job x.v).2.2:=D.good;obtain⟨F,hF⟩:=qkl O C (x:=QA { x with job:=(jz x.job x.v).2.1,v:=(jz x.job x.v).2.2 } p0) rfl hc (p:=p0) (by show kY x.me p0 (ofM p0 x.set.stripes x.set.wide) x.set.spins x.stamp=_;rw[hset];rfl) hs ⟨n1,hwS⟩ hR hp0;have hof:=qQA O (p:=p0) omQ;have hadd:=wx.add O C hR hof;have hw:0≤qB M.w p0∧qB M.w p0<18446744073709551616:=by
   have:=C.w;obtain⟨i,rfl⟩:∃i:Nat,p0=i:=⟨p0.toNat,by omega⟩;have hi:i<M.w.length:=by omega
   have e:=vU (a:=M.w) hi;exact C.wd _ (List.mem_of_getElem? e)
  have hkn:zP (jz x.job x.v).2.2 p0 (qB M.w p0)=(0,{ (jz x.job x.v).2.2 with K:=(jz x.job x.v).2.2.K++[(p0,qB M.w p0)] }):=qVM n1 (by rw[hkept.1];exact n2) (by rw[hkept.2.1];exact n3);have hK2:(zP (jz x.job x.v).2.2 p0 (qB M.w p0)).2.K.length=x.v.K.length+1:=by rw[hkn];dsimp only;rw[hkept.2.1];simp
  have hroom:=qxn (Kv (p:=p0) (x:=qB M.w p0) hgV'.ok);have hks:=(gc (V:=(jz x.job x.v).2.2) (p:=p0) (x:=qB M.w p0)).2;rw[hK2,hks,hkept.1]at hroom;have hlo:=B.good.ok.lo;obtain⟨n',rfl⟩:∃n',n=n'+1:=⟨n-1,by omega⟩;have B2:wV { QA { x with job:=(jz x.job x.v).2.1,v:=(jz x.job x.v).2.2 } p0 with f:=F,r:=(wk x.r (ofM p0 S.stripes S.wide,(jh M.l (ofM p0 S.stripes S.wide)).1)).2,v:=(zP (jz x.job x.v).2.2 p0 (qB M.w p0)).2 } :=
   ⟨B.set,J2 hgV' hw,by show((zP (jz x.job x.v).2.2 p0 (qB M.w p0)).2.sz:Int)=_;rw[hks,hkept.1];exact B.sz,by show frS (zP (jz x.job x.v).2.2 p0 (qB M.w p0)).2.lv<9000;rw[gc.1];exact D.fr,Xn B.r,((D.job.same λ_=>k1).know hw).same λh=>h.elim,λc h=>B.c c h⟩
  have P2:zE (zP (jz x.job x.v).2.2 p0 (qB M.w p0)).2 W':=by
   refine⟨hks.trans p.sz,?_,gc.1.trans p.lv,λq z hz=>?_⟩
   ·rw[hkn];exact p.most
   ·rw[hkn]at hz;dsimp only at hz;have hpn:j0 p0 (jz x.job x.v).2.2.K=none:=by rw[hkept.2.1];exact n3
    rw[← QK (v:=qB M.w p0) hpn,UJ]at hz;by_cases hq:q=p0
    ·rw[iJ hq]at hz;cases hz;rw[eK,hK,hq];exact qxr n1 (by rw[hszN];exact n2)
    ·rw[iQ hq]at hz;exact p.K q z hz
  obtain⟨m,y,m1,m2,m3,m4,m5,m6,m7,m8,m9,m10,m11,m12⟩:=ih n' omQ (M:=bump M 3) (x:={ QA { x with job:=(jz x.job x.v).2.1,v:=(jz x.job x.v).2.2 } p0 with f:=F,r:=(wk x.r (ofM p0 S.stripes S.wide,(jh M.l (ofM p0 S.stripes S.wide)).1)).2,v:=(zP (jz x.job x.v).2.2 p0 (qB M.w p0)).2 })
   (W:=W') (C.bump 3) (by show(zP (jz x.job x.v).2.2 p0 (qB M.w p0)).2.sz≤(zP (jz x.job x.v).2.2 p0 (qB M.w p0)).2.K.length+1+n';rw[hK2,hks,hkept.1];omega) hme hset hc hs ⟨hadd.2.at_,hadd.2.un⟩ B2 ((D.job.same λ_=>k1).know hw) P2 gW (eK.trans hK) (eS.trans hsz) jW
  refine⟨3+m,y,by omega,?_,?_⟩
  ·rw[ew,e];have:=hF.trans m2;rw[wT]at this;rw[Int.natCast_add];exact this
  ·rw[e];exact⟨m3,m4,m5,m6,m7,m8,m9,⟨m10.at_,m10.un⟩,m11,m12⟩
 ·refine⟨0,{ x with job:=(jz x.job x.v).2.1,v:=(jz x.job x.v).2.2 },Nat.zero_le _,?_,by rw[e1];exact k1,e2.symm,p,hme,hset,hc,hs,hR,?_,rfl,rfl,rfl⟩
  ·unfold xO;rw[G5,e1,show bump M ((0:Nat):Int)=M by unfold bump;simp];exact .nil
  ·exact⟨B.set,D.good,by show((jz x.job x.v).2.2.sz:Int)=_;rw[hkept.1];exact B.sz,D.fr,B.r,D.job.same λh=>h.elim,B.c⟩
end
end Go.Proofs.YtnalffoigcmnnaaGreatDoor
namespace Go.Proofs.YtnalffoigcmnnaaGreatDoor
open Go Go.Ae
section
variable {S:yv} {M:js} {me:Int}
theorem X9 {x:jG} {a:AnM} (h5:x.state=5) (ha:a.err=0):xB x a=xd { x with e:=xU x.e a }:=by unfold xB;rw[iQ omQ,iQ (by rw[ha];exact λh=>h rfl),iQ omQ,iQ omQ,iQ omQ,iQ omQ,iQ omQ,iQ omQ]
theorem KT {x:jG} (h5:x.state=5):z8 x=QY x.e:=by unfold z8;rw[iQ omQ,iQ omQ,iQ omQ,iQ omQ,iQ omQ,iQ omQ,iQ omQ]
theorem VT {x:jG} (h5:x.state=5) (hc:x.c=none) (hf:x.e.p.fin=2):xd x=xK { x with stamp:=x.e.stamp } 3 0 (-1):=by
 unfold xd;have h1:(zi x).1=2:=by unfold zi;rw[iQ omQ,iQ omQ];exact hf
 rw[h1,iQ od,iQ od];unfold xp;rw[iQ omQ,iQ omQ,iJ h5];unfold ve;rw[iQ (λh=>h hf)];unfold xV;rw[wQ (by exact hc)];rfl
theorem Ul {x:jG} (h5:x.state=5) (hc:x.c=none) (hf:x.e.p.fin=0):xd x=x :=
 XA (by unfold zi;rw[iQ omQ,iQ omQ];exact hf) (wQ hc)
theorem qWF {r:List xG} {n:Int}:∀(k:Nat) {M:js} {x:jG} {i:Nat} {p:Qw},yC S M me→wx S M r→x.state=5→x.c=none→x.e=⟨p,r,true,i,n⟩→p.fin=0→r.length=i+k+1→
  ∃E:kP,Stp (k+1) x M (xK { x with e:=E,stamp:=n } 3 0 (-1)) (bump M (k+1:Nat)):=by
 intro k
 induction k with
 |zero=>
  intro M x i p C R h5 hc he hp hl;have hi:i<r.length:=by omega
  have hm:=R.at_ _ (List.getElem_mem hi);have hat:zC r (i:Int)=r[i]:=by unfold zC;rw[Int.toNat_natCast,iW hi];rfl
  obtain⟨v,e,_,_⟩:=C.at ⟨hm.1,hm.2.1⟩;refine⟨{ x.e with at_:=(i:Int)+1,p:=jn p 2 0 (-1) },.step (o:=op0 3 r[i].1 0) ?_ (Gb C ⟨hm.1,hm.2.1⟩) ?_⟩
  ·rw[KT h5,he];unfold QY;dsimp only;rw[iQ (λh=>h hp),iQ od,hat]
  ·rw[X9 h5 rfl,he];have ex:xU ⟨p,r,true,i,n⟩ ⟨0,jh M.l r[i].1,false,0⟩=⟨jn p 2 0 (-1),r,true,(i:Int)+1,n⟩:=by
    unfold xU;have:(qn p ⟨0,jh M.l r[i].1,false,0⟩)=(decide (p.fin≠0),p):=by unfold qn;rw[iQ (λh=>h.2 rfl)]
    dsimp only;rw[this,e];dsimp only;rw[iQ (by rw[hp];decide),iQ od,iQ od,iQ (by rw[hat,hm.2.2,e];exact λh=>h rfl)];unfold QU;dsimp only;rw[iJ omQ]
   rw[ex];exact VT h5 hc rfl
 |succ k ih=>
  intro M x i p C R h5 hc he hp hl;have hi:i<r.length:=by omega
  have hm:=R.at_ _ (List.getElem_mem hi);have hat:zC r (i:Int)=r[i]:=by unfold zC;rw[Int.toNat_natCast,iW hi];rfl
  obtain⟨v,e,_,_⟩:=C.at ⟨hm.1,hm.2.1⟩;have s1:Stp 1 x M { x with e:=⟨p,r,true,((i+1:Nat):Int),n⟩ } (bump M 1):=by
   refine .step (o:=op0 3 r[i].1 0) ?_ (Gb C ⟨hm.1,hm.2.1⟩) ?_
   ·rw[KT h5,he];unfold QY;dsimp only;rw[iQ (λh=>h hp),iQ od,hat]
   ·rw[X9 h5 rfl,he];have ex:xU ⟨p,r,true,i,n⟩ ⟨0,jh M.l r[i].1,false,0⟩=⟨p,r,true,((i+1:Nat):Int),n⟩:=by
     unfold xU;have:(qn p ⟨0,jh M.l r[i].1,false,0⟩)=(decide (p.fin≠0),p):=by unfold qn;rw[iQ (λh=>h.2 rfl)]
     dsimp only;rw[this,e];dsimp only;rw[iQ (by rw[hp];decide),iQ od,iQ od,iQ (by rw[hat,hm.2.2,e];exact λh=>h rfl)];unfold QU;dsimp only;rw[iQ omQ];rfl
    rw[ex];exact Ul h5 hc hp
  obtain⟨E,t⟩:=ih (M:=bump M 1) (x:={ x with e:=⟨p,r,true,((i+1:Nat):Int),n⟩ }) (i:=i+1) (p:=p) (C.bump 1) ⟨R.at_,R.un⟩ h5 hc rfl hp omQ;have:=s1.trans t;rw[wT,show(1:Int)+((k+1:Nat):Int)=((k+1+1:Nat):Int) by omega,show 1+(k+1)=k+1+1 by omega]at this;exact⟨E,this⟩
theorem qX2 (C:yC S M me) {y:jG} (hc:y.c=none) (R:wx S M y.r) (hs:y.set.spins=y.set.spins):∃(m:Nat) (E:kP),m≤y.r.length+1∧Stp m (yY y 5) M (xK { y with e:=E,stamp:=M.n } 3 0 (-1)) (bump M m):=by
 have hn1:z8 (yY y 5)=some (op0 6 0 0):=by rw[KT rfl];rfl
 by_cases h0:y.r.length=0
 ·refine⟨1,{ UA y.me y.set.spins y.r with loaded:=true,stamp:=M.n,p:=jn (kR y.me y.set.spins) 2 0 (-1) },by omega,.step hn1 (Mm M) ?_⟩;rw[X9 rfl rfl];have ex:xU (yY y 5).e ⟨M.n,lk0,false,0⟩={ UA y.me y.set.spins y.r with loaded:=true,stamp:=M.n,p:=jn (kR y.me y.set.spins) 2 0 (-1) }:=by
   show QU _=_;unfold QU;rw[iJ (by show(0:Int)=(y.r.length:Int);omega)];rfl
  rw[ex];exact VT rfl hc rfl
 ·have s1:Stp 1 (yY y 5) M { yY y 5 with e:=⟨kR y.me y.set.spins,y.r,true,((0:Nat):Int),M.n⟩ } (bump M 1):=by
   refine .step hn1 (Mm M) ?_;rw[X9 rfl rfl];have ex:xU (yY y 5).e ⟨M.n,lk0,false,0⟩=⟨kR y.me y.set.spins,y.r,true,((0:Nat):Int),M.n⟩:=by show QU _=_;unfold QU;rw[iQ (by show¬(0:Int)=(y.r.length:Int);omega)];rfl
   rw[ex];exact Ul rfl hc rfl
  obtain⟨E,t⟩:=qWF (y.r.length-1) (M:=bump M 1) (x:={ yY y 5 with e:=⟨kR y.me y.set.spins,y.r,true,((0:Nat):Int),M.n⟩ }) (i:=0) (C.bump 1) ⟨R.at_,R.un⟩ rfl hc rfl rfl omQ;have:=s1.trans t;rw[wT,show(1:Int)+((y.r.length-1+1:Nat):Int)=((1+(y.r.length-1+1):Nat):Int) by omega]at this;exact⟨_,E,by omega,this⟩
inductive Jq:Nat→ju→js→ju→js→Prop
  |nil {c:ju} {M:js}:Jq 0 c M c M
  |cons {k:Nat} {c d:ju} {M N:js} {o:OpM} {a:AnM} {M1:js} {c1:ju} (hn:xC c=some o) (e:xW M o=(a,M1)) (h0:a.err=0) (h1:zV c a=c1) (h2:c1.p.fin=0) (r:Jq k c1 M1 d N):Jq (k+1) c M d N
theorem Jq.trans {a b:Nat} {x y z:ju} {M N O:js} (s:Jq a x M y N) (t:Jq b y N z O):Jq (a+b) x M z O:=by
 induction s with
 |nil=>rw[Nat.zero_add];exact t
 |cons hn e h0 h1 h2 _ ih=>rw[Nat.add_right_comm];exact .cons hn e h0 h1 h2 (ih t)
theorem Nd {x:jG} {c:ju} (h6:x.state=6) (hc:x.c=some c):z8 x=xC c:=by unfold z8;rw[iQ omQ,iQ omQ,iQ omQ,iQ omQ,iQ omQ,iQ omQ,iJ h6,hc];rfl
theorem N5 {x:jG} {a:AnM} {c:ju} (h6:x.state=6) (ha:a.err=0) (hc:x.c=some c):xB x a=xd { x with c:=some (zV c a) }:=by unfold xB;rw[iQ omQ,iQ (by rw[ha];exact λh=>h rfl),iQ omQ,iQ omQ,iQ omQ,iQ omQ,iQ omQ,iJ h6,hc];rfl
theorem qKF {k:Nat} {c d:ju} {N:js} (s:Jq k c M d N):∀{x:jG},x.state=6→x.c=some c→∃z,Stp k x M { x with c:=some d,stamp:=z } N:=by
 induction s with
 |nil=>intro x h6 hc;refine⟨x.stamp,?_⟩;have:x={ x with c:=x.c,stamp:=x.stamp }:=rfl;rw[← hc];exact .nil
 | @cons k c d M N o a M1 c1 hn e h0 h1 h2 _ ih=>
  intro x h6 hc;have ht:∃z,xB x a={ x with c:=some c1,stamp:=z }:=by
   rw[N5 h6 h0 hc,h1];unfold xd;have hf:(zi { x with c:=some c1 }).1=0:=by unfold zi;rw[iQ (by show¬x.state=3;omega),iJ (by exact h6)];exact h2
   rw[iJ hf];unfold xV
   split
   ·exact⟨vO c1,rfl⟩
   ·exact⟨x.stamp,rfl⟩
  obtain⟨z,hz⟩:=ht;obtain⟨z',hz'⟩:=ih (x:={ x with c:=some c1,stamp:=z }) h6 rfl;refine⟨z',.cons (o:=o) (by rw[Nd h6 hc];exact hn) ?_⟩;rw[e];dsimp only;rw[hz];exact hz'
theorem qGr {x:jG} {c c1:ju} {o:OpM} {a:AnM} {N:js} (h6:x.state=6) (hc:x.c=some c) (hn:xC c=some o) (e:xW M o=(a,N)) (h0:a.err=0) (h1:zV c a=c1) (h2:c1.p.fin=2) (he:c1.p.err=0):Stp 1 x M { xK { x with c:=some c1 } 2 0 (-1)with stamp:=vO c1 } N:=by
 refine .step (by rw[Nd h6 hc];exact hn) e ?_;rw[N5 h6 h0 hc,h1];unfold xd;have hf:(zi { x with c:=some c1 }).1=2:=by unfold zi;rw[iQ (by show¬x.state=3;omega),iJ (by exact h6)];exact h2
 rw[hf,iQ od,iQ od];unfold xp;rw[iQ (by show¬x.state=3;omega),iQ (by show¬x.state=4;omega),iQ (by show¬x.state=5;omega)];dsimp only;rw[h2,he];unfold xV;rw[iJ (by show(decide ((7:Int)≠8)&&(gC c1||decide (c1.p.fin=2)))=true;rw[h2];simp)];rfl
end
end Go.Proofs.YtnalffoigcmnnaaGreatDoor
namespace Go.Proofs.YtnalffoigcmnnaaGreatDoor
open Go Go.Ae
theorem qVu {l:List LkM} {a b:Int} {x:LkM} (ha:0≤a) (hb:0≤b) (hl:a<l.length):jh (l.set a.toNat x) b=if a=b then x else jh l b:=by
 unfold jh;rw[List.getElem?_set];by_cases h:a=b
 ·rw[iJ (by rw[h]),iJ omQ,iJ h];rfl
 ·rw[iQ omQ,iQ h]
def xR (me:Int) (l:List LkM) (ss:List Int):List LkM:=ss.foldl (λl s=>l.set s.toNat ((jh l s).1,true,me)) l
def gK (n:Int) (l:List LkM) (ss:List Int):List LkM:=ss.foldl (λl s=>l.set s.toNat (n,false,0)) l
def ka (w:List Int) (cs:List Cl):List Int:=cs.foldl (λw c=>w.set c.1.toNat c.2) w
theorem wR {me:Int}:∀{ss:List Int} {l:List LkM},(xR me l ss).length=l.length:=by
 intro ss
 induction ss with
 |nil=>intro l;rfl
 |cons s r ih=>intro l;exact ih.trans (List.length_set ..)
theorem Yd {n:Int}:∀{ss:List Int} {l:List LkM},(gK n l ss).length=l.length:=by
 intro ss
 induction ss with
 |nil=>intro l;rfl
 |cons s r ih=>intro l;exact ih.trans (List.length_set ..)
theorem OU:∀{cs:List Cl} {w:List Int},(ka w cs).length=w.length:=by
 intro cs
 induction cs with
 |nil=>intro l;rfl
 |cons s r ih=>intro l;exact ih.trans (List.length_set ..)
theorem NB {me:Int} {b:Int} (hb:0≤b):∀{ss:List Int} {l:List LkM},(∀s∈ss,0≤s∧s<l.length)→b∉ss→jh (xR me l ss) b=jh l b:=by
 intro ss
 induction ss with
 |nil=>intro l _ _;rfl
 |cons s r ih=>intro l h hn;have hs:=h s (iK ..);show jh (xR me (l.set s.toNat ((jh l s).1,true,me)) r) b=_;rw[ih (λt ht=>by rw[List.length_set];exact h t (iX _ ht)) (λht=>hn (iX _ ht)),qVu hs.1 hb hs.2,iQ (λe=>hn (by rw[e];exact iK ..))]
theorem qYe {n:Int} {b:Int} (hb:0≤b):∀{ss:List Int} {l:List LkM},(∀s∈ss,0≤s∧s<l.length)→jh (gK n l ss) b=if b∈ss then(n,false,0)else jh l b:=by
 intro ss
 induction ss with
 |nil=>intro l _;rfl
 |cons s r ih=>
  intro l h;have hs:=h s (iK ..);show jh (gK n (l.set s.toNat (n,false,0)) r) b=_;rw[ih (λt ht=>by rw[List.length_set];exact h t (iX _ ht)),qVu hs.1 hb hs.2];by_cases h1:b∈r
  ·rw[iJ h1,iJ (iX _ h1)]
  ·rw[iQ h1];by_cases h2:s=b
   ·rw[iJ h2,iJ (by rw[h2];exact iK ..)]
   ·rw[iQ h2,iQ (λh=>by rcases List.mem_cons.1 h with h |h;exact h2 h.symm;exact h1 h)]
theorem qJo {me:Int} {l:List LkM} {a:List Int} {s:Int}:xR me l (a++[s])=(xR me l a).set s.toNat ((jh (xR me l a) s).1,true,me):=by unfold xR;rw[List.foldl_append];rfl
theorem qZ0 {n:Int} {l:List LkM} {a:List Int} {s:Int}:gK n l (a++[s])=(gK n l a).set s.toNat (n,false,0):=by unfold gK;rw[List.foldl_append];rfl
theorem qGp {w:List Int} {a:List Cl} {c:Cl}:ka w (a++[c])=(ka w a).set c.1.toNat c.2:=by unfold ka;rw[List.foldl_append];rfl
section
variable {S:yv} {M:js} {me:Int}
theorem qVn {p:Qw} {a:AnM} (hp:p.fin=0) (ha:a.err=0):qn p a=(false,p):=by
 unfold qn;rw[iQ (λh=>h.2 ha)]
 congr 1
 exact iV (λh=>h hp)
theorem gM {c:ju} {a:AnM} (hp:c.p.fin=0) (ha:a.err=0):zV c a=if c.state=0∨c.state=1 then wI c a
 else if c.state=2∨c.state=3 then gZ c a
 else if c.state=4 then gg c a.lk
 else if c.state=5 then yE { c with at_:=c.at_+1 }
 else if c.state=6 then ya { c with at_:=c.at_+1 }
 else vh { c with at_:=c.at_+1 }:=by
 unfold zV;rw[qVn hp ha];rfl
theorem qjF {M N:js} {o:OpM} {a:AnM} (hk:o.kind=1∨o.kind=2) (e:J5 M o=(a,N)) (h0:a.err=0):xW M o=(a,{ N with cnt:=N.cnt+1 }):=by
 have e':yS M o=(a,N):=by unfold yS;rw[iJ hk,e]
 rw[wh,e'];exact iJ h0
theorem Md {M N:js} {o:OpM} {a:AnM} (hk:o.kind=3∨o.kind=4∨o.kind=5) (e:kT M o=(a,N)) (h0:a.err=0):xW M o=(a,{ N with cnt:=N.cnt+1 }):=by
 have e':yS M o=(a,N):=by unfold yS;rw[iQ omQ,iJ hk,e]
 rw[wh,e'];exact iJ h0
theorem qzP {M N:js} {o:OpM} {a:AnM} (hk:o.kind=6∨o.kind=7) (e:J4 M o=(a,N)) (h0:a.err=0):xW M o=(a,{ N with cnt:=N.cnt+1 }):=by
 have e':yS M o=(a,N):=by unfold yS;rw[iQ omQ,iQ omQ,iJ hk,e]
 rw[wh,e'];exact iJ h0
theorem JU {α:Type} {l:List α} {i:Nat} (h:i<l.length):l.take (i+1)=l.take i++[l[i]]:=by rw[List.take_add_one,iW h];rfl
theorem qZB (C:yC S M me) (h4:S.threads≤4) {c:ju} (hme:c.me=me) (hp:c.p.fin=0) (hss:∀s∈c.s,0≤s∧s<S.stripes) (hr:c.s.Pairwise (· < ·)):∀(k:Nat) {i:Nat} {L:LkM} {z:Int},c.s.length=i+k→0<k→
  ∃L',Jq (2*k) { c with was:=(c.s.take i).map (jh M.l),lk:=L,state:=0 } { M with l:=xR me M.l (c.s.take i),cnt:=z } { c with was:=c.s.map (jh M.l),lk:=L',state:=2 } { M with l:=xR me M.l c.s,cnt:=z+(2*k:Nat) }:=by
 intro k
 induction k with
 |zero=>intro _ _ _ _ h;omega
 |succ k ih=>
  intro i L z hl _;have hi:i<c.s.length:=by omega
  have hmem:=List.getElem_mem hi;have hsi:=hss _ hmem;have hlen:=C.l;have hwl:((c.s.take i).map (jh M.l)).length=i:=by simp;omega
  have hnum:qB c.s (i:Int)=c.s[i]:=by unfold qB;rw[Int.toNat_natCast,iW hi];rfl
  have hnot:c.s[i]∉c.s.take i:=λh=>by
   obtain⟨j,hj⟩:=List.getElem?_of_mem h;have hjl:=(List.getElem?_eq_some_iff.1 hj).1;simp at hjl;rw[List.getElem?_take_of_lt omQ,iW omQ]at hj;have:=List.pairwise_iff_getElem.1 hr j i omQ hi omQ;have:=Option.some.inj hj;omega
  obtain⟨v,ev,v0,v1⟩:=C.at hsi;have hho:=NB (me:=me) (b:=c.s[i]) hsi.1 (ss:=c.s.take i) (l:=M.l) (λs hs=>by have:=hss s (List.mem_of_mem_take hs);omega) hnot;have hn:=C.n;have hm:=C.me;have d1:xW { M with l:=xR me M.l (c.s.take i),cnt:=z } (op0 3 c.s[i] 0)=(⟨0,(v,false,0),false,0⟩,{ M with l:=xR me M.l (c.s.take i),cnt:=z+1 }):=by
   have e:kT { M with l:=xR me M.l (c.s.take i),cnt:=z } (op0 3 c.s[i] 0)=(⟨0,(v,false,0),false,0⟩,{ M with l:=xR me M.l (c.s.take i),cnt:=z }):=by unfold kT;rw[iQ (by show¬(c.s[i]<0∨((xR me M.l (c.s.take i)).length:Int)≤c.s[i]);rw[wR];omega),iJ (by rfl)];show((⟨0,jh (xR me M.l (c.s.take i)) c.s[i],false,0⟩:AnM),_)=_;rw[hho,ev]
   exact Md (.inl rfl) e rfl
  have t1:zV { c with was:=(c.s.take i).map (jh M.l),lk:=L,state:=0 } ⟨0,(v,false,0),false,0⟩={ c with was:=(c.s.take i).map (jh M.l),lk:=(v,false,0),state:=1 }:=by rw[gM (by exact hp) rfl,iJ (.inl rfl)];unfold wI;rw[iQ (λh=>by cases h.2),iJ (by rfl)]
  have d2:xW { M with l:=xR me M.l (c.s.take i),cnt:=z+1 } ⟨4,c.s[i],0,0,(v,false,0),(v,true,me)⟩=(⟨0,lk0,true,0⟩,{ M with l:=xR me M.l (c.s.take (i+1)),cnt:=z+2 }):=by
   have e:kT { M with l:=xR me M.l (c.s.take i),cnt:=z+1 } ⟨4,c.s[i],0,0,(v,false,0),(v,true,me)⟩=(⟨0,lk0,true,0⟩,{ M with l:=xR me M.l (c.s.take (i+1)),cnt:=z+1 }):=by
    unfold kT
    rw[iQ (by show¬(c.s[i]<0∨((xR me M.l (c.s.take i)).length:Int)≤c.s[i]);rw[wR];omega),iQ (by show¬(4:Int)=3;decide),iQ (by
     show¬¬YA (v,true,me)
     exact λh=>h (Vo.2 ⟨by omega,by omega,by omega⟩)),iQ (by show¬(4:Int)=5;decide),iQ (by show¬jh (xR me M.l (c.s.take i)) c.s[i]≠(v,false,0);rw[hho,ev];exact λh=>h rfl)]
    rw[JU hi,qJo,hho,ev]
   have:=Md (.inr (.inl rfl)) e rfl;rw[this];show(_,({ M with l:=xR me M.l (c.s.take (i+1)),cnt:=z+1+1 }:js))=_;rw[Int.add_assoc];rfl
  have was1:(c.s.take i).map (jh M.l)++[(v,false,0)]=(c.s.take (i+1)).map (jh M.l):=by rw[JU hi,List.map_append,List.map_singleton,ev]
  have wl1:((c.s.take (i+1)).map (jh M.l)).length=i+1:=by simp;omega
  have t2:zV { c with was:=(c.s.take i).map (jh M.l),lk:=(v,false,0),state:=1 } ⟨0,lk0,true,0⟩={ c with was:=(c.s.take (i+1)).map (jh M.l),lk:=(v,false,0),state:=if i+1=c.s.length then 2 else 0 }:=by rw[gM (by exact hp) rfl,iJ (.inr rfl)];unfold wI;rw[iQ (λh=>by cases h.1),iQ (by show¬(1:Int)=0;decide),iJ (by rfl)];unfold ky;dsimp only;rw[was1,wl1]
  have n1:xC { c with was:=(c.s.take i).map (jh M.l),lk:=L,state:=0 }=some (op0 3 c.s[i] 0):=by unfold xC;rw[iQ (λh=>h hp),iJ (by rfl)];dsimp only;rw[hwl,hnum]
  have n2:xC { c with was:=(c.s.take i).map (jh M.l),lk:=(v,false,0),state:=1 }=some ⟨4,c.s[i],0,0,(v,false,0),(v,true,me)⟩:=by unfold xC;rw[iQ (λh=>h hp),iQ (by show¬(1:Int)=0;decide),iJ (by rfl)];dsimp only;rw[hwl,hnum,hme]
  have two:∀{k':Nat} {d:ju} {N:js},Jq k' { c with was:=(c.s.take (i+1)).map (jh M.l),lk:=(v,false,0),state:=if i+1=c.s.length then 2 else 0 } { M with l:=xR me M.l (c.s.take (i+1)),cnt:=z+2 } d N→
    Jq (k'+1+1) { c with was:=(c.s.take i).map (jh M.l),lk:=L,state:=0 } { M with l:=xR me M.l (c.s.take i),cnt:=z } d N:=λr=>.cons n1 d1 rfl t1 hp (.cons n2 d2 rfl t2 hp r)
  by_cases hk:k=0
  ·subst hk;refine⟨(v,false,0),two ?_⟩;rw[iJ omQ,List.take_of_length_le omQ];exact .nil
  ·rw[iQ omQ]at two;obtain⟨L',r⟩:=ih (i:=i+1) (L:=(v,false,0)) (z:=z+2) omQ omQ;refine⟨L',?_⟩;have:=two r;rw[show 2*(k+1)=2*k+1+1 by omega,show z+((2*k+1+1:Nat):Int)=z+2+((2*k:Nat):Int) by omega];exact this
theorem qZE {c:ju} (hp:c.p.fin=0) (h0:c.s≠[]) (hcs:∀q∈c.cells,1≤q.1∧q.1<M.w.length):∀(k:Nat) {i:Nat} {z:Int},c.cells.length=i+k→0<k→
  Jq k { c with state:=5,at_:=(i:Int) } { M with w:=ka M.w (c.cells.take i),cnt:=z } { c with state:=6,at_:=0 } { M with w:=ka M.w c.cells,cnt:=z+(k:Nat) }:=by
 intro k
 induction k with
 |zero=>intro _ _ _ h;omega
 |succ k ih=>
  intro i z hl _;have hi:i<c.cells.length:=by omega
  have hci:=hcs _ (List.getElem_mem hi);have hcell:wz c.cells (i:Int)=c.cells[i]:=by unfold wz;rw[Int.toNat_natCast,iW hi];rfl
  have n1:xC { c with state:=5,at_:=(i:Int) }=some (op0 2 c.cells[i].1 c.cells[i].2):=by unfold xC;rw[iQ (λh=>h hp),iQ (by show¬(5:Int)=0;decide),iQ (by show¬(5:Int)=1;decide),iQ (by show¬(5:Int)=2;decide),iQ (by show¬(5:Int)=3;decide),iQ (by show¬(5:Int)=4;decide),iJ (by rfl)];dsimp only;rw[hcell]
  have d1:xW { M with w:=ka M.w (c.cells.take i),cnt:=z } (op0 2 c.cells[i].1 c.cells[i].2)=(an0,{ M with w:=ka M.w (c.cells.take (i+1)),cnt:=z+1 }):=by
   have e:J5 { M with w:=ka M.w (c.cells.take i),cnt:=z } (op0 2 c.cells[i].1 c.cells[i].2)=(an0,{ M with w:=ka M.w (c.cells.take (i+1)),cnt:=z }):=by unfold J5;rw[iQ (by show¬(c.cells[i].1<1∨((ka M.w (c.cells.take i)).length:Int)≤c.cells[i].1);rw[OU];omega),iQ (by show¬(2:Int)=1;decide)];rw[JU hi,qGp];rfl
   exact qjF (.inr rfl) e rfl
  have t1:zV { c with state:=5,at_:=(i:Int) } an0=if i+1=c.cells.length then{ c with state:=6,at_:=0 }else{ c with state:=5,at_:=((i+1:Nat):Int) }:=by
   rw[gM (by exact hp) rfl,iQ (by show¬((5:Int)=0∨(5:Int)=1);decide),iQ (by show¬((5:Int)=2∨(5:Int)=3);decide),iQ (by show¬(5:Int)=4;decide),iJ (by rfl)];unfold yE;dsimp only;by_cases h:i+1=c.cells.length
   ·rw[iJ omQ,iJ h];unfold ya;dsimp only;have:0<c.s.length:=List.length_pos_iff.2 h0;rw[iQ omQ]
   ·rw[iQ omQ,iQ h];rfl
  by_cases hk:k=0
  ·subst hk;rw[iJ omQ]at t1;rw[show c.cells.take (i+1)=c.cells from List.take_of_length_le omQ]at d1;exact .cons n1 d1 rfl t1 hp .nil
  ·rw[iQ omQ]at t1;have r:=ih (i:=i+1) (z:=z+1) omQ omQ;rw[show z+((k+1:Nat):Int)=z+1+((k:Nat):Int) by omega];exact .cons n1 d1 rfl t1 hp r
theorem qXP {c:ju} (hp:c.p.fin=0) (hnow:0≤c.now∧c.now<4611686018427387903) (hss:∀s∈c.s,0≤s∧s<M.l.length):∀(k:Nat) {i:Nat} {z:Int},c.s.length=i+k+1→
  Jq k { c with state:=6,at_:=(i:Int) } { M with l:=gK (c.now+1) M.l (c.s.take i),cnt:=z } { c with state:=6,at_:=(c.s.length-1:Nat) } { M with l:=gK (c.now+1) M.l (c.s.take (c.s.length-1)),cnt:=z+(k:Nat) }∧
  (xC { c with state:=6,at_:=(c.s.length-1:Nat) }=some ⟨5,qB c.s (c.s.length-1:Nat),0,0,lk0,(c.now+1,false,0)⟩∧
   xW { M with l:=gK (c.now+1) M.l (c.s.take (c.s.length-1)),cnt:=z+(k:Nat) } ⟨5,qB c.s (c.s.length-1:Nat),0,0,lk0,(c.now+1,false,0)⟩=(an0,{ M with l:=gK (c.now+1) M.l c.s,cnt:=z+(k+1:Nat) })∧
   zV { c with state:=6,at_:=(c.s.length-1:Nat) } an0={ c with state:=6,at_:=(c.s.length:Nat),p:=jn c.p 2 0 (-1) }):=by
 have step:∀{i:Nat} {z:Int},i<c.s.length→xC { c with state:=6,at_:=(i:Int) }=some ⟨5,qB c.s i,0,0,lk0,(c.now+1,false,0)⟩∧
   xW { M with l:=gK (c.now+1) M.l (c.s.take i),cnt:=z } ⟨5,qB c.s i,0,0,lk0,(c.now+1,false,0)⟩=(an0,{ M with l:=gK (c.now+1) M.l (c.s.take (i+1)),cnt:=z+1 })∧
   zV { c with state:=6,at_:=(i:Int) } an0=ya { c with state:=6,at_:=(i:Int)+1 }:=by
  intro i z hi;have hsi:=hss _ (List.getElem_mem hi);have hnum:qB c.s (i:Int)=c.s[i]:=by unfold qB;rw[Int.toNat_natCast,iW hi];rfl
  refine⟨?_,?_,?_⟩
  ·unfold xC;rw[iQ (λh=>h hp),iQ (by show¬(6:Int)=0;decide),iQ (by show¬(6:Int)=1;decide),iQ (by show¬(6:Int)=2;decide),iQ (by show¬(6:Int)=3;decide),iQ (by show¬(6:Int)=4;decide),iQ (by show¬(6:Int)=5;decide),iJ (by rfl)]
  ·rw[hnum];have e:kT { M with l:=gK (c.now+1) M.l (c.s.take i),cnt:=z } ⟨5,c.s[i],0,0,lk0,(c.now+1,false,0)⟩=(an0,{ M with l:=gK (c.now+1) M.l (c.s.take (i+1)),cnt:=z }):=by
    unfold kT
    rw[iQ (by show¬(c.s[i]<0∨((gK (c.now+1) M.l (c.s.take i)).length:Int)≤c.s[i]);rw[Yd];omega),iQ (by show¬(5:Int)=3;decide),iQ (by
     show¬¬YA (c.now+1,false,0)
     exact λh=>h (MR.2 ⟨by omega,rfl⟩)),iJ (by rfl)]
    rw[JU hi,qZ0]
   exact Md (.inr (.inr rfl)) e rfl
  ·rw[gM (by exact hp) rfl,iQ (by show¬((6:Int)=0∨(6:Int)=1);decide),iQ (by show¬((6:Int)=2∨(6:Int)=3);decide),iQ (by show¬(6:Int)=4;decide),iQ (by show¬(6:Int)=5;decide),iJ (by rfl)]
 intro k
 induction k with
 |zero=>
  intro i z hl;obtain rfl:i=c.s.length-1:=by omega
  obtain⟨a,b,d⟩:=step (i:=c.s.length-1) (z:=z) omQ;rw[show z+((0:Nat):Int)=z by simp,show z+((0+1:Nat):Int)=z+1 by simp];refine⟨.nil,a,?_,?_⟩
  ·rw[b,show c.s.length-1+1=c.s.length by omega,List.take_length]
  ·rw[d];unfold ya;dsimp only;rw[iJ omQ];rw[show((c.s.length-1:Nat):Int)+1=((c.s.length:Nat):Int) by omega]
 |succ k ih=>
  intro i z hl;obtain⟨a,b,d⟩:=step (i:=i) (z:=z) omQ;obtain⟨r,q⟩:=ih (i:=i+1) (z:=z+1) omQ;have hd:zV { c with state:=6,at_:=(i:Int) } an0={ c with state:=6,at_:=((i+1:Nat):Int) }:=by rw[d];unfold ya;dsimp only;rw[iQ omQ];rfl
  rw[show z+((k+1:Nat):Int)=z+1+((k:Nat):Int) by omega,show z+((k+1+1:Nat):Int)=z+1+((k+1:Nat):Int) by omega];exact⟨.cons a b rfl hd hp r,q⟩
end
end Go.Proofs.YtnalffoigcmnnaaGreatDoor
namespace Go.Proofs.YtnalffoigcmnnaaGreatDoor
open Go Go.Ae
theorem OS {p v:Int} {l:List Cl} {c:Cl} (h:c∈yz p v l):c=(p,v)∨c∈l:=by
 induction l with
 |nil=>exact .inl (List.mem_singleton.1 h)
 |cons d l ih=>
  unfold yz at h
  split at h
  ·rename_i hd;rcases List.mem_cons.1 h with rfl |h
   ·exact .inl rfl
   ·exact .inr (iX _ h)
  ·rcases List.mem_cons.1 h with rfl |h
   ·exact .inr (iK ..)
   ·rcases ih h with h |h
    ·exact .inl h
    ·exact .inr (iX _ h)
theorem M6 {cs:List Cl}:∀{l:List Cl} {c:Cl},c∈yV l cs→c∈cs∨c∈l:=by
 induction cs with
 |nil=>intro l c h;exact .inr h
 |cons d r ih=>
  intro l c h;rcases ih (l:=yz d.1 d.2 l) h with h |h
  ·exact .inl (iX _ h)
  ·rcases OS h with h |h
   ·exact .inl (by rw[h];exact iK ..)
   ·exact .inr h
theorem qXa:∀{lv:List LvM} {out:List Cl} {c:Cl},c∈lv.foldl (λout x=>yV x.1 out) out→c∈out∨∃x∈lv,c∈x.1:=by
 intro lv
 induction lv with
 |nil=>intro out c h;exact .inl h
 |cons x r ih=>
  intro out c h;rcases ih h with h |⟨y,hy,h⟩
  ·rcases M6 h with h |h
   ·exact .inl h
   ·exact .inr ⟨x,iK ..,h⟩
  ·exact .inr ⟨y,iX _ hy,h⟩
theorem XE {lv:List LvM} {c:Cl} (h:c∈jV lv):∃x∈lv,c∈x.1:=by
 rcases qXa h with h |h
 ·cases h
 ·exact h
theorem VD {lv:List LvM} (h:∀x∈lv,∀c∈x.1,0≤c.2∧c.2<18446744073709551616):∀c∈jV lv,0≤c.2∧c.2<18446744073709551616:=λc hc=>by
 obtain⟨x,hx,h1⟩:=XE hc;exact h x hx c h1
def InL (n:Nat) (lv:List LvM):Prop:=∀x∈lv,∀c∈x.1,1≤c.1∧c.1<n
theorem qVc {n most:Nat} {lv:List LvM} {p v:Int} (h:InL n lv) (hp:1≤p∧p<n):InL n (vk most lv p v).2:=by
 unfold vk;cases lv with
 |nil=>exact h
 |cons x r=>
  dsimp only
  split
  ·exact h
  ·split
   ·exact h
   ·intro y hy c hc;rcases List.mem_cons.1 hy with rfl |hy
    ·rcases OS hc with rfl |hc
     ·exact hp
     ·exact h x (iK ..) c hc
    ·exact h y (iX _ hy) c hc
theorem qZr {n most:Nat} {was:List LvM} (hw:InL n was):∀{cs:List Cl} {lv:List LvM},InL n lv→(∀c∈cs,1≤c.1∧c.1<n)→InL n (yr most was lv cs).2:=by
 intro cs
 induction cs with
 |nil=>intro lv h _;exact h
 |cons c cs ih=>
  intro lv h hc;rw[vw]
  split
  ·exact ih (qVc h (hc c (iK ..))) λd hd=>hc d (iX _ hd)
  ·exact hw
def InV (V:VM):Prop:=InL V.sz V.lv
theorem InV.read {V:VM} (h:InV V) (p:Int):InV (qb V p).2:=by
 unfold qb
 repeat' split
 all_goals exact h
theorem InV.take {V:VM} (h:InV V) (cs:List Cl):InV (jr V cs).2:=by
 unfold jr
 split
 ·rename_i hc;exact qZr h h hc
 ·exact h
theorem InV.ask {V:VM} (h:InV V) (b:Int):InV (ja V b).2:=by
 unfold ja
 repeat' split
 all_goals first |exact h |exact h.read _
theorem InV.again {V:VM} (h:InV V) (c b:Int):InV (xH V c b).2:=by
 unfold xH
 repeat' split
 all_goals first |exact h |exact h.read _ |exact(h.read _).take _
theorem InV.grown {V:VM} (h:InV V) (c:Int):InV (xL V c).2:=by
 unfold xL
 repeat' split
 all_goals first |exact h |exact h.read _ |exact(h.read _).take _
theorem InV.alloc {V:VM} (h:InV V) (n:Int):InV (zH V n).2:=by
 unfold zH
 repeat' split
 all_goals first |exact h |exact h.read _ |exact(h.read _).grown _ |exact(h.read _).again _ _
theorem InV.freed {V:VM} (h:InV V) (b:Int):InV (freeV V b):=by
 intro x hx c hc;have hx:x∈JY V.lv b:=hx;unfold JY at hx;cases hl:V.lv with
 |nil=>rw[hl]at hx;cases hx
 |cons y r=>
  rw[hl]at hx;rcases List.mem_cons.1 hx with rfl |hx
  ·exact h y (by rw[hl];exact iK ..) c hc
  ·exact h x (by rw[hl];exact iX _ hx) c hc
theorem InV.free {V:VM} (h:InV V) (b:Int):InV (yu V b).2:=by
 unfold yu
 repeat' split
 all_goals first |exact(((h.ask _).take _).freed _) |exact(h.ask _).take _ |exact h.ask _
theorem InV.give {V:VM} (h:InV V) (b:Int):InV (zv V b).2:=by
 unfold zv
 repeat' split
 all_goals first |exact((h.ask _).read _).take _ |exact(h.ask _).read _ |exact h.ask _
theorem InV.open' {V:VM} (h:InV V):InV (yg V).2:=by
 unfold yg w9
 split
 ·exact h
 ·intro x hx c hc;rcases List.mem_cons.1 hx with rfl |hx
  ·cases hc
  ·exact h x hx c hc
theorem InV.drop {V:VM} (h:InV V):InV (xY V).2:=by
 unfold xY kX
 split
 ·exact h
 ·intro x hx c hc;exact h x (List.mem_of_mem_tail hx) c hc
theorem InV.keep {V:VM} (h:InV V):InV (yh V).2:=by
 intro x hx c hc;have hx:x∈(kf V.lv).2:=hx;unfold kf at hx
 split at hx
 ·rename_i a b r hl;rcases List.mem_cons.1 hx with rfl |hx
  ·rcases M6 hc with hc |hc
   ·exact h a (by rw[hl];exact iK ..) c hc
   ·exact h b (by rw[hl];exact iX _ (iK ..)) c hc
  ·exact h x (by rw[hl];exact iX _ (iX _ hx)) c hc
 ·exact h x hx c hc
theorem InV.begin_ {V:VM} (h:InV V) {op a nx:Int} {s:IM}:InV (j4 op a nx s V).v:=by
 unfold j4
 split<;>exact h.open'
theorem InV.retry {mt:List Int} {s:IM}:∀(o:List PtM) {V:VM},InV V→InV (yx mt o s V).v:=by
 intro o
 induction o with
 |nil=>intro V h;exact h
 |cons p o ih=>
  intro V h;unfold yx
  split
  ·split
   ·exact(InV.begin_ h.drop)
   ·exact ih h.drop
  ·exact h.drop
theorem InV.turn {V:VM} (h:InV V) (mt:List Int) (s:IM) (op:Int):InV (gV mt s V op).v:=by
 unfold gV
 split
 ·exact InV.begin_ h
 ·split
  ·exact h.keep
  ·split
   ·exact h.keep
   ·split
    ·exact h.drop
    ·exact InV.retry _ h
theorem InV.touch {V:VM} (h:InV V) (s:IM) (x:qS):InV (jB s V x).2.2:=by
 unfold jB
 split
 ·split
  ·split<;>exact h.read _
  ·exact h
 ·split
  ·split
   ·exact h.take _
   ·exact h
  ·split
   ·split
    ·exact h
    ·split<;>exact h.alloc _
   ·split
    ·exact h
    ·exact h.free _
theorem qq7 {c:Prop} [Decidable c] {a b:SM} (ha:InV a.v) (hb:InV b.v):InV (if c then a else b).v:=by
 split
 ·exact ha
 ·exact hb
theorem InV.do_ {V:VM} (h:InV V) (mt:List Int) (s:IM) (x:qS):InV (doM mt s V x).v:=by
 have ht:=h.touch s x;have hu:=h.turn mt s x.1;unfold doM;generalize jB s V x=T at*;generalize gV mt s V x.1=U at*
 repeat' (first |exact h |exact ht |exact hu |apply qq7)
theorem InV.run {l:List qS} {mt:List Int}:∀(n:Nat) {s:IM} {V:VM},InV V→InV (jZ l mt n s V).v:=by
 intro n
 induction n with
 |zero=>intro s V h;rw[gJ];split<;>exact h
 |succ n ih=>
  intro s V h;have hd:=h.do_ mt s (qL l s.pc);rw[vt];generalize doM mt s V (qL l s.pc)=D at*
  split
  ·exact h
  ·split
   ·split
    ·exact hd
    ·exact ih hd
   ·split<;>exact hd
theorem InV.gives:∀(bs:List Int) (k:Nat) {V:VM},InV V→InV (jg V bs k).2:=by
 intro bs
 induction bs with
 |nil=>intro k V h;exact h
 |cons b r ih=>
  intro k V h;unfold jg
  split
  ·exact ih _ (h.give b)
  ·exact h.give b
end Go.Proofs.YtnalffoigcmnnaaGreatDoor
namespace Go.Proofs.YtnalffoigcmnnaaGreatDoor
open Go Go.Ae
theorem qYd {cs:List Cl}:∀{w:List Int},(∀z∈w,0≤z∧z<18446744073709551616)→(∀c∈cs,0≤c.2∧c.2<18446744073709551616)→∀z∈ka w cs,0≤z∧z<18446744073709551616:=by
 induction cs with
 |nil=>intro w h _;exact h
 |cons c r ih=>
  intro w h hc;refine ih (w:=w.set c.1.toNat c.2) (λz hz=>?_) λq hq=>hc q (iX _ hq);rcases List.mem_or_eq_of_mem_set hz with hz |rfl
  ·exact h z hz
  ·exact hc c (iK ..)
section
variable {S:yv} {M:js} {me:Int}
theorem qJM (O:we S) (C:yC S M me) (hn1:M.n+1<4611686018427387902) {r:List xG} {cs:List Cl} (hcs:cs≠[]) (hc:∀c∈cs,1≤c.1∧c.1<S.words) (hw:∀c∈cs,0≤c.2∧c.2<18446744073709551616) :
  ∃(k:Nat) (d c1:ju) (o:OpM) (N0 N:js),k≤3*16+2+cs.length∧Jq k (Qi me S.spins M.n r cs S.stripes S.wide) M d N0∧xC d=some o∧xW N0 o=(an0,N)∧zV d an0=c1∧c1.p.fin=2∧c1.p.err=0∧vO c1=M.n+1∧
   N.w=ka M.w cs∧N.n=M.n+1∧N.s=M.s∧N.cnt=M.cnt+(k+1:Nat)∧yC S N me:=by
 have hst:=O.stripes;have hmem:=λx=>Qe (n:=S.stripes) (w:=S.wide) (λc hx=>by have:=hc c hx;omega:∀c∈cs,0≤c.1) (x:=x);generalize hs:zr cs S.stripes S.wide=ss at*;have hrise:ss.Pairwise (· < ·):=by rw[← hs];exact Qg
 have hss:∀s∈ss,0≤s∧s<S.stripes:=λs h=>by
  obtain⟨c,hcm,rfl⟩:=List.mem_map.1 ((hmem s).1 h);exact qQA O (by have:=hc c hcm;omega)
 have hs0:ss≠[]:=by obtain⟨c,r',rfl⟩:=List.exists_cons_of_ne_nil hcs;exact List.ne_nil_of_mem ((hmem _).2 (List.mem_map.2 ⟨c,iK ..,rfl⟩))
 have hsl:0<ss.length:=List.length_pos_iff.2 hs0;have hs16:ss.length≤16:=by rw[← hs];unfold zr;exact Nat.le_trans (List.length_filter_le ..) osQ
 have hcl:0<cs.length:=List.length_pos_iff.2 hcs;have hlen:=C.l;have hnn:=C.n
 let B:ju:=⟨kR me S.spins,me,M.n,r,cs,ss,[],0,0,lk0,0,false,0,0,0⟩
 have e0:Qi me S.spins M.n r cs S.stripes S.wide={ B with was:=(B.s.take 0).map (jh M.l),lk:=lk0,state:=0 }:=by unfold Qi ky;rw[hs];dsimp only;rw[iQ (by show¬(0:Nat)=ss.length;omega)];rfl
 obtain⟨L',a1⟩:=qZB C (by have:=O.threads;omega) (c:=B) rfl rfl hss hrise ss.length (i:=0) (L:=lk0) (z:=M.cnt) (by show ss.length=0+ss.length;omega) hsl
 let M1:js:={ M with l:=xR me M.l ss,cnt:=M.cnt+(2*ss.length:Nat) }
 let c1:ju:={ B with was:=ss.map (jh M.l),lk:=L',state:=2 }
 have a1':Jq (2*ss.length) (Qi me S.spins M.n r cs S.stripes S.wide) M c1 M1:=by rw[e0];exact a1
 let c2:ju:={ c1 with now:=M.n,state:=3 }
 have t2:zV c1 ⟨M.n,lk0,false,0⟩=c2:=by rw[gM (by rfl) rfl,iQ (by show¬((2:Int)=0∨(2:Int)=1);decide),iJ (.inl rfl)];unfold gZ;rw[iQ (by show¬((2:Int)=2∧4611686018427387903≤M.n);omega),iJ (by rfl)]
 let M2:js:={ M1 with cnt:=M.cnt+(2*ss.length:Nat)+1 }
 let M3:js:={ M1 with n:=M.n+1,cnt:=M.cnt+(2*ss.length:Nat)+2 }
 have d3:xW M2 ⟨7,0,M.n,M.n+1,lk0,lk0⟩=(⟨0,lk0,true,0⟩,M3):=by
  have e:J4 M2 ⟨7,0,M.n,M.n+1,lk0,lk0⟩=(⟨0,lk0,true,0⟩,{ M2 with n:=M.n+1 }):=by unfold J4;rw[iQ (by show¬(7:Int)=6;decide),iQ (by show¬M.n+1≤M.n;omega),iQ (by show¬4611686018427387904≤M.n+1;omega),iQ (by show¬M.n≠M.n;exact λh=>h rfl)]
  rw[qzP (.inr rfl) e rfl];show(_,({ M1 with n:=M.n+1,cnt:=M.cnt+((2*ss.length:Nat):Int)+1+1 }:js))=_;rw[Int.add_assoc (M.cnt+((2*ss.length:Nat):Int))];rfl
 let c3:ju:={ c2 with writing:=true,state:=5,at_:=((0:Nat):Int) }
 have t3:zV c2 ⟨0,lk0,true,0⟩=c3:=by rw[gM (by rfl) rfl,iQ (by show¬((3:Int)=0∨(3:Int)=1);decide),iJ (.inr rfl)];unfold gZ;rw[iQ (λh=>by cases h.1),iQ (by show¬(3:Int)=2;decide),iQ od,iJ (by rfl)];unfold g9 yE;rw[iQ (by show¬(0:Int)=(cs.length:Int);omega)];rfl
 have a3:Jq (2*ss.length+2) (Qi me S.spins M.n r cs S.stripes S.wide) M c3 M3:=a1'.trans (.cons (o:=op0 6 0 0) rfl (by show _=(_,M2);rfl) rfl t2 rfl (.cons (o:=⟨7,0,M.n,M.n+1,lk0,lk0⟩) rfl d3 rfl t3 rfl .nil));have a4:=qZE (M:=M3) (c:=c3) rfl hs0 (λq hq=>by have:=hc q hq;have:=C.w;show 1≤q.1∧q.1<(M.w.length:Int);omega) cs.length (i:=0) (z:=M3.cnt) (by show cs.length=0+cs.length;omega) hcl;have a5:Jq (2*ss.length+2+cs.length) (Qi me S.spins M.n r cs S.stripes S.wide) M { c3 with state:=6,at_:=0 } { M3 with w:=ka M.w cs,cnt:=M3.cnt+(cs.length:Nat) }:=a3.trans a4;obtain⟨g1,g2,g3,g4⟩:=qXP (M:={ M3 with w:=ka M.w cs }) (c:={ c3 with state:=6,at_:=0 }) rfl (by show 0≤M.n∧M.n<_;omega) (λs h=>by have:=hss s h;show 0≤s∧s<((xR me M.l ss).length:Int);rw[wR];omega) (ss.length-1) (i:=0) (z:=M3.cnt+(cs.length:Nat)) (by show ss.length=0+(ss.length-1)+1;omega);refine⟨2*ss.length+2+cs.length+(ss.length-1),_,_,_,_,_,by omega,a5.trans g1,g2,g3,g4,rfl,rfl,rfl,rfl,rfl,rfl,?_,?_⟩
 ·show M.cnt+((2*ss.length:Nat):Int)+2+((cs.length:Nat):Int)+((ss.length-1+1:Nat):Int)=_;omega
 ·refine⟨?_,?_,C.s,C.me,λi hi=>?_,by show 0≤M.n+1∧M.n+1<_;omega,qYd C.wd hw⟩
  ·show((ka M.w cs).length:Int)=_;rw[OU];exact C.w
  ·show((gK (M.n+1) (xR me M.l ss) ss).length:Int)=_;rw[Yd,wR];exact C.l
  ·have hi:i<(gK (M.n+1) (xR me M.l ss) ss).length:=hi;rw[Yd,wR]at hi;show∃v:Int,jh (gK (M.n+1) (xR me M.l ss) ss) i=(v,false,0)∧0≤v∧v≤M.n+1;rw[qYe omQ (λs h=>by have:=hss s h;rw[wR];omega)]
   split
   ·exact⟨M.n+1,rfl,by omega,by omega⟩
   ·rename_i h;rw[NB omQ (λs h=>by have:=hss s h;omega) h];obtain⟨v,e,h0,h1⟩:=C.lk i hi;exact⟨v,e,h0,by omega⟩
theorem Gt (C:yC S M me) {y:jG} (h7:y.state=7) (hme:y.me=me):Stp 1 y M { y with state:=8 } { M with s:=M.s.set me.toNat 0,cnt:=M.cnt+1 }:=by
 refine .step (o:=op0 9 me 0) ?_ (KJ C) ?_
 ·unfold z8;rw[iQ omQ,iQ omQ,iQ omQ,iJ h7,hme]
 ·unfold xB;rw[iQ omQ,iQ (λh=>h rfl),iQ omQ,iQ omQ,iQ omQ,iJ h7]
theorem ZB {j:Qa} {V:VM} (hg:jX V) (hj:JobOk True V j):(jz j V).1.1=1∨(jz j V).1.1=2∨(jz j V).1.1=3∨(jz j V).1.1=4:=by
 cases j with
 |prog q=>obtain⟨F,Q,gb,h,hl⟩:=hj;obtain⟨G,h0,h1,h2⟩:=h trivial;exact(Y2 F Q q.left G h2).2.2.2.2
 |sweep bs k=>
  unfold jz;dsimp only
  split
  ·exact .inl rfl
  ·split
   ·exact .inr (.inl rfl)
   ·exact .inr (.inr (.inr rfl))
theorem qG0 {j:Qa} {V:VM} (h:InV V):InV (jz j V).2.2:=by
 cases j with
 |prog q=>exact InV.run _ h
 |sweep bs k=>exact InV.gives _ _ h
structure Ended (S:yv) (M:js) (me:Int) (R:(Int×Int)×Qa×VM) (y:jG) (N:js):Prop where
  st:y.state=8
  me_:y.me=me
  set:y.set=S
  fin:y.fin=R.1.1
  err:y.err=if R.1.1=4 then R.1.2 else 0
  lv:y.v.lv=R.2.2.lv
  job:y.job=R.2.1
  by_:y.by_= -1
  calm:yC S N me
  s:N.s=M.s.set me.toNat 0
  w:N.w=if R.1.1=2 then ka M.w (jV R.2.2.lv)else M.w
  n:N.n=M.n+(if R.1.1=2∧jV R.2.2.lv≠[]then 1 else 0)
  stamp:y.stamp=N.n
  begun:y.begun=true
  kind:R.1.1=2∨R.1.1=3∨R.1.1=4
theorem qZ3 (O:we S) (C:yC S M me) (hn1:M.n+1<4611686018427387902) {j:Qa} (hj:JobOk True (Xg S.words S.writes) j) (hjW:JobOk True (zt M.w S.writes) j) :
  ∃(m:Nat) (y:jG) (N:js),m≤1200∧Stp m (GF me S j) M y N∧Ended S M me (jz j (zt M.w S.writes)) y N∧N.cnt=M.cnt+(m:Nat):=by
 have hm:=C.me;have hnn:=C.n;have hw:=O.words;have hlw:=C.w;have c1:yC S { M with s:=M.s.set me.toNat 1,cnt:=M.cnt+1 } me:=⟨C.w,C.l,by show((M.s.set me.toNat 1).length:Int)=_;rw[List.length_set];exact C.s,C.me,C.lk,C.n,C.wd⟩;have s1:Stp 1 (GF me S j) M { GF me S j with state:=1 } { M with s:=M.s.set me.toNat 1,cnt:=M.cnt+1 }:=.step (o:=op0 9 me 1) rfl (KJ C) rfl;have s2:Stp 1 { GF me S j with state:=1 } { M with s:=M.s.set me.toNat 1,cnt:=M.cnt+1 } { GF me S j with begun:=true,begin_:=M.n,stamp:=M.n,state:=2 } { M with s:=M.s.set me.toNat 1,cnt:=M.cnt+2 }:=by
  refine .step (o:=op0 6 0 0) rfl (by
   show(_,({ M with s:=M.s.set me.toNat 1,cnt:=M.cnt+1+1 }:js))=(_,_)
   rw[Int.add_assoc];rfl) rfl
 have c2:yC S { M with s:=M.s.set me.toNat 1,cnt:=M.cnt+2 } me:=⟨c1.w,c1.l,c1.s,c1.me,c1.lk,c1.n,c1.wd⟩
 let M3:js:={ M with s:=M.s.set me.toNat (j6 .u64 (M.n+1)),cnt:=M.cnt+3 }
 have c3:yC S M3 me:=⟨C.w,C.l,by show((M.s.set me.toNat (j6 .u64 (M.n+1))).length:Int)=_;rw[List.length_set];exact C.s,C.me,C.lk,C.n,C.wd⟩
 let x2:jG:={ GF me S j with begun:=true,begin_:=M.n,stamp:=M.n,state:=2 }
 have s3:Stp 1 x2 { M with s:=M.s.set me.toNat 1,cnt:=M.cnt+2 } (xO x2) M3:=by refine .step (o:=op0 9 me (j6 .u64 (M.n+1))) (a:=an0) rfl ?_ rfl;rw[KJ c2];show(_,({ M with s:=(M.s.set me.toNat 1).set me.toNat (j6 .u64 (M.n+1)),cnt:=M.cnt+2+1 }:js))=(_,_);rw[List.set_set,Int.add_assoc];rfl
 have B2:wV x2:=by have h:=qQU (me:=me) O hj;exact⟨h.set,h.good,h.sz,h.fr,h.r,h.job.dead not_false,h.c⟩
 have hW:=Qt (m:=S.writes) C.wd;have hsz:szZ (M.w.length:Int)=szZ S.words:=by rw[hlw]
 have P0:zE (Xg S.words S.writes) (zt M.w S.writes):=⟨hsz.symm,rfl,rfl,λp x h=>by cases h⟩;obtain⟨m,y,m1,m2,m3,m4,m5,m6,m7,m8,m9,m10,m11,m12,m13,m14⟩:=ZK O (me:=me) ((Xg S.words S.writes).sz) (M:=M3) (x:=x2) (W:=zt M.w S.writes) c3 (by show(Xg S.words S.writes).sz≤0+1+_;omega) rfl rfl rfl rfl ⟨λy h=>(by cases h),List.nodup_nil⟩ B2 hj P0 hW rfl rfl hjW;have hszb:(Xg S.words S.writes).sz≤256:=(VV S.words).2;have k3:=ZB hW hjW
 have hinV:InV (jz j (zt M.w S.writes)).2.2:=qG0 (λx hx c hc=>by
  rcases List.mem_cons.1 hx with rfl |hx
  ·cases hc
  ·cases hx)
 have hR:jz x2.job (zt M.w S.writes)=jz j (zt M.w S.writes):=rfl;rw[hR]at m2 m3 m4 m5;generalize jz j (zt M.w S.writes)=R at*;have head:=(s1.trans s2).trans s3;have base:=head.trans m2;clear s1 s2 s3 head m2;have cB:=c3.bump (m:Int);have hlvy:y.v.lv=R.2.2.lv:=m5.lv;have hs0:(M3.s.set me.toNat 0)=M.s.set me.toNat 0:=by show(M.s.set me.toNat (j6 .u64 (M.n+1))).set me.toNat 0=_;rw[List.set_set]
 unfold ge at base;rw[iQ m3]at base;by_cases h3:R.1.1=3
 ·rw[iJ h3]at base;obtain⟨k,E,k1,t⟩:=qX2 (C:=cB) (y:={ y with blocking:=true }) m8 ⟨m10.at_,m10.un⟩ rfl;rw[wT]at t;have cE:=c3.bump ((m:Int)+k);have l:=Gt cE (y:=xK { y with blocking:=true,e:=E,stamp:=M.n } 3 0 (-1)) rfl m6;have hrl:=m10.len O;refine⟨_,_,_,?_,(base.trans t).trans l,⟨rfl,m6,m7,h3.symm,by rw[h3];rfl,hlvy,m4,rfl,⟨cE.w,cE.l,by show(((bump M3 _).s.set me.toNat 0).length:Int)=_;rw[List.length_set];exact cE.s,cE.me,cE.lk,cE.n,cE.wd⟩,hs0,?_,?_,?_,m12,.inr (.inl h3)⟩,?_⟩
  ·have:k≤y.r.length+1:=k1;omega
  ·rw[iQ omQ];rfl
  ·rw[iQ (λh=>by omega)];show M.n=M.n+0;omega
  ·rfl
  ·show M.cnt+3+((m:Int)+k)+1=_;omega
 ·rw[iQ h3]at base;by_cases h4:R.1.1=4
  ·rw[iJ h4]at base;have l:=Gt cB (y:=xK y 4 R.1.2 (-1)) rfl m6;refine⟨_,_,_,by omega,base.trans l,⟨rfl,m6,m7,h4.symm,by rw[iJ h4];rfl,hlvy,m4,rfl,⟨cB.w,cB.l,by show(((bump M3 _).s.set me.toNat 0).length:Int)=_;rw[List.length_set];exact cB.s,cB.me,cB.lk,cB.n,cB.wd⟩,hs0,?_,?_,?_,m12,.inr (.inr h4)⟩,?_⟩
   ·rw[iQ omQ];rfl
   ·rw[iQ (λh=>by omega)];show M.n=M.n+0;omega
   ·exact m9
   ·show M.cnt+3+(m:Int)+1=_;omega
  ·rw[iQ h4]at base;have h2:R.1.1=2:=by omega
   rw[hlvy]at base;by_cases hcs:jV R.2.2.lv=[]
   ·rw[iJ hcs]at base;have l:=Gt cB (y:=xK y 2 0 (-1)) rfl m6;refine⟨_,_,_,by omega,base.trans l,⟨rfl,m6,m7,h2.symm,by rw[iQ h4];rfl,hlvy,m4,rfl,⟨cB.w,cB.l,by show(((bump M3 _).s.set me.toNat 0).length:Int)=_;rw[List.length_set];exact cB.s,cB.me,cB.lk,cB.n,cB.wd⟩,hs0,?_,?_,?_,m12,.inl h2⟩,?_⟩
    ·rw[iJ h2,hcs];rfl
    ·rw[iQ (λh=>h.2 hcs)];show M.n=M.n+0;omega
    ·exact m9
    ·show M.cnt+3+(m:Int)+1=_;omega
   ·rw[iQ hcs]at base;have hmo:=Xl m11.good.ok;rw[hlvy]at hmo;have hwdc:∀c∈jV R.2.2.lv,0≤c.2∧c.2<18446744073709551616:=by rw[← hlvy];exact VD m11.good.wd.l
    have hin:∀c∈jV R.2.2.lv,1≤c.1∧c.1<S.words:=λc hc=>by
     obtain⟨x,hx,h1⟩:=XE hc;have:=hinV x hx c h1;have e1:=m5.sz;have e2:=m11.sz;rw[m7]at e2;omega
    obtain⟨k,d,e1,o,N0,N,k1,k2,k3',k4,k5,k6,k7,k8,k9,k10,k11,k12,k13⟩:=qJM O cB hn1 (r:=y.r) hcs hin hwdc;have e0:Qi y.me y.set.spins y.stamp y.r (jV R.2.2.lv) y.set.stripes y.set.wide=Qi me S.spins M.n y.r (jV R.2.2.lv) S.stripes S.wide:=by rw[m6,m7,m9]
    rw[e0]at base;obtain⟨z,tz⟩:=qKF k2 (x:={ y with state:=6,c:=some (Qi me S.spins M.n y.r (jV R.2.2.lv) S.stripes S.wide) }) rfl rfl;have tl:=qGr (x:={ y with state:=6,c:=some d,stamp:=z }) (c:=d) rfl rfl k3' k4 rfl k5 k6 k7;have l:=Gt k13 (y:={ xK { y with state:=6,c:=some e1,stamp:=z } 2 0 (-1)with stamp:=vO e1 }) rfl m6;refine⟨_,_,_,?_,((base.trans tz).trans tl).trans l,⟨rfl,m6,m7,h2.symm,by rw[iQ h4];rfl,hlvy,m4,rfl,⟨k13.w,k13.l,by show((N.s.set me.toNat 0).length:Int)=_;rw[List.length_set];exact k13.s,k13.me,k13.lk,k13.n,k13.wd⟩,?_,?_,?_,?_,m12,.inl h2⟩,?_⟩
    ·omega
    ·show N.s.set me.toNat 0=_;rw[k11];exact hs0
    ·rw[iJ h2];exact k9
    ·rw[iJ ⟨h2,hcs⟩];exact k10
    ·show vO e1=N.n;rw[k8,k10]
    ·show N.cnt+1=_;rw[k12];show M.cnt+3+(m:Int)+((k+1:Nat):Int)+1=_;omega
end
end Go.Proofs.YtnalffoigcmnnaaGreatDoor
namespace Go.Proofs.YtnalffoigcmnnaaGreatDoor
open Go Go.Ae
abbrev U64 (z:Int):Prop:=0≤z∧z<18446744073709551616
structure OX (M:js):Prop where
  w:∀z∈M.w,U64 z
  n:U64 M.n
  s:∀z∈M.s,U64 z
theorem qQo {l:List Int} (h:∀z∈l,U64 z) (i:Int):U64 (qB l i):=by
 unfold qB;cases hi:l[i.toNat]? with
 |none=>exact⟨Int.le_refl _,by show(0:Int)<_;decide⟩
 |some z=>exact h z (List.mem_of_getElem? hi)
theorem Vn {l:List Int} (h:∀z∈l,U64 z) {i:Nat} {w:Int} (hw:U64 w):∀z∈l.set i w,U64 z:=λz hz=>by
 rcases List.mem_or_eq_of_mem_set hz with hz |rfl
 ·exact h z hz
 ·exact hw
theorem qQF {M:js} {o:OpM} (R:OX M) (ho:U64 o.word):G3 (xW M o).1∧OX (xW M o).2:=by
 have z0:U64 (0:Int):=⟨Int.le_refl _,by decide⟩;have key:G3 (yS M o).1∧OX (yS M o).2:=by
  unfold yS
  split
  ·unfold J5
   split
   ·exact⟨z0,R⟩
   ·split
    ·exact⟨qQo R.w _,R⟩
    ·exact⟨z0,⟨Vn R.w ho,R.n,R.s⟩⟩
  ·split
   ·unfold kT
    repeat' split
    all_goals exact⟨z0,⟨R.w,R.n,R.s⟩⟩
   ·split
    ·unfold J4
     split
     ·exact⟨R.n,R⟩
     ·repeat' split
      all_goals first |exact⟨z0,R⟩ |exact⟨z0,⟨R.w,ho,R.s⟩⟩
    ·split
     ·unfold Ys
      split
      ·exact⟨z0,R⟩
      ·split
       ·exact⟨qQo R.s _,R⟩
       ·exact⟨z0,⟨R.w,R.n,Vn R.s ho⟩⟩
     ·exact⟨z0,R⟩
 rw[wh]
 split
 ·exact⟨key.1,⟨key.2.w,key.2.n,key.2.s⟩⟩
 ·exact key
theorem UM {M:js} {o:OpM}:(xW M o).2.cnt≤M.cnt+1∧M.cnt≤(xW M o).2.cnt:=by
 have h:=OR (M:=M) (o:=o);rw[wh]
 split
 ·show(yS M o).2.cnt+1≤_∧_≤(yS M o).2.cnt+1;omega
 ·omega
theorem J0 {c:ju} {f e y:Int}:(wD c f e y).cells=c.cells:=by unfold wD vh;dsimp only;split<;>rfl
theorem Um {c:ju} {l:LkM}:(kL c l).cells=c.cells:=by 
 unfold kL
 split
 ·rfl
 ·exact J0
theorem U2 {c:ju}:(ya c).cells=c.cells:=by unfold ya;split<;>rfl
theorem G4 {c:ju}:(yE c).cells=c.cells:=by 
 unfold yE
 split
 ·exact U2
 ·rfl
theorem Xv {c:ju}:(g9 c).cells=c.cells:=G4
theorem Gq:∀(n:Nat) (c:ju),(vy c n).cells=c.cells:=by
 intro n
 induction n with
 |zero=>intro c;exact Xv
 |succ n ih=>
  intro c;unfold vy
  split
  ·split
   ·rfl
   ·split
    ·exact J0
    ·exact ih _
  ·exact Xv
theorem qXc {c:ju} {a:AnM}:(zV c a).cells=c.cells:=by
 unfold zV
 split
 ·rfl
 ·split
  ·unfold wI
   split
   ·exact Um
   ·split
    ·rfl
    ·split
     ·rfl
     ·rfl
  ·split
   ·unfold gZ
    split
    ·exact J0
    ·split
     ·rfl
     ·split
      ·rfl
      ·split
       ·exact Xv
       ·exact Gq _ _
   ·split
    ·unfold gg
     split
     ·exact Um
     ·split
      ·exact J0
      ·exact Gq _ _
    ·split
     ·exact G4
     ·split
      ·exact U2
      ·unfold vh
       split<;>rfl
def Qc (x:jG):Prop:=∀c,x.c=some c→∀q∈c.cells,U64 q.2
theorem qX4 {x:jG} {k e:Int} (G:jX x.v) (W:Qc x):Qc (ge x k e):=by
 unfold ge
 split
 ·exact W
 ·split
  ·exact W
  ·split
   ·exact W
   ·split
    ·exact W
    ·intro c hc;cases hc;exact VD G.wd.l
theorem UO {x:jG} (B:wV x) (hj:JobOk True x.v x.job) (W:Qc x):Qc (xO x):=by have D:=Gs B.good B.fr hj;refine qX4 D.good ?_;intro c hc;rw[D.same.2.2.2.2]at hc;exact W c hc
theorem U1 {x:jG} {a:AnM} (O:zM x) (W:Qc x) (ha:G3 a):Qc (xB x a):=by
 have hst:=O.st;have stamped:∀{y:jG},Qc y→Qc (xV y):=λ{y} h=>by
  unfold xV
  split
  ·split<;>exact h
  ·exact h
 have told:∀{y:jG},zM y→3≤y.state→y.state≤6→Qc y→Qc (xd y):=λ{y} O h3 h6 W=>by
  refine stamped ?_;show Qc (if(zi y).1=0 then y else if(zi y).1=5 then xK y 5 0 (zi y).2 else xp y)
  split
  ·exact W
  ·split
   ·exact W
   ·unfold xp
    split
    ·rename_i hs;have hw:=YO (O.f hs).2;unfold yH
     split
     ·exact W
     ·split
      ·have hj:=(O.job.same λ_=>by omega:JobOk True y.v y.job).know (p:=y.v.need) hw;refine UO ⟨O.set,J2 O.good hw,by show((zP y.v y.v.need (yX y.f)).2.sz:Int)=y.set.words;rw[gc.2];exact O.sz,by show frS (zP y.v y.v.need (yX y.f)).2.lv<9000;rw[gc.1];exact O.fr,Xn O.r,hj.same λh=>h.elim,O.c⟩ hj W
      ·split<;>exact W
    ·split
     ·exact W
     ·split
      ·exact W
      ·split<;>exact W
 unfold xB
 split
 ·exact W
 ·split
  ·exact W
  ·split
   ·exact W
   ·split
    ·exact W
    ·split
     ·exact UO O.b (O.job.same λ_=>by omega) W
     ·split
      ·exact W
      ·split
       ·rename_i hs;have hf:=O.f hs;refine told (y:={ x with f:=xD x.f a }) ?_ (by show 3≤x.state;omega) (by show x.state≤6;omega) W;exact⟨O.set,O.good,O.sz,O.fr,O.r,O.job,O.st,λ_=>⟨XO hf.1,Yo hf.2 ha⟩,O.need,O.e,O.c,O.c0,O.c6⟩
       ·split
        ·rename_i hs;refine told (y:={ x with c:=x.c.map λc=>zV c a }) ?_ (by show 3≤x.state;omega) (by show x.state≤6;omega) ?_
         ·refine⟨O.set,O.good,O.sz,O.fr,O.r,O.job,O.st,O.f,O.need,O.e,λc h=>?_,λh=>absurd h (by show¬x.state≤5;omega),λh hn=>O.c6 h ?_⟩
          ·obtain⟨c',h1,rfl⟩:=Option.map_eq_some_iff.1 h;exact Yc (O.c c' h1) ha
          ·exact Option.map_eq_none_iff.1 hn
         ·intro c h;obtain⟨c',h1,rfl⟩:=Option.map_eq_some_iff.1 h;rw[qXc];exact W c' h1
        ·refine told (y:={ x with e:=xU x.e a }) ?_ (by show 3≤x.state;omega) (by show x.state≤6;omega) W;exact⟨O.set,O.good,O.sz,O.fr,O.r,O.job,O.st,O.f,O.need,λh1 h2=>Xz (O.e h1 h2),O.c,O.c0,O.c6⟩
theorem UN {x:jG} {o:OpM} (O:zM x) (W:Qc x) (h:z8 x=some o):U64 o.word:=by
 have z0:U64 (0:Int):=⟨Int.le_refl _,by decide⟩;unfold z8 at h
 split at h
 ·cases h;exact⟨by show(0:Int)≤1;decide,by show(1:Int)<_;decide⟩
 ·split at h
  ·cases h;exact z0
  ·split at h
   ·cases h;exact qQ2 _
   ·split at h
    ·cases h;exact z0
    ·split at h
     ·cases h
     ·split at h
      ·unfold Gn at h
       split at h
       ·cases h
       ·split at h<;>(cases h;exact z0)
      ·split at h
       ·rename_i h6;cases hc:x.c with
        |none=>rw[hc]at h;cases h
        |some c=>
         rw[hc]at h;have hn:=(O.c c hc).now;have h:xC c=some o:=h;unfold xC at h
         split at h
         ·cases h
         ·split at h
          ·cases h;exact z0
          ·split at h
           ·cases h;exact z0
           ·split at h
            ·cases h;exact z0
            ·split at h
             ·cases h;exact⟨by show 0≤c.now+1;omega,by show c.now+1<_;omega⟩
             ·split at h
              ·cases h;exact z0
              ·split at h
               ·cases h;show U64 (wz c.cells c.at_).2;unfold wz;cases hi:c.cells[c.at_.toNat]? with
                |none=>exact z0
                |some q=>exact W c hc q (List.mem_of_getElem? hi)
               ·split at h<;>(cases h;exact z0)
       ·unfold QY at h
        split at h
        ·cases h
        ·split at h<;>(cases h;exact z0)
theorem qkm {me:Int} {S:yv} {j:Qa}:Qc (GF me S j):=λc h=>by cases h
end Go.Proofs.YtnalffoigcmnnaaGreatDoor
namespace Go.Proofs.YtnalffoigcmnnaaGreatDoor.arenaPlays
open Go Go.Ae
set_option maxRecDepth 100000
variable {g h:AH} {L R:List SP}
def ji (a:Int×Int×Bool):List AV:=[.int .i64 a.1,.int .i64 a.2.1,.bool a.2.2]
end Go.Proofs.YtnalffoigcmnnaaGreatDoor.arenaPlays
namespace Go.Proofs.YtnalffoigcmnnaaGreatDoor
open Go Go.Ae
set_option maxRecDepth 100000
variable {g h:AH} {L R:List SP}
def N2 (zs:List Int):List Int:=(List.range (szZ zs.length)).map λi=>if i=0 then 0 else xM zs i
def putZ (l:List Int) (c:Cl):List Int:=if 1≤c.1∧c.1<l.length then l.set c.1.toNat c.2 else l
def xu (zs:List Int) (cs:List Cl):List Int:=cs.foldl putZ (N2 zs)
theorem qjI {l:List Int} {c:Cl} (h:1≤c.1∧c.1<l.length):putZ l c=l.set c.1.toNat c.2:=iJ h
def qXs (zs:List Int) (m:Int) (C:List Cl) (F:List Int):VM:={ zt zs m with lv:=[(C,F)] }
structure FullS (zs:List Int) (T c i:Nat):Prop where
  len:zs.length=T
  lo:32≤T
  hi:T≤256
  cls:1≤c∧c≤4
  nn:∀z∈zs,0≤z∧z<18446744073709551616
  head:xM zs c=0
  bump:xM zs 5=14+(i:Int)*(yt c+1)
  hdr:∀j,j<i→∀p:Nat,(p:Int)=14+(j:Int)*(yt c+1)→xM zs p=(c:Int)+8
end Go.Proofs.YtnalffoigcmnnaaGreatDoor
namespace Go.Proofs.YtnalffoigcmnnaaGreatDoor.arenaFull
open Go Go.Ae arenaPlays
set_option maxRecDepth 100000
variable {g h:AH} {L R:List SP}
end Go.Proofs.YtnalffoigcmnnaaGreatDoor.arenaFull
namespace Go.Proofs.YtnalffoigcmnnaaGreatDoor
open Go Go.Ae
theorem qWi {l:List qS} {mt:List Int}:∀(n:Nat) {s:IM} {V:VM},(jZ l mt n s V).kind≠4→(jZ l mt n s V).err=0:=by
 intro n
 induction n with
 |zero=>
  intro s V;rw[gJ]
  split
  ·intro _;rfl
  ·intro h;exact absurd rfl h
 |succ n ih=>
  intro s V;rw[vt];generalize doM mt s V (qL l s.pc)=D
  split
  ·intro _;rfl
  ·split
   ·split
    ·intro _;rfl
    ·exact ih
   ·split
    ·intro _;rfl
    ·intro h;exact absurd rfl h
structure qJ6 (S:yv) (M:js) (k:Int):Prop where
  w:(M.w.length:Int)=S.words
  wd:∀z∈M.w,U64 z
  w0:M.w[0]? =some 0
  l:M.l=List.replicate S.stripes.toNat lk0
  n:M.n=S.start
  s:M.s=List.replicate S.threads.toNat 0
  cnt:0≤M.cnt∧M.cnt≤k
theorem qjB {S:yv} (O:we S):qJ6 S (Vp S) 0:=by
 have h1:=O.words;refine⟨by show((List.replicate S.words.toNat (0:Int)).length:Int)=_;rw[List.length_replicate];omega,λz hz=>?_,?_,rfl,rfl,rfl,⟨Int.le_refl _,Int.le_refl _⟩⟩
 ·have:=List.eq_of_mem_replicate hz;subst this;exact⟨Int.le_refl _,by decide⟩
 ·show(List.replicate S.words.toNat (0:Int))[0]? =some 0;rw[List.getElem?_replicate,iJ omQ]
theorem qJ2 {S:yv} {M:js} {k at_ w:Int} (Q:qJ6 S M k) (ha:1≤at_) (hw:U64 w):qJ6 S (xW M (op0 2 at_ w)).2 (k+1):=by
 have hc:=UM (M:=M) (o:=op0 2 at_ w);have hq:=Q.cnt;have e:(xW M (op0 2 at_ w)).2.w=(if at_<1∨(M.w.length:Int)≤at_ then M.w else M.w.set at_.toNat w)∧(xW M (op0 2 at_ w)).2.l=M.l∧(xW M (op0 2 at_ w)).2.n=M.n∧(xW M (op0 2 at_ w)).2.s=M.s:=by
  have eW:yS M (op0 2 at_ w)=if at_<1∨(M.w.length:Int)≤at_ then(anE 2,M)else(an0,{ M with w:=M.w.set at_.toNat w }):=by show(if at_<1∨(M.w.length:Int)≤at_ then(anE 2,M)else if(2:Int)=1 then _ else _)=_;rfl
  rw[wh,eW];by_cases h:at_<1∨(M.w.length:Int)≤at_
  ·rw[iJ h,iJ h]
   split<;>exact⟨rfl,rfl,rfl,rfl⟩
  ·rw[iQ h,iQ h]
   split<;>exact⟨rfl,rfl,rfl,rfl⟩
 refine⟨?_,?_,?_,by rw[e.2.1];exact Q.l,by rw[e.2.2.1];exact Q.n,by rw[e.2.2.2];exact Q.s,by omega⟩
 ·rw[e.1]
  split
  ·exact Q.w
  ·rw[List.length_set];exact Q.w
 ·rw[e.1]
  split
  ·exact Q.wd
  ·exact Vn Q.wd hw
 ·rw[e.1]
  split
  ·exact Q.w0
  ·rw[List.getElem?_set_ne omQ];exact Q.w0
theorem qKm {S:yv} {M:js} {k me:Int} (O:we S) (Q:qJ6 S M k) (hs:S.start<4611686018427387902) (hm:0≤me∧me<S.threads):yC S M me:=by have h1:=O.stripes;have h2:=O.threads;have h3:=O.start;refine⟨Q.w,by rw[Q.l,List.length_replicate];omega,by rw[Q.s,List.length_replicate];omega,hm,λi hi=>?_,by rw[Q.n];omega,Q.wd⟩;rw[Q.l,List.length_replicate]at hi;refine⟨0,?_,Int.le_refl _,by rw[Q.n];omega⟩;unfold jh;rw[Q.l,Int.toNat_natCast,List.getElem?_replicate,iJ hi];rfl
theorem KK {w:List Int} {cs:List Cl} (h0:w[0]? =some 0) (h1:32≤w.length) (h2:w.length≤256) (hc:∀c∈cs,1≤c.1∧c.1<w.length):xu w cs=ka w cs:=by
 have hb:N2 w=w:=by
  have hsz:szZ w.length=w.length:=by unfold szZ;omega
  apply List.ext_getElem?;intro i;unfold N2;rw[hsz,List.getElem?_map];by_cases hi:i<w.length
  ·rw[List.getElem?_range hi];show some (if i=0 then 0 else xM w i)=_
   split
   ·rename_i h;subst h;exact h0.symm
   ·unfold xM;rw[iW hi];rfl
  ·rw[List.getElem?_eq_none (by simp;omega),List.getElem?_eq_none omQ];rfl
 unfold xu ka;rw[hb];have:∀(cs:List Cl) (v:List Int),v.length=w.length→(∀c∈cs,1≤c.1∧c.1<w.length)→cs.foldl putZ v=cs.foldl (λw c=>w.set c.1.toNat c.2) v:=by
  intro cs
  induction cs with
  |nil=>intro v _ _;rfl
  |cons c r ih=>intro v hv h;have hc:=h c (iK ..);rw[List.foldl_cons,List.foldl_cons,qjI omQ];exact ih _ (by rw[List.length_set];exact hv) λd hd=>h d (iX _ hd)
 exact this cs w rfl hc
end Go.Proofs.YtnalffoigcmnnaaGreatDoor
namespace Go.Proofs.YtnalffoigcmnnaaGreatDoor
open Go Go.Ae
set_option maxRecDepth 100000
variable {g h:AH} {L R:List SP}
end Go.Proofs.YtnalffoigcmnnaaGreatDoor
namespace Go.Proofs.YtnalffoigcmnnaaGreatDoor
open Go Go.Ae
set_option maxRecDepth 100000
variable {g h:AH} {L R:List SP}
theorem wG {c:CV} {l:List (Nat×Nat)} {t:TypeId} {x:AV} {f:Nat} {a:List AV} {K2:AV→AH→Go.Ae.R} {Q Q':AV→AH→Prop} (hf:GK l t=some f) (w:wp (c (.fn f [] []) (x::a) h) Q') (hk:∀v h',Q' v h'→wp (K2 v h') Q):wp (xm c l (.iface t x) a h K2) Q:=by show wp (Option.rec (motive:=λ_=>Go.Ae.R) none (λf=>jw c (.fn f [] []) (x::a) h K2) (GK l t)) Q;rw[hf];exact qW w hk
structure Na where
  rv:AV
  bv:AV
  iv:AV
  fv:AV
  ev:AV
  cv:AV
  gv:Int
  vb:Nat
  db:Nat
def zu (x:jG) (q:Na):List AV:=[.int .i64 x.me,.int .i64 x.set.words,.int .i64 x.set.stripes,.int .i64 x.set.wide,.int .i64 x.set.threads,.int .u64 x.set.start,.int .i64 x.set.spins,.int .i64 x.set.writes,.int .i64 x.set.fuel,
 q.rv,q.bv,.int .i64 q.gv,.ptr q.vb 0,.ptr q.db 0,.int .i64 x.state,q.iv,q.fv,q.ev,q.cv,.bool x.begun,.int .u64 x.begin_,.int .u64 x.stamp,.int .i64 x.fin,.int .i64 x.by_,.int .i64 x.err,.bool x.blocking]
def JobC (vb:Nat) (j:Qa) (rv bv:AV) (gv:Int):SP:=match j with
 | .prog q=>.ex λz:Nat×Int=>.all [.pur (rv=.ptr z.1 0∧bv=.nils∧gv=0),IntC z.1 vb q.l 0 (qA q.l) q.s q.err q.fin q.left z.2]
 | .sweep bs k=>.all [.pur (rv=.nilp∧gv=(k:Int)),qD 3 1 bs.length bv (bs.map (.int .i64))]
def InnC (st:Int) (f:ki) (e:kP) (c:Option ju) (iv fv ev cv:AV):SP:=match c with
 |some c=>.ex λb:Nat=>.all [.pur (cv=.ptr b 0∧(st=6→iv=.iface 109 (.ptr b 0))),ComC b c]
 |none=>
  if st=3 then .ex λb:Nat=>.all [.pur (cv=.nilp∧fv=.ptr b 0∧iv=.iface 107 (.ptr b 0)),qk b (gX f)]
  else if st=4∨st=5 then .ex λb:Nat=>.all [.pur (cv=.nilp∧ev=.ptr b 0∧iv=.iface 108 (.ptr b 0)),ExtC b e]
  else .pur (cv=.nilp)
abbrev ZN (a:Nat) (x:jG) (q:Na) (R:List SP):List SP:=qk a (zu x q)::JobC q.vb x.job q.rv q.bv q.gv::ViewC q.vb x.v::RdsC q.db x.r::InnC x.state x.f x.e x.c q.iv q.fv q.ev q.cv::R
def AttC (a:Nat) (x:jG):SP:=.ex λq:Na=>.all (ZN a x q [])
section
variable {n a:Nat} {x:jG} {q:Na}
theorem AttC.E (H:HS g h (AttC a x::R)):∃q,HS g h (ZN a x q R):=by obtain⟨q,H⟩:=H.exE;exact⟨q,H.allE⟩
theorem AttC.I (H:HS g h (ZN a x q R)):HS g h (AttC a x::R):=HS.exI q (HS.allI (A:=ZN a x q []) H)
theorem qZo (hn:1≤n) (H:HS g h L) (s:Sel L (qk a (zu x q)) R):t_w n 24 [.ptr a 0] h λr h'=>r=.int .u64 x.stamp∧h'=h:=by
 refine t_e1 (S:=S24) rfl omQ λk hk=>?_;unfold S24;try simp only[iZ]
 refine qq (qQ (qG H s rfl ?_))
 skip
 exact qY ⟨rfl,rfl⟩
theorem qQe (hn:1≤n) (H:HS g h L) (s:Sel L (qk a (zu x q)) R):t_w n 16 [.ptr a 0] h λr h'=>r=.int .i64 (YR x)∧h'=h:=by
 refine t_e1 (S:=S16) rfl omQ λk hk=>?_;unfold S16;try simp only[iZ]
 refine qq (qQ (qG H s rfl ?_));unfold YR;by_cases c:x.state=8
 ·rw[iQ (λh=>h c)];refine jk c ?_;refine qJ (qq (qQ (qG H s rfl ?_)));exact qY ⟨rfl,rfl⟩
 ·rw[iJ c];refine jq c ?_;refine qX ?_;exact qY ⟨rfl,rfl⟩
theorem qzd (hn:1≤n) (H:HS g h L) (s:Sel L (qk a (zu x q)) R):t_w n 17 [.ptr a 0] h λr h'=>r=.int .i64 (ME x)∧h'=h:=by
 refine t_e1 (S:=S17) rfl omQ λk hk=>?_;unfold S17;try simp only[iZ]
 refine qq (qQ (qG H s rfl ?_));unfold ME;by_cases c:x.state=8
 ·rw[iQ (λh=>h c)];refine jk c ?_;refine qJ (qq (qQ (qG H s rfl ?_)));exact qY ⟨rfl,rfl⟩
 ·rw[iJ c];refine jq c ?_;refine qX ?_;exact qY ⟨rfl,rfl⟩
theorem kF {f e y:Int} (hn:1≤n) (H:HS g h (qk a (zu x q)::R)):t_w n 58 [.ptr a 0,.int .i64 f,.int .i64 e,.int .i64 y] h λ_ h'=>HS g h' (qk a (zu (xK x f e y) q)::R):=by
 refine t_e4 (S:=S58) rfl omQ λk hk=>?_;unfold S58;try simp only[iZ]
 refine qq (qQ (qH H (b:=a) .here ⟨rfl,rfl⟩ (by simp[zu]) λh1 H1=>?_));refine qq (qQ (qH H1 (b:=a) .here ⟨rfl,rfl⟩ (by simp[zu]) λh2 H2=>?_));refine qq (qQ (qH H2 (b:=a) .here ⟨rfl,rfl⟩ (by simp[zu]) λh3 H3=>?_));refine qq (qQ (qH H3 (b:=a) .here ⟨rfl,rfl⟩ (by simp[zu]) λh4 H4=>?_));exact qY H4
theorem InnC.nil {st:Int} {f:ki} {e:kP} {iv fv ev cv:AV} (H:HS g h (InnC st f e none iv fv ev cv::R)):cv=.nilp∧HS g h R:=by
 unfold InnC at H;dsimp only at H
 split at H
 ·obtain⟨b,H⟩:=H.exE;have H:=H.allE;exact⟨H.purE.1.1,H.drop.drop⟩
 ·split at H
  ·obtain⟨b,H⟩:=H.exE;have H:=H.allE;exact⟨H.purE.1.1,H.drop.drop⟩
  ·exact H.purE
theorem InnC.fet {f:ki} {e:kP} {iv fv ev cv:AV} (H:HS g h (InnC 3 f e none iv fv ev cv::R)):∃b,(cv=.nilp∧fv=.ptr b 0∧iv=.iface 107 (.ptr b 0))∧HS g h (qk b (gX f)::R):=by obtain⟨b,H⟩:=(show HS g h (.ex (λb:Nat=>SP.all [.pur (cv=.nilp∧fv=.ptr b 0∧iv=.iface 107 (.ptr b 0)),qk b (gX f)])::R)from H).exE;exact⟨b,H.allE.purE⟩
end
end Go.Proofs.YtnalffoigcmnnaaGreatDoor
namespace Go.Proofs.YtnalffoigcmnnaaGreatDoor
open Go Go.Ae
set_option maxRecDepth 100000
variable {g h:AH} {L R:List SP}
section
variable {n a:Nat} {x:jG} {q:Na}
theorem ON {K:AV→Go.Ae.R} {Q:AV→AH→Prop} (w:wp (K (.bool false)) Q):wp (pEq .ptr true .nilp .nilp K) Q:=w
theorem Og {K:AV→Go.Ae.R} {Q:AV→AH→Prop} (w:wp (K (.bool true)) Q):wp (pEq .ptr false .nilp .nilp K) Q:=w
theorem JobC.P {vb:Nat} {p:RunS} {rv bv:AV} {gv:Int} (H:HS g h (JobC vb (.prog p) rv bv gv::R)):∃ib nx,(rv=.ptr ib 0∧bv=.nils∧gv=0)∧HS g h (IntC ib vb p.l 0 (qA p.l) p.s p.err p.fin p.left nx::R):=by obtain⟨z,H⟩:=(show HS g h (.ex (λz:Nat×Int=>SP.all [.pur (rv=.ptr z.1 0∧bv=.nils∧gv=0),IntC z.1 vb p.l 0 (qA p.l) p.s p.err p.fin p.left z.2])::R)from H).exE;exact⟨z.1,z.2,H.allE.purE⟩
theorem JobC.PI {vb ib:Nat} {p:RunS} {nx:Int} {rv bv:AV} {gv:Int} (e:rv=.ptr ib 0∧bv=.nils∧gv=0) (H:HS g h (IntC ib vb p.l 0 (qA p.l) p.s p.err p.fin p.left nx::R)):HS g h (JobC vb (.prog p) rv bv gv::R) :=
 show HS g h (.ex (λz:Nat×Int=>SP.all [.pur (rv=.ptr z.1 0∧bv=.nils∧gv=0),IntC z.1 vb p.l 0 (qA p.l) p.s p.err p.fin p.left z.2])::R)from
  HS.exI (ib,nx) (HS.allI (A:=[_,_]) (HS.purI e H))
theorem JobC.S {vb k:Nat} {bs:List Int} {rv bv:AV} {gv:Int} (H:HS g h (JobC vb (.sweep bs k) rv bv gv::R)):(rv=.nilp∧gv=(k:Int))∧HS g h (qD 3 1 bs.length bv (bs.map (.int .i64))::R) :=
 ((show HS g h (SP.all [.pur (rv=.nilp∧gv=(k:Int)),qD 3 1 bs.length bv (bs.map (.int .i64))]::R)from H).allE).purE
theorem JobC.SI {vb k:Nat} {bs:List Int} {rv bv:AV} {gv:Int} (e:rv=.nilp∧gv=(k:Int)) (H:HS g h (qD 3 1 bs.length bv (bs.map (.int .i64))::R)):HS g h (JobC vb (.sweep bs k) rv bv gv::R) :=
 show HS g h (SP.all [.pur (rv=.nilp∧gv=(k:Int)),qD 3 1 bs.length bv (bs.map (.int .i64))]::R)from HS.allI (A:=[_,_]) (HS.purI e H)
theorem qq4 {l:List Int} {k:Nat} (h:k<l.length):(l.map (.int .i64))[k]? =some (AV.int .i64 l[k]):=by rw[List.getElem?_map,iW h];rfl
theorem qko (hn:16≤n) (hg:jX x.v) (hf:frS x.v.lv<9000) (hj:JobOk True x.v x.job) (H:HS g h (qk a (zu x q)::JobC q.vb x.job q.rv q.bv q.gv::ViewC q.vb x.v::R)) :
  t_w n 89 [.ptr a 0] h λr h'=>r=.tup [.int .i64 (yR x).1.1,.int .i64 (yR x).1.2]∧
   ∃gv,HS g h' (qk a (zu (yR x).2 { q with gv:=gv })::JobC q.vb (yR x).2.job q.rv q.bv gv::ViewC q.vb (yR x).2.v::R):=by
 refine t_e1 (S:=S89) rfl omQ λk hk=>?_;unfold S89;try simp only[iZ]
 unfold yR;cases hx:x.job with
 |prog p=>
  rw[hx]at H hj;obtain⟨F,Q,gb,hr,hl⟩:=hj;obtain⟨G,h0,h1,h2⟩:=hr trivial;obtain⟨ib,nx,⟨e1,e2,e3⟩,H1⟩:=JobC.P (H.sel e_1);refine qq (qQ (qG H (b:=a) .here (x:=.ptr ib 0) (by rw[← e1];rfl) ?_));refine qQL (qX (qV ?_))
  try dsimp only
  refine qq (qQ (qG H (b:=a) .here (x:=.ptr ib 0) (by rw[← e1];rfl) ?_));rw[h0,h1]at H1;refine qW (qQ5 omQ F Q G h2 omQ (H1.sub (.cons .here (.cons e_1 (.cons .here .refl))))) ?_;rintro _ h3 ⟨rfl,nx',H3⟩;refine qq (qQ (qG H3 (b:=a) e_2 (x:=.ptr ib 0) (by rw[← e1];rfl) ?_));refine qW (qQN omQ H3) ?_;rintro _ _ ⟨rfl,rfl⟩;refine qp H .here (by rw[← e1];rfl) H3 e_2 (by rw[← e1];rfl) (HS.lt H .here) ?_;refine qY ⟨rfl,0,?_⟩;have H4:=(JobC.PI (p:=⟨p.l,(jZ p.l (qA p.l) p.left p.s x.v).s,if(jZ p.l (qA p.l) p.left p.s x.v).kind=1 then 0 else(jZ p.l (qA p.l) p.left p.s x.v).kind,(jZ p.l (qA p.l) p.left p.s x.v).err,(jZ p.l (qA p.l) p.left p.s x.v).left⟩) ⟨e1,e2,rfl⟩ H3).sub (.cons e_2 (.cons .here (.cons .here .refl)));have eg:zu x q=zu x { q with gv:=0 }:=by unfold zu;rw[e3]
  rw[eg]at H4;exact H4
 |sweep bs k=>
  rw[hx]at H hj;obtain⟨⟨e1,e2⟩,H1⟩:=JobC.S (H.sel e_1);refine qq (qQ (qG H (b:=a) .here (x:=.nilp) (by rw[← e1];rfl) ?_));refine ON (qJ ?_);have hkl:=hj.1;have hbl:=hj.2;dsimp only;generalize hG:jg x.v (bs.drop k) k=G
  refine jP (λm s h'=>s=(.ptr a 0,())∧∃(i:Nat) (V:VM),i≤bs.length∧m=bs.length-i∧jX V∧jg V (bs.drop i) i=G∧
    HS g h' (qk a (zu x { q with gv:=(i:Int) })::qD 3 1 bs.length q.bv (bs.map (.int .i64))::ViewC q.vb V::R))
   ?_ (m:=bs.length-k) (by show _<1000000000;omega) ⟨rfl,k,x.v,hkl,rfl,hg,hG,by
    have:q={ q with gv:=(k:Int) }:=by rw[← e2]
    rw[← this]
    exact H1.sub (.cons e_1 (.cons .here .refl))⟩
  clear H H1 hG;rintro m ih s h1 hih ⟨rfl,i,V,hi,rfl,hV,hG,H⟩;dsimp only;refine qq (qQ (qG H (b:=a) .here rfl ?_));refine qq (qQ (qG H (b:=a) .here rfl ?_));refine qs H e_1 ?_;by_cases hlt:i<bs.length
  ·refine zq (by show(i:Int)<_;omega) (qX ?_);refine qq (qQ (qG H (b:=a) .here rfl ?_));refine qq (qQ (qG H (b:=a) .here rfl ?_));refine qq (qQ (qG H (b:=a) .here rfl ?_));refine jA (H.sl e_1) (qq4 hlt) ?_;refine qW (qVp (b:=bs[i]) omQ (H.sel e_2) hV.ok) ?_;rintro _ h2 ⟨rfl,H2⟩;rw[List.drop_eq_getElem_cons hlt]at hG;by_cases h0:(zv V bs[i]).1=0
   ·refine qz h0 (qX ?_);refine qq (qQ (qG H2 (b:=a) e_1 (x:=.int .i64 (i:Int)) rfl ?_));refine qU omQ ?_;refine qq (qQ ?_);refine qH H2 (b:=a) e_1 ⟨rfl,rfl⟩ (by simp[zu]) λh3 H3=>?_;refine hih (bs.length-(i+1)) _ _ omQ ⟨rfl,i+1,(zv V bs[i]).2,by omega,rfl,hV.give.1,?_,H3.sub (.cons .here (.cons e_1 (.cons .here .refl)))⟩;rw[show jg V (bs[i]::bs.drop (i+1)) i=jg (zv V bs[i]).2 (bs.drop (i+1)) (i+1)from iJ h0]at hG;exact hG
   ·rw[show jg V (bs[i]::bs.drop (i+1)) i=((i,(zv V bs[i]).1),(zv V bs[i]).2)from iQ h0]at hG;subst hG;refine qZ h0 (qJ ?_);have H3:=(JobC.SI (vb:=q.vb) (k:=i) ⟨e1,rfl⟩ (H2.sub (.cons e_2 (.cons e_1 (.cons .here .refl))))).sub (.cons e_1 (.cons .here (.cons .here .refl)));by_cases h11:(zv V bs[i]).1=11
    ·refine qz h11 (qX (qx (qY ⟨?_,(i:Int),?_⟩)))
     ·rw[iJ h11];rfl
     ·exact H3
    ·refine qZ h11 (qJ (qx (qY ⟨?_,(i:Int),?_⟩)))
     ·rw[iQ h11,iQ h0];rfl
     ·exact H3
  ·obtain rfl:i=bs.length:=by omega
   rw[List.drop_length,show jg V [] bs.length=((bs.length,0),V)from rfl]at hG;subst hG;refine jo (by show¬(bs.length:Int)<_;omega) (qJ (qx (qY ⟨rfl,(bs.length:Int),?_⟩)));have H3:=(JobC.SI (vb:=q.vb) (k:=bs.length) ⟨e1,rfl⟩ (H.sub (.cons e_1 (.cons .here (.cons .here .refl))))).sub (.cons e_1 (.cons .here (.cons .here .refl)));exact H3
theorem Y6 {st:Int} {t b:Nat} (hn:1≤n) (H:HS g h (qk a (zu x q)::R)):t_w n 95 [.ptr a 0,.int .i64 st,.iface t (.ptr b 0)] h λ_ h'=>HS g h' (qk a (zu { x with state:=st } { q with iv:=.iface t (.ptr b 0) })::R):=by
 refine t_e3 (S:=S95) rfl omQ λk hk=>?_;unfold S95;try simp only[iZ]
 refine qq (qQ (qH H (b:=a) .here ⟨rfl,rfl⟩ (by simp[zu]) λh1 H1=>?_));refine qq (qQ (qH H1 (b:=a) .here ⟨rfl,rfl⟩ (by simp[zu]) λh2 H2=>?_));exact qY H2
theorem qJB {p:Int} (hn:3≤n) (hp:p<4611686018427387904) (H:HS g h (qk a (zu x q)::R)):t_w n 90 [.ptr a 0,.int .i64 p] h λ_ h'=>
  ∃b,HS g h' (qk b (gX (QA x p).f)::qk a (zu (QA x p) { q with iv:=.iface 107 (.ptr b 0),fv:=.ptr b 0 })::R):=by
 refine t_e2 (S:=S90) rfl omQ λk hk=>?_;unfold S90;try simp only[iZ]
 refine qV ?_
 try dsimp only
 refine qq (qQ (qG H (b:=a) .here rfl ?_));refine qq (qQ (jN (jN (qG H (b:=a) .here rfl ?_))));refine qq (qQ (jN (jN (qG H (b:=a) .here rfl ?_))));refine qW (qGo omQ hp) ?_;rintro _ _ ⟨rfl,rfl⟩;refine qq (qQ (jN (qG H (b:=a) .here rfl ?_)));refine qq (qQ (qG H (b:=a) .here rfl ?_));refine qW (qjS omQ H) ?_;rintro _ h1 ⟨b,rfl,H1⟩;refine qq (qQ ?_);refine qH H1 (b:=a) e_1 (x:=.ptr b 0) ⟨rfl,rfl⟩ (by simp[zu]) λh2 H2=>?_;refine qp H .here rfl H .here rfl (HS.lt H .here) ?_;refine qp H .here rfl H .here rfl (HS.lt H .here) ?_;refine qp H .here rfl H .here rfl (HS.lt H .here) ?_;have H3:HS g h2 (qk a (zu { x with f:=kY x.me p (ofM p x.set.stripes x.set.wide) x.set.spins x.stamp } { q with fv:=.ptr b 0 })::qk b (gX (kY x.me p (ofM p x.set.stripes x.set.wide) x.set.spins x.stamp))::R):=H2;refine qq (qQ (qG H3 (b:=a) .here rfl ?_));refine qW (Y6 omQ H3) λ_ h4 H4=>qY ⟨b,H4.sub (.cons e_1 (.cons .here .refl))⟩
theorem VK {st:Int} (hn:4≤n) (hr:x.r.length≤16) (H:HS g h (qk a (zu x q)::RdsC q.db x.r::R)):t_w n 92 [.ptr a 0,.int .i64 st] h λ_ h'=>
  ∃b,HS g h' (ExtC b (yY x st).e::qk a (zu (yY x st) { q with iv:=.iface 108 (.ptr b 0),ev:=.ptr b 0 })::RdsC q.db x.r::R):=by
 refine t_e2 (S:=S92) rfl omQ λk hk=>?_;unfold S92;try simp only[iZ]
 refine qV ?_
 try dsimp only
 refine qq (qQ (qG H (b:=a) .here rfl ?_));refine qq (qQ (jN (qG H (b:=a) .here rfl ?_)));refine qq (qQ (qG H (b:=a) .here rfl ?_));refine qW (qQH omQ omQ (H.sel e_1)) λv h1 H1=>?_;refine qW (qj1 (me:=x.me) (sp:=x.set.spins) (r:=x.r) omQ omQ H1) ?_;rintro _ h2 ⟨b,rfl,H2⟩;refine qq (qQ ?_);refine qH H2 (b:=a) e_2 (x:=.ptr b 0) ⟨rfl,rfl⟩ (by simp[zu]) λh3 H3=>?_;refine qp H .here rfl H1 e_2 rfl (HS.lt H .here) ?_;refine qp H .here rfl H1 e_2 rfl (HS.lt H .here) ?_;have H4:HS g h3 (qk a (zu { x with e:=UA x.me x.set.spins x.r } { q with ev:=.ptr b 0 })::ExtC b (UA x.me x.set.spins x.r)::RdsC q.db x.r::R):=H3;refine qq (qQ (qG H4 (b:=a) .here rfl ?_));refine qW (Y6 omQ H4) λ_ h5 H5=>qY ⟨b,H5.sub (.cons e_1 (.cons .here .refl))⟩
end
end Go.Proofs.YtnalffoigcmnnaaGreatDoor
