/- Lemmas for 'quietus/quietuslaw29.HistoryMade', walks of its functions among them. No condition. -/
import Derived.Test.YtaljafbgbfmcbaaGreatHistoryMadeAe7
import Derived.Test.YtaljafbgbfmcbaaGreatHistoryMadeT
import Derived.KernelRfl
namespace Go.Proofs.YtaljafbgbfmcbaaGreat
open Go Go.Ae
set_option maxRecDepth 100000
section
abbrev aF (i:Nat):AV:=.int .i64 (i:Int)
structure BU (vf:AV) (b m0 N:Nat) (lt:Nat→Nat→Prop) (Ok:AH→Prop):Prop where
  run:∀m,m0≤m→∀g,Ok g→∀i j,i<N→j<N→wp (callT tab qL m vf [aF i,aF j] g) λv g'=>(∃z:Int,v=.int .i64 z∧(z<0↔lt i j))∧fj g.nx g g'
  fr:∀g g',Ok g→Fr (λy=>y=b∨g.nx≤y) g g'→Ok g'
  Av:∀i j,lt i j→¬lt j i
  ntrans:∀i j k,j<N→¬lt j i→¬lt k j→¬lt k i
theorem qZM {n:Nat} (hn:1≤n) {a b:Nat} {d vf:AV} {h:AH} (EH:b≤a+1) (ha:a<1000000):ba n 70 [d,aF a,aF b,vf] h λ_ h'=>h'=h:=by
 refine tH (S:=S70) rfl omQ λk hk=>?_;unfold S70;try simp only[iZ]
 refine qE omQ ?_;refine jB (λm s g=>s=(.int .i64 ((a:Int)+((1:Nat):Int)),vf,aF b,aF a,d,())∧g=h) ?_ (m:=0) od ⟨rfl,rfl⟩;rintro m ih s g _ ⟨rfl,rfl⟩;dsimp only;refine j8 (λhc=>by omega) λhc=>qJ (qj (qq rfl))
end
section
section
variable {n N b:Nat} {e:TypeId} {g h:AH} {k0:IntKind}
theorem we {L T xs:List Nat} {x i:Nat} {K:AV→Go.Ae.R} {Q:AV→AH→Prop} (A:Row g b (xs.map aF) e false) (hl:xs.length=N) (hx:xs=L++x::T) (hi:i=L.length) (w:wp (K (aF x)) Q):wp (yt (.slice b 0 N N false) (.int k0 (i:Int)) 1 λp=>jK g p K) Q:=by subst hx hi;refine zO (Sl.m9 A trivial (by grind):Sl (λ_=>True) g 1 N (.slice b 0 N N false) _) (x:=aF x) ?_ w;simp
theorem Yf {L T xs:List Nat} {x y i:Nat} {K:AH→Go.Ae.R} {Q:AV→AH→Prop} (A:Row g b (xs.map aF) e false) (hl:xs.length=N) (hx:xs=L++x::T) (hi:i=L.length) (w:∀h',Row h' b ((L++y::T).map aF) e false→Fr (λz=>z=b) g h'→wp (K h') Q) :
  wp (yt (.slice b 0 N N false) (.int k0 (i:Int)) 1 λp=>jw g p (aF y) 1 K) Q:=by
 subst hx hi;have ap:L.length<N:=by grind
 refine TP A rfl rfl ap (by simp) λh' A' F _=>w h' ?_ F;simp_all
theorem Nk {vf:AV} {a c m:Nat} {P A M B S:List Nat} (hn:1≤n) (hA:A.length=m) (hB:B.length=m) (hN:(P++A++M++B++S).length=N) (rB:N≤1000000) (ha:a=P.length) (hc:c=P.length+m+M.length) (R0:Row h b ((P++A++M++B++S).map aF) e false) :
  ba n 108 [.slice b 0 N N false,aF a,aF c,aF m,vf] h λ_ h'=>Row h' b ((P++B++M++A++S).map aF) e false∧Fr (λy=>y=b) h h':=by
 refine q8 (g:=(Bp S108)) rfl omQ λk hk=>?_;show wp (S108 (callT tab qL k) (.slice b 0 N N false) (aF a) (aF c) (aF m) vf h).1 _;unfold S108
 try simp only[iZ]
 have hs:P.length+A.length+M.length+B.length+S.length=N:=by grind
 refine jB (λcc z g=>∃(i:Nat) (A1 A2 B1 B2:List Nat),z=(aF i,aF m,aF c,aF a,.slice b 0 N N false,())∧A=A1++A2∧B=B1++B2∧A1.length=i∧B1.length=i∧cc=m-i∧
   Row g b ((P++B1++A2++M++A1++B2++S).map aF) e false∧Fr (λy=>y=b) h g)
  ?_ (m:=m) (by grind) ⟨0,[],A,[],B,rfl,rfl,rfl,rfl,rfl,rfl,by grind,Fr.refl _ _⟩
 rintro cc ih z g bj ⟨i,A1,A2,B1,B2,rfl,rfl,rfl,h1,h2,rfl,R1,F1⟩;dsimp only;rw[List.length_append]at hA hB;refine j8 (λhl=>qK ?_) λhl=>qJ (qj (qq ?_))
 ·obtain⟨x,A2,rfl⟩:∃x A3,A2=x::A3:=by cases A2 with |nil=>grind |cons x A3=>simp
  obtain⟨y,B2,rfl⟩:∃y B3,B2=y::B3:=by cases B2 with |nil=>grind |cons y B3=>simp
  simp only[List.length_cons,List.length_append]at hA hB hs;have lL:(P++B1++x::A2++M++A1++y::B2++S).length=N:=by simp;omega
  refine qE omQ (qE omQ (qE omQ ?_));rw[show((c:Nat):Int)+(i:Int)=((c+i:Nat):Int) by rfl,show((a:Nat):Int)+(i:Int)=((a+i:Nat):Int) by rfl];refine we R1 lL (L:=P++B1++x::A2++M++A1) (x:=y) (T:=B2++S) aM (by grind) ?_;refine qE omQ ?_;rw[show((a:Nat):Int)+(i:Int)=((a+i:Nat):Int) by rfl];refine we R1 lL (L:=P++B1) (x:=x) (T:=A2++M++A1++y::B2++S) aM (by grind) ?_;refine Yf R1 lL (L:=P++B1) (x:=x) (y:=y) (T:=A2++M++A1++y::B2++S) aM (by grind) λh3 R3 F3=>?_;refine Yf R3 (N:=N) (by grind) (L:=P++B1++y::A2++M++A1) (x:=y) (y:=x) (T:=B2++S) aM (by simp;omega) λh4 R4 F4=>?_;refine qE omQ ?_;refine bj (A1.length+(A2.length+1)-(i+1)) _ _ omQ ⟨i+1,A1++[x],A2,B1++[y],B2,rfl,by simp,by simp,by grind,by grind,by omega,?_,((F1.trans F3).trans F4).mono (by simp)⟩;simpa using R4
 ·obtain rfl:A2=[]:=iA omQ;obtain rfl:B2=[]:=iA omQ;grind
theorem jZr {vf:AV} {a m q:Nat} {P U V S:List Nat} (hn:2≤n) (hU:0<U.length) (hV:0<V.length) (hN:(P++U++V++S).length=N) (rB:N≤1000000) (ha:a=P.length) (hm:m=P.length+U.length) (hq:q=P.length+U.length+V.length) (R0:Row h b ((P++U++V++S).map aF) e false) :
  ba n 91 [.slice b 0 N N false,aF a,aF m,aF q,vf] h λ_ h'=>Row h' b ((P++V++U++S).map aF) e false∧Fr (λy=>y=b) h h':=by
 refine tI (S:=S91) rfl omQ λk hk=>?_;unfold S91;try simp only
 have hs:P.length+U.length+V.length+S.length=N:=by grind
 refine qn omQ (qn omQ ?_);rw[show((m:Nat):Int)-(a:Int)=((U.length:Nat):Int) by omega,show((q:Nat):Int)-(m:Int)=((V.length:Nat):Int) by omega]
 refine jB (λcc z g=>∃(P1 U1 V1 S1:List Nat),z=(aF V1.length,aF U1.length,vf,aF m,.slice b 0 N N false,())∧0<U1.length∧0<V1.length∧m=P1.length+U1.length∧P1.length+U1.length+V1.length+S1.length=N∧P1++V1++U1++S1=P++V++U++S∧cc=U1.length+V1.length∧
   Row g b ((P1++U1++V1++S1).map aF) e false∧Fr (λy=>y=b) h g)
  ?_ (m:=U.length+V.length) (by grind) ⟨P,U,V,S,rfl,hU,hV,hm,hs,rfl,rfl,R0,Fr.refl _ _⟩
 rintro cc ih z g bj ⟨P1,U1,V1,S1,rfl,hu,hv,sr,lO,he,rfl,R1,F1⟩;dsimp only;by_cases hE:U1.length=V1.length
 ·refine jR omQ (qJ ?_);refine qn omQ ?_;rw[show((m:Nat):Int)-((U1.length:Nat):Int)=((P1.length:Nat):Int) by omega];refine qY (Nk (P:=P1) (A:=U1) (M:=[]) (B:=V1) (S:=S1) omQ rfl hE.symm (by grind) rB rfl (by grind) (by simpa using R1)) ?_;rintro _ h2 ⟨R2,F2⟩;refine qj (qq ⟨?_,(F1.trans F2).mono (by simp)⟩);grind
 refine jb omQ (qK (qG ?_))
 try dsimp only
 by_cases hg:V1.length<U1.length
 ·refine xL omQ (qK ?_);refine qn omQ ?_;rw[show((m:Nat):Int)-((U1.length:Nat):Int)=((P1.length:Nat):Int) by omega];have eU:U1=U1.take V1.length++U1.drop V1.length:=(List.take_append_drop _ _).symm;have l1:(U1.take V1.length).length=V1.length:=by grind
  have l2:(U1.drop V1.length).length=U1.length-V1.length:=by simp
  generalize hA:U1.take V1.length=A at*;generalize hB:U1.drop V1.length=B at*;rw[eU]at R1;refine qY (Nk (P:=P1) (A:=A) (M:=B) (B:=V1) (S:=S1) omQ l1 rfl (by grind) rB rfl omQ (by simpa using R1)) ?_;rintro _ h2 ⟨R2,F2⟩;refine qn omQ ?_;rw[show((U1.length:Nat):Int)-((V1.length:Nat):Int)=((B.length:Nat):Int) by omega];refine bj (B.length+A.length) _ _ omQ ⟨P1++V1,B,A,S1,by rw[l1],by omega,by omega,by grind,by grind,?_,rfl,by grind,(F1.trans F2).mono (by simp)⟩;grind
 ·refine xJ omQ (qJ ?_);refine qn omQ (qE omQ (qn omQ ?_));rw[show((m:Nat):Int)-((U1.length:Nat):Int)=((P1.length:Nat):Int) by omega,show((m:Nat):Int)+((V1.length:Nat):Int)-((U1.length:Nat):Int)=((P1.length+V1.length:Nat):Int) by omega];have eV:V1=V1.take (V1.length-U1.length)++V1.drop (V1.length-U1.length):=(List.take_append_drop _ _).symm;have l1:(V1.take (V1.length-U1.length)).length=V1.length-U1.length:=by simp
  have l2:(V1.drop (V1.length-U1.length)).length=U1.length:=by grind
  generalize hA:V1.take (V1.length-U1.length)=A at*;generalize hB:V1.drop (V1.length-U1.length)=B at*;rw[eV]at R1;refine qY (Nk (P:=P1) (A:=U1) (M:=A) (B:=B) (S:=S1) omQ rfl l2 (by grind) rB rfl omQ (by simpa using R1)) ?_;rintro _ h2 ⟨R2,F2⟩;refine qn omQ ?_;rw[show((V1.length:Nat):Int)-((U1.length:Nat):Int)=((A.length:Nat):Int) by omega];refine bj (B.length+A.length) _ _ omQ ⟨P1,B,A,U1++S1,by rw[l2],by omega,by omega,by omega,by grind,?_,rfl,by grind,(F1.trans F2).mono (by simp)⟩;grind
end
end
section
section
variable {n m0 N b:Nat} {e:TypeId} {vf:AV} {lt:Nat→Nat→Prop} {Ok:AH→Prop} {h:AH}
theorem qGu {a q:Nat} {P X S:List Nat} (Cm:BU vf b m0 N lt Ok) (hn:m0+1≤n) (hN:(P++X++S).length=N) (rB:N≤1000000) (hr:∀x∈X,x<N) (hX:0<X.length) (ha:a=P.length) (hq:q=P.length+X.length)
  (A:Row h b ((P++X++S).map aF) e false) (cH:Ok h) :
  ba n 70 [.slice b 0 N N false,aF a,aF q,vf] h λ_ h'=>
   ∃Y:List Nat,Y.Perm X∧Y.Pairwise (λx y=>¬lt y x)∧Row h' b ((P++Y++S).map aF) e false∧Fr (λy=>y=b∨h.nx≤y) h h'∧Ok h':=by
 have hb:=A.lt;have hs:P.length+X.length+S.length=N:=by grind
 refine tH (S:=S70) rfl omQ λk hk=>?_;unfold S70;try simp only[iZ]
 refine qE omQ ?_;rw[show((a:Nat):Int)+((1:Nat):Int)=((a+1:Nat):Int) by rfl];refine jB (λm s g=>∃(i:Nat) (A1 C:List Nat),s=(aF i,vf,aF q,aF a,.slice b 0 N N false,())∧i=a+A1.length∧1≤A1.length∧A1.length+C.length=X.length∧m=C.length∧(A1++C).Perm X∧A1.Pairwise (λx y=>¬lt y x)∧Row g b ((P++A1++C++S).map aF) e false∧Fr (λy=>y=b∨h.nx≤y) h g∧Ok g) ?_ (m:=X.length-1) (by grind) ?_
 rotate_left
 ·obtain⟨x,r,rfl⟩:∃x r,X=x::r:=by cases X with |nil=>grind |cons x r=>simp
  exact⟨a+1,[x],r,rfl,rfl,Nat.le_refl _,by grind,by simp,List.Perm.refl _,List.pairwise_singleton _ _,by grind,Fr.refl _ _,cH⟩
 rintro m ih s g bj ⟨i,A1,C,rfl,h0,h1,h2,rfl,h4,h5,B1,F1,O1⟩;dsimp only;refine j8 (λhc=>qK ?_) λhc=>qJ (qj (qq ?_))
 rotate_left
 ·obtain rfl:C=[]:=iA omQ;grind
 obtain⟨c,C',rfl⟩:∃c C',C=c::C':=by cases C with |nil=>grind |cons c C'=>simp
 simp only[List.length_cons]at h2;refine jB (λm s g'=>∃(j:Nat) (L B:List Nat),s=(aF j,aF i,vf,aF q,aF a,.slice b 0 N N false,())∧j=a+L.length∧m=L.length∧L++B=A1∧(∀y∈B,lt c y)∧Row g' b ((P++L++c::B++C'++S).map aF) e false∧Fr (λy=>y=b∨h.nx≤y) h g'∧Ok g') ?_ (m:=A1.length) (by grind)
  ⟨i,A1,[],rfl,h0,rfl,by simp,λy hy=>(by grind),by grind,F1,O1⟩
 rintro m2 ih2 s g' lD ⟨j,L,B,rfl,hj,rfl,EQ,hB,A2,F2,O2⟩;dsimp only;have Wa:L.length+B.length=A1.length:=by grind
 have hlen:(P++L++c::B++C'++S).length=N:=by grind
 have lx:∀x∈L++c::B++C',x<N:=by intro x hx;refine hr x (h4.mem_iff.1 ?_);grind
 have sA:b<g'.nx:=A2.lt;have stay:∀g3,Row g3 b ((P++L++c::B++C'++S).map aF) e false→Fr (λy=>y=b∨h.nx≤y) h g3→Ok g3→(∀x∈L,¬lt c x)→wp (ih (.int .i64 ((i:Int)+((1:Nat):Int)),vf,aF q,aF a,.slice b 0 N N false,()) g3 []) λ_ h'=>
   ∃Y:List Nat,Y.Perm X∧Y.Pairwise (λx y=>¬lt y x)∧Row h' b ((P++Y++S).map aF) e false∧Fr (λy=>y=b∨h.nx≤y) h h'∧Ok h':=by
  intro g3 A3 F3 O3 hL;refine bj C'.length _ _ aM ⟨i+1,L++c::B,C',rfl,by grind,by grind,by grind,rfl,?_,?_,by grind,F3,O3⟩
  ·grind
  ·rw[← EQ,List.pairwise_append]at h5;obtain⟨p1,p2,p3⟩:=h5;rw[List.pairwise_append];refine⟨p1,List.pairwise_cons.2 ⟨λy hy=>Cm.Av _ _ (hB y hy),p2⟩,?_⟩;grind
 refine kw (λrY=>?_) λrY=>?_
 rotate_left
 ·obtain rfl:L=[]:=iA omQ
  repeat (first |with_reducible refine qK ?_ |with_reducible refine qJ ?_ |(with_reducible refine qf ?_;try dsimp only) |(with_reducible refine ql ?_;try dsimp only) |(with_reducible refine qe ?_;try dsimp only) |(with_reducible refine qP ?_;try dsimp only) |(with_reducible refine zQ ?_;try dsimp only) |with_reducible refine qF ?_ |with_reducible refine qy ?_ |(with_reducible refine qG ?_;try dsimp only) |with_reducible refine qj ?_ |with_reducible refine jE ?_ |with_reducible refine jo ?_ |with_reducible refine qE omQ ?_ |with_reducible refine qn omQ ?_ |with_reducible refine yK omQ ?_ |with_reducible refine yc omQ ?_ |with_reducible refine vX ?_ |with_reducible refine vy ?_)
  exact stay g' A2 F2 O2 (λx hx=>by grind)
 obtain⟨L',y,rfl⟩:∃L' y,L=L'++[y]:=⟨L.dropLast,L.getLast (by grind),(List.dropLast_concat_getLast _).symm⟩;simp only[List.length_append,List.length_singleton]at hj Wa
 repeat (first |with_reducible refine qK ?_ |with_reducible refine qJ ?_ |(with_reducible refine qf ?_;try dsimp only) |(with_reducible refine ql ?_;try dsimp only) |(with_reducible refine qe ?_;try dsimp only) |(with_reducible refine qP ?_;try dsimp only) |(with_reducible refine zQ ?_;try dsimp only) |with_reducible refine qF ?_ |with_reducible refine qy ?_ |(with_reducible refine qG ?_;try dsimp only) |with_reducible refine qj ?_ |with_reducible refine jE ?_ |with_reducible refine jo ?_ |with_reducible refine qE omQ ?_ |with_reducible refine qn omQ ?_ |with_reducible refine yK omQ ?_ |with_reducible refine yc omQ ?_ |with_reducible refine vX ?_ |with_reducible refine vy ?_)
 refine we A2 hlen (L:=P++(L'++[y])) (x:=c) (T:=B++C'++S) aM (by grind) ?_;refine qn omQ ?_;rw[show((j:Nat):Int)-((1:Nat):Int)=((j-1:Nat):Int) by omega];refine we A2 hlen (L:=P++L') (x:=y) (T:=c::B++C'++S) aM (by simp;omega) ?_;refine qY (Cm.run _ omQ g' O2 c y (lx c aM) (lx y aM)) ?_;rintro v g3 ⟨⟨z,rfl,hz⟩,F3⟩;have A3:=A2.bU F3 sA;have tQ:Fr (λy=>y=b∨h.nx≤y) h g3:=(F2.trans F3).mono (by rintro x _ (hx |hx);exact hx;exact .inr (Nat.le_trans F2.nx hx));have O3:Ok g3:=Cm.fr g' g3 O2 (F3.mono λx _ hx=>.inr hx);refine j8 (λap=>?_) λap=>?_
 ·repeat (first |with_reducible refine qK ?_ |with_reducible refine qJ ?_ |(with_reducible refine qf ?_;try dsimp only) |(with_reducible refine ql ?_;try dsimp only) |(with_reducible refine qe ?_;try dsimp only) |(with_reducible refine qP ?_;try dsimp only) |(with_reducible refine zQ ?_;try dsimp only) |with_reducible refine qF ?_ |with_reducible refine qy ?_ |(with_reducible refine qG ?_;try dsimp only) |with_reducible refine qj ?_ |with_reducible refine jE ?_ |with_reducible refine jo ?_ |with_reducible refine qE omQ ?_ |with_reducible refine qn omQ ?_ |with_reducible refine yK omQ ?_ |with_reducible refine yc omQ ?_ |with_reducible refine vX ?_ |with_reducible refine vy ?_)
  rw[show((j:Nat):Int)-((1:Nat):Int)=((j-1:Nat):Int) by omega];refine we A3 hlen (L:=P++L') (x:=y) (T:=c::B++C'++S) aM (by simp;omega) ?_;refine we A3 hlen (L:=P++(L'++[y])) (x:=c) (T:=B++C'++S) aM (by grind) ?_;refine Yf A3 hlen (L:=P++(L'++[y])) (x:=c) (y:=y) (T:=B++C'++S) aM (by grind) λRf A4 F4=>?_;refine Yf A4 (N:=N) (by grind) (L:=P++L') (x:=y) (y:=c) (T:=y::B++C'++S) aM (by simp;omega) λsy A5 F5=>?_;refine qn omQ ?_;rw[show((j:Nat):Int)-((1:Nat):Int)=((j-1:Nat):Int) by omega];refine lD L'.length _ _ aM ⟨j-1,L',y::B,rfl,by omega,rfl,by grind,?_,by grind,?_,?_⟩
  ·grind
  ·exact((tQ.trans F4).trans F5).mono (by grind)
  ·exact Cm.fr g3 sy O3 ((F4.trans F5).mono (by grind))
 ·repeat (first |with_reducible refine qK ?_ |with_reducible refine qJ ?_ |(with_reducible refine qf ?_;try dsimp only) |(with_reducible refine ql ?_;try dsimp only) |(with_reducible refine qe ?_;try dsimp only) |(with_reducible refine qP ?_;try dsimp only) |(with_reducible refine zQ ?_;try dsimp only) |with_reducible refine qF ?_ |with_reducible refine qy ?_ |(with_reducible refine qG ?_;try dsimp only) |with_reducible refine qj ?_ |with_reducible refine jE ?_ |with_reducible refine jo ?_ |with_reducible refine qE omQ ?_ |with_reducible refine qn omQ ?_ |with_reducible refine yK omQ ?_ |with_reducible refine yc omQ ?_ |with_reducible refine vX ?_ |with_reducible refine vy ?_)
  refine stay g3 A3 tQ O3 ?_;intro x hx;have hcy:¬lt c y:=λh=>ap (hz.2 h);rcases List.mem_append.1 hx with hx |hx
  ·rw[← EQ,List.append_assoc,List.pairwise_append]at h5;exact Cm.ntrans x y c (lx y aM) (h5.2.2 x hx y aM) hcy
  grind
theorem Qt (Cm:BU vf b m0 N lt Ok) {A B:List Nat} (hA:A.Pairwise λx y=>¬lt y x) (hB:B.Pairwise λx y=>¬lt y x) (hmA:∀x∈A,x<N) (hmB:∀x∈B,x<N) (hx:∀(L:List Nat) (x y:Nat) (T:List Nat),A=L++[x]→B=y::T→¬lt y x):∀x∈A,∀y∈B,¬lt y x:=by
 intro x hxA y hyB;obtain⟨L,w,rfl⟩:∃L w,A=L++[w]:=⟨A.dropLast,A.getLast (by grind),(List.dropLast_concat_getLast _).symm⟩;obtain⟨u,T,rfl⟩:∃u T,B=u::T:=by cases B with |nil=>grind |cons u T=>simp
 have h1:=hx L w u T rfl rfl;rw[List.pairwise_append]at hA;rw[List.pairwise_cons]at hB;have h2:¬lt u x:=by
  rcases List.mem_append.1 hxA with h |h
  ·exact Cm.ntrans x w u (hmA w aM) (hA.2.2 x h w aM) h1
  grind
 rcases List.mem_cons.1 hyB with h |h
 ·grind
 ·exact Cm.ntrans x u y (hmB u aM) h2 (hB.1 y h)
end
end
section
section
variable {m0 N b:Nat} {e:TypeId} {vf:AV} {lt:Nat→Nat→Prop} {Ok:AH→Prop}
theorem VH {i j:Nat} {K:AV→Go.Ae.R} {Q:AV→AH→Prop} (h:i+j<1000000000) (w:wp (K (aF ((i+j)/2))) Q) :
  wp (j6 .add (aF i) (aF j) λv=>QI .u64 v λv=>wh .shr v (.int .u64 ((1:Nat):Int)) λv=>QI .i64 v K) Q:=by
 refine qE omQ (gC omQ (jJ1 omQ ?_));have e:((i:Int)+(j:Int)).fdiv (2 ^ (min ((1:Nat):Int).toNat IntKind.u64.bits))=(((i+j)/2:Nat):Int):=by show((i:Int)+(j:Int)).fdiv (2 ^ 1)=_;grind
 rw[e];exact yP omQ w
theorem qG4 {g:AH} {xs:List Nat} {k:Nat} {k0:IntKind} {K:AV→Go.Ae.R} {Q:AV→AH→Prop} (A:Row g b (xs.map aF) e false) (hl:xs.length=N) (hk:k<N) (w:wp (K (aF (xs.getD k 0))) Q):wp (yt (.slice b 0 N N false) (.int k0 (k:Int)) 1 λp=>jK g p K) Q:=by refine zO (Sl.m9 A trivial (by grind):Sl (λ_=>True) g 1 N (.slice b 0 N N false) _) (x:=aF (xs.getD k 0)) ?_ w;grind
theorem Uw {L T:List Nat} {x k:Nat} (hk:k=L.length):(L++x::T).getD k 0=x:=by grind
abbrev VS (lt:Nat→Nat→Prop) (Ok:AH→Prop) (b:Nat) (e:TypeId) (P X Y S:List Nat) (h h':AH):Prop :=
 ∃Z:List Nat,Z.Perm (X++Y)∧Z.Pairwise (λx y=>¬lt y x)∧Row h' b ((P++Z++S).map aF) e false∧Fr (λy=>y=b∨h.nx≤y) h h'∧Ok h'
theorem qxe {n a q:Nat} {P Y S:List Nat} {x:Nat} {h:AH} (Cm:BU vf b m0 N lt Ok) (hn:m0+1≤n) (hN:(P++[x]++Y++S).length=N) (rB:N≤1000000) (hr:∀z∈x::Y,z<N) (hY:Y.Pairwise λx y=>¬lt y x) (ha:a=P.length) (hq:q=a+1+Y.length)
  (A:Row h b ((P++[x]++Y++S).map aF) e false) (cH:Ok h) :
  ba n 71 [.slice b 0 N N false,aF a,aF (a+1),aF q,vf] h λ_ h'=>VS lt Ok b e P [x] Y S h h':=by
 have hb:=A.lt;have hs:P.length+1+Y.length+S.length=N:=by grind
 refine tI (S:=S71) rfl omQ λk hk=>?_;unfold S71;try simp only[iZ]
 refine qn omQ (qk omQ (qK ?_))
 refine jB (λc s g=>∃(i j:Nat) (Y1 Yc Y2:List Nat),s=(aF j,aF i,vf,aF a,.slice b 0 N N false,())∧Y=Y1++Yc++Y2∧i=a+1+Y1.length∧j=a+1+Y1.length+Yc.length∧c=Yc.length∧
   (∀L y,Y1=L++[y]→lt y x)∧(∀y T,Y2=y::T→¬lt y x)∧Row g b ((P++[x]++Y++S).map aF) e false∧Fr (λy=>y=b∨h.nx≤y) h g∧Ok g) ?_ (m:=Y.length) (by grind)
  ⟨a+1,q,[],Y,[],rfl,by simp,rfl,by grind,rfl,λL y h=>(by grind),λy T h=>(by grind),A,Fr.refl _ _,cH⟩
 rintro c ih s g bj ⟨i,j,Y1,Yc,Y2,rfl,eY,hi,hj,rfl,q1,q2,A1,F1,O1⟩;dsimp only;have Wb:Y.length=Y1.length+Yc.length+Y2.length:=by grind
 refine j8 (λhc=>qK (qG ?_)) λhc=>qJ ?_
 ·try dsimp only
  refine VH omQ ?_;have iN:Yc.length/2<Yc.length:=by omega
  obtain⟨C1,y,C2,eC,hC1⟩:∃C1 y C2,Yc=C1++y::C2∧C1.length=Yc.length/2:=⟨Yc.take (Yc.length/2),Yc[Yc.length/2],Yc.drop (Yc.length/2+1),by simp,by grind⟩;rw[show(i+j)/2=a+1+Y1.length+C1.length by omega];have tk:Yc.length=C1.length+1+C2.length:=by grind
  have hy:y∈Y:=by grind
  refine we A1 hN (L:=P++[x]++Y1++C1) (x:=y) (T:=C2++Y2++S) (by grind) (by grind) ?_;refine we A1 hN (L:=P) (x:=x) (T:=Y++S) aM ha ?_;refine qY (Cm.run _ omQ g O1 y x (hr y (by grind)) (hr x aM)) ?_;rintro v g3 ⟨⟨z,rfl,hz⟩,F3⟩;have A3:=A1.bU F3 A1.lt;have tQ:Fr (λy=>y=b∨h.nx≤y) h g3:=(F1.trans F3).mono (by rintro x _ (hx |hx);exact hx;exact .inr (Nat.le_trans F1.nx hx));have O3:Ok g3:=Cm.fr g g3 O1 (F3.mono λx _ hx=>.inr hx);refine j8 (λap=>qK (qE omQ ?_)) λap=>qJ ?_
  ·rw[show((a+1+Y1.length+C1.length:Nat):Int)+((1:Nat):Int)=((a+1+Y1.length+C1.length+1:Nat):Int) by rfl];refine bj C2.length _ _ omQ ⟨_,j,Y1++C1++[y],C2,Y2,rfl,by grind,by grind,by grind,rfl,λL w hw=>?_,q2,A3,tQ,O3⟩;have:=(List.append_inj' hw rfl).2;grind
  ·refine bj C1.length _ _ omQ ⟨i,_,Y1,C1,y::C2++Y2,rfl,by grind,hi,rfl,rfl,q1,λw T hw=>?_,A3,tQ,O3⟩;grind
 ·obtain rfl:Yc=[]:=iA omQ;rw[List.append_nil]at eY;clear bj ih;refine jB (λc s g'=>∃(k':Nat) (C D:List Nat),s=(aF k',aF i,.slice b 0 N N false,())∧Y1=C++D∧k'=a+C.length∧c=D.length∧Row g' b ((P++C++x::D++Y2++S).map aF) e false∧Fr (λy=>y=b∨h.nx≤y) h g'∧Ok g') ?_ (m:=Y1.length) (by grind)
   ⟨a,[],Y1,rfl,rfl,rfl,rfl,by grind,F1,O1⟩
  rintro c ih s g' bj ⟨k',C,D,rfl,eC,oh,rfl,A2,F2,O2⟩;dsimp only;have Rm:Y1.length=C.length+D.length:=by grind
  refine qn omQ ?_;refine j8 (λhc=>qK ?_) λhc=>qJ (qj (qq ?_))
  ·obtain⟨y,D',rfl⟩:∃y D',D=y::D':=by cases D with |nil=>grind |cons y D'=>simp
   simp only[List.length_cons,List.length_nil]at Rm Wb;have iC:(P++C++x::y::D'++Y2++S).length=N:=by grind
   refine qE omQ (qE omQ ?_);rw[show((k':Nat):Int)+((1:Nat):Int)=((k'+1:Nat):Int) by rfl];refine we A2 iC (L:=P++C++[x]) (x:=y) (T:=D'++Y2++S) aM (by grind) ?_;refine we A2 iC (L:=P++C) (x:=x) (T:=y::D'++Y2++S) aM (by grind) ?_;refine Yf A2 iC (L:=P++C) (x:=x) (y:=y) (T:=y::D'++Y2++S) aM (by grind) λh4 A4 F4=>?_;refine Yf A4 (N:=N) (by grind) (L:=P++C++[y]) (x:=y) (y:=x) (T:=D'++Y2++S) aM (by grind) λh5 A5 F5=>?_;refine qE omQ ?_;rw[show((k':Nat):Int)+((1:Nat):Int)=((k'+1:Nat):Int) by rfl];refine bj D'.length _ _ aM ⟨k'+1,C++[y],D',rfl,by grind,by grind,rfl,by grind,?_,?_⟩
   ·exact((F2.trans F4).trans F5).mono (by grind)
   ·exact Cm.fr g' h5 O2 ((F4.trans F5).mono (by grind))
  ·obtain rfl:D=[]:=iA (by grind);rw[List.append_nil]at eC;subst eC;refine⟨Y1++x::Y2,by grind,?_,by grind,F2,O2⟩;rw[eY]at hY hr;rw[List.pairwise_append]at hY;obtain⟨p1,p2,p3⟩:=hY;have m1:∀z∈Y1,z<N:=λz hz=>hr z (by grind);have m2:∀z∈Y2,z<N:=λz hz=>hr z (by grind);have mx:∀z∈[x],z<N:=λz hz=>hr z (by grind);have x1:=Qt Cm p1 (List.pairwise_singleton _ x) m1 mx (λL w y T e1 e2=>by cases e2;exact Cm.Av _ _ (q1 L w e1))
   have x2:=Qt Cm (List.pairwise_singleton _ x) p2 mx m2 (λL w y T e1 e2=>by
    grind)
   grind
theorem qWr {n a m q:Nat} {P X S:List Nat} {y:Nat} {h:AH} (Cm:BU vf b m0 N lt Ok) (hn:m0+1≤n) (hN:(P++X++[y]++S).length=N) (rB:N≤1000000) (hr:∀z∈X++[y],z<N) (hX:X.Pairwise λx y=>¬lt y x) (hX2:2≤X.length) (ha:a=P.length) (hm:m=a+X.length) (hq:q=m+1)
  (A:Row h b ((P++X++[y]++S).map aF) e false) (cH:Ok h) :
  ba n 71 [.slice b 0 N N false,aF a,aF m,aF q,vf] h λ_ h'=>VS lt Ok b e P X [y] S h h':=by
 have hb:=A.lt;have hs:P.length+X.length+1+S.length=N:=by grind
 refine tI (S:=S71) rfl omQ λk hk=>?_;unfold S71;try simp only[iZ]
 refine qn omQ (qW omQ (qJ ?_));refine qn omQ (qk omQ (qK ?_))
 refine jB (λc s g=>∃(i j:Nat) (X1 Xc X2:List Nat),s=(aF j,aF i,vf,aF m,.slice b 0 N N false,())∧X=X1++Xc++X2∧i=a+X1.length∧j=a+X1.length+Xc.length∧c=Xc.length∧
   (∀L x,X1=L++[x]→¬lt y x)∧(∀x T,X2=x::T→lt y x)∧Row g b ((P++X++[y]++S).map aF) e false∧Fr (λy=>y=b∨h.nx≤y) h g∧Ok g) ?_ (m:=X.length) (by grind)
  ⟨a,m,[],X,[],rfl,by simp,rfl,by grind,rfl,λL y h=>(by grind),λy T h=>(by grind),A,Fr.refl _ _,cH⟩
 rintro c ih s g bj ⟨i,j,X1,Xc,X2,rfl,eX,hi,hj,rfl,q1,q2,A1,F1,O1⟩;dsimp only;have hXl:X.length=X1.length+Xc.length+X2.length:=by grind
 refine j8 (λhc=>qK (qG ?_)) λhc=>qJ ?_
 ·try dsimp only
  refine VH omQ ?_;have iN:Xc.length/2<Xc.length:=by omega
  obtain⟨C1,x,C2,eC,hC1⟩:∃C1 y C2,Xc=C1++y::C2∧C1.length=Xc.length/2:=⟨Xc.take (Xc.length/2),Xc[Xc.length/2],Xc.drop (Xc.length/2+1),by simp,by grind⟩;rw[show(i+j)/2=a+X1.length+C1.length by omega];have tk:Xc.length=C1.length+1+C2.length:=by grind
  have hx:x∈X:=by grind
  refine we A1 hN (L:=P++X) (x:=y) (T:=S) aM (by grind) ?_;refine we A1 hN (L:=P++X1++C1) (x:=x) (T:=C2++X2++[y]++S) (by grind) (by grind) ?_;refine qY (Cm.run _ omQ g O1 y x (hr y aM) (hr x (by grind))) ?_;rintro v g3 ⟨⟨z,rfl,hz⟩,F3⟩;have A3:=A1.bU F3 A1.lt;have tQ:Fr (λy=>y=b∨h.nx≤y) h g3:=(F1.trans F3).mono (by rintro x _ (hx |hx);exact hx;exact .inr (Nat.le_trans F1.nx hx));have O3:Ok g3:=Cm.fr g g3 O1 (F3.mono λx _ hx=>.inr hx);refine j8 (λap=>jE (qJ ?_)) λap=>jo (qK (qE omQ ?_))
  ·refine bj C1.length _ _ omQ ⟨i,_,X1,C1,x::C2++X2,rfl,by grind,hi,rfl,rfl,q1,λw T hw=>?_,A3,tQ,O3⟩;grind
  ·rw[show((a+X1.length+C1.length:Nat):Int)+((1:Nat):Int)=((a+X1.length+C1.length+1:Nat):Int) by rfl];refine bj C2.length _ _ omQ ⟨_,j,X1++C1++[x],C2,X2,rfl,by grind,by grind,by grind,rfl,λL w hw=>?_,q2,A3,tQ,O3⟩;have:=(List.append_inj' hw rfl).2;grind
 ·obtain rfl:Xc=[]:=iA omQ;rw[List.append_nil]at eX;simp only[List.length_nil]at hXl;clear bj ih;refine jB (λc s g'=>∃(k':Nat) (C D:List Nat),s=(aF k',aF i,.slice b 0 N N false,())∧X2=C++D∧k'=a+X1.length+C.length∧c=C.length∧Row g' b ((P++X1++C++y::D++S).map aF) e false∧Fr (λy=>y=b∨h.nx≤y) h g'∧Ok g') ?_ (m:=X2.length) (by grind)
   ⟨m,X2,[],rfl,by simp,by omega,rfl,by grind,F1,O1⟩
  rintro c ih s g' bj ⟨k',C,D,rfl,eC,oh,rfl,A2,F2,O2⟩;dsimp only;have Rm:X2.length=C.length+D.length:=by grind
  refine kw (λhc=>qK ?_) λhc=>qJ (qj (qq ?_))
  ·obtain⟨C',x,rfl⟩:∃C' x,C=C'++[x]:=⟨C.dropLast,C.getLast (by grind),(List.dropLast_concat_getLast _).symm⟩;simp only[List.length_append,List.length_singleton]at Rm oh;have iC:(P++X1++(C'++[x])++y::D++S).length=N:=by grind
   refine qn omQ (qn omQ ?_);rw[show((k':Nat):Int)-((1:Nat):Int)=((k'-1:Nat):Int) by omega];refine we A2 iC (L:=P++X1++C') (x:=x) (T:=y::D++S) aM (by simp;omega) ?_;refine we A2 iC (L:=P++X1++(C'++[x])) (x:=y) (T:=D++S) aM (by grind) ?_;refine Yf A2 iC (L:=P++X1++(C'++[x])) (x:=y) (y:=x) (T:=D++S) aM (by grind) λh4 A4 F4=>?_;refine Yf A4 (N:=N) (by grind) (L:=P++X1++C') (x:=x) (y:=y) (T:=x::D++S) aM (by simp;omega) λh5 A5 F5=>?_;refine qn omQ ?_;rw[show((k':Nat):Int)-((1:Nat):Int)=((k'-1:Nat):Int) by omega];refine bj C'.length _ _ aM ⟨k'-1,C',x::D,rfl,by grind,by omega,rfl,by grind,?_,?_⟩
   ·exact((F2.trans F4).trans F5).mono (by grind)
   ·exact Cm.fr g' h5 O2 ((F4.trans F5).mono (by grind))
  ·obtain rfl:C=[]:=iA omQ;rw[List.nil_append]at eC;subst eC;refine⟨X1++y::X2,by grind,?_,by grind,F2,O2⟩;rw[eX]at hX hr;rw[List.pairwise_append]at hX;obtain⟨p1,p2,p3⟩:=hX;have m1:∀z∈X1,z<N:=λz hz=>hr z (by grind);have m2:∀z∈X2,z<N:=λz hz=>hr z (by grind);have my:∀z∈[y],z<N:=λz hz=>hr z (by grind);have x1:=Qt Cm p1 (List.pairwise_singleton _ y) m1 my (λL w z T e1 e2=>by grind)
   have x2:=Qt Cm (List.pairwise_singleton _ y) p2 my m2 (λL w z T e1 e2=>by
    have:=(List.append_inj' (show[]++[y]=L++[w]from e1) rfl).2;cases this
    exact Cm.Av _ _ (q2 z T e2))
   rw[List.pairwise_append,List.pairwise_cons];grind
end
end
section
section
variable {m0 N b:Nat} {e:TypeId} {vf:AV} {lt:Nat→Nat→Prop} {Ok:AH→Prop}
theorem qGO (Cm : BU vf b m0 N lt Ok) (rB : N ≤ 1000000) : ∀ (d : Nat) {n a m q : Nat} {P X Y S : List Nat} {h : AH}, m0 + 3 + d ≤ n → 0 < X.length → 0 < Y.length → X.length + Y.length ≤ 2 ^ d → (P ++ X ++ Y ++ S).length = N → (∀ z ∈ X ++ Y, z < N) →
    X.Pairwise (λx y=>¬lt y x)→Y.Pairwise (λx y=>¬lt y x)→a=P.length→m=a+X.length→q=m+Y.length→Row h b ((P++X++Y++S).map aF) e false→Ok h→
    ba n 71 [.slice b 0 N N false,aF a,aF m,aF q,vf] h λ_ h'=>VS lt Ok b e P X Y S h h':=by
  intro d
  induction d with
  |zero=>intro n a m q P X Y S h hn hX hY hd;rw[Nat.pow_zero]at hd;omega
  |succ d ihd=>
  intro n a m q P X Y S h hn hX hY hd hN hr sX sY ha hm hq A cH;have hs:P.length+X.length+Y.length+S.length=N:=by simp at hN;omega
  by_cases c1:X.length=1
  · obtain⟨x,rfl⟩:∃x,X=[x]:=List.length_eq_one_iff.1 c1;subst hm hq;exact qxe Cm omQ hN rB hr sY ha rfl A cH
  by_cases c2:Y.length=1
  · obtain⟨y,rfl⟩:∃y,Y=[y]:=List.length_eq_one_iff.1 c2;exact qWr Cm omQ hN rB hr sX omQ ha hm (by rw[hq];rfl) A cH
  have hp2:2 ^ (d+1)=2*2 ^ d:=by rw[Nat.pow_succ];omega
  rw[hp2]at hd;have hb:=A.lt;refine tI (S:=S71) rfl omQ λk hk=>?_;unfold S71;try simp only[iZ]
  refine qn omQ (qW omQ (qJ ?_));refine qn omQ (qW omQ (qJ ?_));refine VH omQ ?_;obtain⟨eE,Wc⟩:∃eE,eE=(a+q)/2:=⟨_,rfl⟩;rw[← Wc];refine qE omQ ?_;rw[show((eE:Nat):Int)+((m:Nat):Int)=((eE+m:Nat):Int) by omega];refine jc [] (λz h'=>∃st r:Nat,z=(aF r,aF st,aF (eE+m),aF eE,vf,aF q,aF m,aF a,.slice b 0 N N false,())∧a≤st∧st≤r∧r≤m∧r≤eE∧eE+m≤st+q∧(st=a∨st+q=eE+m)∧(r=m∨r=eE)∧h'=h) (λj hj=>?_) ?_
  · refine kw (λhc=>qK (qn omQ ?_)) λhc=>qJ ?_
    · rw[show((eE+m:Nat):Int)-((q:Nat):Int)=((eE+m-q:Nat):Int) by omega];exact hj _ _ ⟨_,_,rfl,by omega,by omega,by omega,by omega,by omega,by omega,by omega,rfl⟩
    · exact hj _ _ ⟨_,_,rfl,by omega,by omega,by omega,by omega,by omega,by omega,by omega,rfl⟩
  rintro _ h ⟨hJ,r0,rfl,g1,g2,g3,g4,g5,g6,g7,rfl⟩;dsimp only;refine qn omQ ?_;rw[show((eE+m:Nat):Int)-((1:Nat):Int)=((eE+m-1:Nat):Int) by omega]
  refine jB (fun c s g => ∃ (st r : Nat), s = (aF (eE + m - 1), aF r, aF st, aF (eE + m), aF eE, vf, aF q, aF m, aF a, .slice b 0 N N false, ()) ∧ a ≤ st ∧ st ≤ r ∧ r ≤ m ∧ r ≤ eE ∧ eE + m ≤ st + q ∧ c = r - st ∧
      (st=a∨st+q=eE+m∨¬lt ((P++X++Y++S).getD (eE+m-st) 0) ((P++X++Y++S).getD (st-1) 0))∧(r=m∨r=eE∨lt ((P++X++Y++S).getD (eE+m-1-r) 0) ((P++X++Y++S).getD r 0))∧
      Row g b ((P++X++Y++S).map aF) e false∧Fr (λy=>y=b∨h.nx≤y) h g∧Ok g) ?_ (m:=r0-hJ) (by show r0-hJ<1000000000;omega)
    ⟨hJ,r0,rfl,g1,g2,g3,g4,g5,rfl,by omega,by omega,A,Fr.refl _ _,cH⟩
  clear g1 g2 g3 g4 g5 g6 g7;rintro c ih s g bj ⟨st,r,rfl,g1,g2,g3,g4,g5,rfl,g6,g7,A1,F1,O1⟩;dsimp only;have nB:∀k,a≤k→k<q→(P++X++Y++S).getD k 0<N:=λk mg iN=>by
    have fR:k<(P++X++Y++S).length:=by omega
    have:(P++X++Y++S)[k]? =(X++Y)[k-P.length]?:=by rw[show P++X++Y++S=P++((X++Y)++S) by simp,List.getElem?_append_right omQ,List.getElem?_append_left (by simp;omega)]
    rw[List.getD_eq_getElem?_getD,this,iW (by simp;omega)];exact hr _ (List.getElem_mem _)
  refine j8 (λhc=>qK (qG ?_)) λhc=>qJ ?_
  · try dsimp only
    refine VH omQ ?_;obtain⟨k',oh⟩:∃k',k'=(st+r)/2:=⟨_,rfl⟩;rw[← oh];refine qn omQ ?_;rw[show((eE+m-1:Nat):Int)-((k':Nat):Int)=((eE+m-1-k':Nat):Int) by omega];refine qG4 A1 hN omQ (qG4 A1 hN omQ ?_);refine qY (Cm.run _ omQ g O1 _ _ (nB _ omQ omQ) (nB _ omQ omQ)) ?_;rintro v Wd ⟨⟨z,rfl,hz⟩,F3⟩;have A3:=A1.bU F3 A1.lt;have tQ:Fr (λy=>y=b∨h.nx≤y) h Wd:=(F1.trans F3).mono (by rintro x _ (hx |hx);exact hx;exact .inr (Nat.le_trans F1.nx hx));have O3:Ok Wd:=Cm.fr g Wd O1 (F3.mono λx _ hx=>.inr hx);refine j8 (λap=>jE (qJ ?_)) λap=>jo (qK (qE omQ ?_))
    · exact bj (k'-st) _ _ omQ ⟨st,k',rfl,g1,by omega,by omega,by omega,g5,rfl,g6,.inr (.inr (hz.1 ap)),A3,tQ,O3⟩
    · rw[show((k':Nat):Int)+((1:Nat):Int)=((k'+1:Nat):Int) by omega];refine bj (r-(k'+1)) _ _ omQ ⟨k'+1,r,rfl,by omega,by omega,g3,g4,by omega,rfl,.inr (.inr ?_),g7,A3,tQ,O3⟩;rw[show eE+m-(k'+1)=eE+m-1-k' by omega,Nat.add_sub_cancel];exact λh=>ap (hz.2 h)
  obtain rfl:r=st:=by omega
  clear bj ih hc g2;refine qn omQ ?_;rw[show((eE+m:Nat):Int)-((r:Nat):Int)=((eE+m-r:Nat):Int) by omega];obtain⟨en,dZ⟩:∃en,en=eE+m-r:=⟨_,rfl⟩;rw[← dZ];obtain⟨X1,X2,eX,lX1⟩:∃X1 X2,X=X1++X2∧X1.length=r-a:=⟨X.take (r-a),X.drop (r-a),(List.take_append_drop _ _).symm,by rw[List.length_take];omega⟩;obtain⟨Y1,Y2,eY,lY1⟩:∃Y1 Y2,Y=Y1++Y2∧Y1.length=en-m:=⟨Y.take (en-m),Y.drop (en-m),(List.take_append_drop _ _).symm,by rw[List.length_take];omega⟩;have lX:X.length=X1.length+X2.length:=by rw[eX];simp
  have lY:Y.length=Y1.length+Y2.length:=by rw[eY];simp
  have x11:∀(L:List Nat) (x y:Nat) (T:List Nat),X1=L++[x]→Y2=y::T→¬lt y x:=λL x y T e1 e2=>by
    have l1:X1.length=L.length+1:=by rw[e1];simp
    have l2:Y2.length=T.length+1:=by rw[e2];simp
    rcases g6 with h |h |h
    · omega
    · omega
    · rw [show (P ++ X ++ Y ++ S).getD (eE + m - r) 0 = y by
          rw[eX,eY,e2,show P++(X1++X2)++(Y1++y::T)++S=(P++X1++X2++Y1)++y::(T++S) by simp];exact Uw (by simp;omega),
        show(P++X++Y++S).getD (r-1) 0=x by
          rw[eX,e1,show P++(L++[x]++X2)++Y++S=(P++L)++x::(X2++Y++S) by simp]
          exact Uw (by simp;omega)]at h
      exact h
  have x22:∀(L:List Nat) (y x:Nat) (T:List Nat),Y1=L++[y]→X2=x::T→¬lt x y:=λL y x T e1 e2=>by
    have l1:Y1.length=L.length+1:=by rw[e1];simp
    have l2:X2.length=T.length+1:=by rw[e2];simp
    rcases g7 with h |h |h
    · omega
    · omega
    · rw [show (P ++ X ++ Y ++ S).getD (eE + m - 1 - r) 0 = y by
          rw[eX,eY,e1,show P++(X1++X2)++(L++[y]++Y2)++S=(P++X1++X2++L)++y::(Y2++S) by simp];exact Uw (by simp;omega),
        show(P++X++Y++S).getD r 0=x by
          rw[eX,e2,show P++(X1++x::T)++Y++S=(P++X1)++x::(T++Y++S) by simp]
          exact Uw (by simp;omega)]at h
      exact Cm.Av _ _ h
  have mX1:∀z∈X1,z<N:=λz hz=>hr z (by rw[eX];simp[hz]);have mX2:∀z∈X2,z<N:=λz hz=>hr z (by rw[eX];simp[hz]);have mY1:∀z∈Y1,z<N:=λz hz=>hr z (by rw[eY];simp[hz]);have mY2:∀z∈Y2,z<N:=λz hz=>hr z (by rw[eY];simp[hz]);rw[eX,List.pairwise_append]at sX;rw[eY,List.pairwise_append]at sY;obtain⟨We,Wf,sX3⟩:=sX;obtain⟨Wg,Wh,sY3⟩:=sY;have pG:=Qt Cm We Wh mX1 mY2 x11;have nF:=Qt Cm Wg Wf mY1 mX2 x22;clear x11 x22 g6 g7 nB;refine jc [] (λz h'=>z=(aF en,aF r,aF eE,vf,aF q,aF a,.slice b 0 N N false,())∧Row h' b ((P++X1++Y1++(X2++Y2++S)).map aF) e false∧Fr (λy=>y=b∨h.nx≤y) h h'∧Ok h') (λj hj=>?_) ?_
  · have no:(X2=[]∨Y1=[])→wp (j (aF en,aF r,aF eE,vf,aF q,aF a,.slice b 0 N N false,()) g []) _:=λbY=>by
      refine hj _ _ ⟨rfl,?_,F1,O1⟩;rw[eX,eY]at A1;rcases bY with rfl |rfl
      · simpa using A1
      · simpa using A1
    refine j8 (λrY=>?_) λrY=>?_
    rotate_left
    · refine qG ?_
      try dsimp only
      exact qe (qy (qJ (no (.inl (iA omQ)))))
    refine qG ?_
    try dsimp only
    refine qf (j8 (λlN=>qF (qK ?_)) λlN=>qF (qJ (no (.inr (iA omQ)))));refine qY (jZr (P:=P++X1) (U:=X2) (V:=Y1) (S:=Y2++S) omQ omQ omQ (by simp;omega) rB (by simp;omega) (by simp;omega) (by simp;omega) (by rw[eX,eY]at A1;simpa using A1)) ?_;rintro _ g2 ⟨A2,F2⟩;refine hj _ _ ⟨rfl,by simpa using A2,?_,?_⟩
    · exact(F1.trans F2).mono (by rintro y _ (hy |hy);exact hy;exact .inl hy)
    · exact Cm.fr g g2 O1 (F2.mono λy _ hy=>.inl hy)
  rintro _ g2 ⟨rfl,A2,F2,O2⟩;dsimp only;clear A1 F1 O1;refine jc [] (λz h'=>z=(aF en,aF eE,vf,aF q,.slice b 0 N N false,())∧∃Z1:List Nat,Z1.Perm (X1++Y1)∧Z1.Pairwise (λx y=>¬lt y x)∧Row h' b ((P++Z1++X2++Y2++S).map aF) e false∧Fr (λy=>y=b∨h.nx≤y) h h'∧Ok h') (λj hj=>?_) ?_
  · have no:(X1=[]∨Y1=[])→wp (j (aF en,aF eE,vf,aF q,.slice b 0 N N false,()) g2 []) _:=λbY=>by
      refine hj _ _ ⟨rfl,X1++Y1,List.Perm.refl _,?_,by simpa using A2,F2,O2⟩;rcases bY with rfl |rfl
      · simpa using Wg
      · simpa using We
    refine j8 (λrY=>?_) λrY=>?_
    rotate_left
    · refine qG ?_
      try dsimp only
      exact qe (qy (qJ (no (.inl (iA omQ)))))
    refine qG ?_
    try dsimp only
    refine qf (j8 (λlN=>qF (qK ?_)) λlN=>qF (qJ (no (.inr (iA omQ)))));refine qY (ihd (n:=k) (a:=a) (m:=r) (q:=eE) (P:=P) (X:=X1) (Y:=Y1) (S:=X2++Y2++S) omQ omQ omQ omQ (by simp;omega) (λz hz=>by rcases List.mem_append.1 hz with h |h;exact mX1 z h;exact mY1 z h) We Wg ha omQ omQ A2 O2) ?_;rintro _ g4 ⟨Z,p1,p2,A4,F4,O4⟩;refine hj _ _ ⟨rfl,Z,p1,p2,by simpa using A4,?_,O4⟩;exact(F2.trans F4).mono (by rintro y _ (hy |hy |hy);exact hy;exact .inl hy;exact .inr (Nat.le_trans F2.nx hy))
  rintro _ g4 ⟨rfl,Z1,p1,p2,A4,F4,O4⟩;dsimp only;have lZ1:=p1.length_eq;rw[List.length_append]at lZ1;clear A2 F2 O2;have fin:∀(Z2:List Nat) (h':AH),Z2.Perm (X2++Y2)→Z2.Pairwise (λx y=>¬lt y x)→Row h' b ((P++Z1++Z2++S).map aF) e false→Fr (λy=>y=b∨h.nx≤y) h h'→Ok h'→VS lt Ok b e P X Y S h h':=λZ2 h' q1 q2 A6 F6 O6=>by
    refine⟨Z1++Z2,?_,?_,by simpa using A6,F6,O6⟩
    · rw[eX,eY];refine(p1.append q1).trans ?_;simp only[List.append_assoc];refine List.Perm.append_left X1 ?_;rw[← List.append_assoc,← List.append_assoc];exact List.Perm.append_right Y2 List.perm_append_comm
    · rw[List.pairwise_append];refine⟨p2,q2,λu hu v hv=>?_⟩;have hu:=List.mem_append.1 (p1.mem_iff.1 hu);have hv:=List.mem_append.1 (q1.mem_iff.1 hv);rcases hu with hu |hu<;>rcases hv with hv |hv
      · exact sX3 u hu v hv
      · exact pG u hu v hv
      · exact nF u hu v hv
      · exact sY3 u hu v hv
  have no:(X2=[]∨Y2=[])→VS lt Ok b e P X Y S h g4:=λbY=>by
    refine fin (X2++Y2) g4 (List.Perm.refl _) ?_ (by simpa using A4) F4 O4;rcases bY with rfl |rfl
    · simpa using Wh
    · simpa using Wf
  refine j8 (λrY=>?_) λrY=>?_
  rotate_left
  · refine qG ?_
    try dsimp only
    exact qe (qy (qJ (qj (qq (no (.inl (iA omQ)))))))
  refine qG ?_
  try dsimp only
  refine qf (j8 (λlN=>qF (qK ?_)) λlN=>qF (qJ (qj (qq (no (.inr (iA omQ)))))));refine qY (ihd (n:=k) (a:=eE) (m:=en) (q:=q) (P:=P++Z1) (X:=X2) (Y:=Y2) (S:=S) omQ omQ omQ omQ (by simp;omega) (λz hz=>by rcases List.mem_append.1 hz with h |h;exact mX2 z h;exact mY2 z h) Wf Wh (by simp;omega) omQ omQ (by simpa using A4) O4) ?_;rintro _ g6 ⟨Z,q1,q2,A6,F6,O6⟩;refine qj (qq (fin Z g6 q1 q2 A6 ?_ O6));exact(F4.trans F6).mono (by rintro y _ (hy |hy |hy);exact hy;exact .inl hy;exact .inr (Nat.le_trans F4.nx hy))
end
end
section
section
variable {m0 N b:Nat} {e:TypeId} {vf:AV} {lt:Nat→Nat→Prop} {Ok:AH→Prop}
abbrev mA (lt:Nat→Nat→Prop) (s c:Nat) (ys:List Nat):Prop:=((ys.drop c).take s).Pairwise λx y=>¬lt y x
theorem ZH {s c:Nat} {P T U:List Nat} (h:c+s≤P.length) (H:mA lt s c (P++T)):mA lt s c (P++U):=by grind
theorem qjn {s c:Nat} {P Z W S:List Nat} (hl:Z.length=W.length) (h:P.length+Z.length≤c) (H:mA lt s c (P++Z++S)):mA lt s c (P++W++S):=by
 have e:(P++Z++S).drop c=(P++W++S).drop c:=by have h1:(P++Z).length=P.length+Z.length:=List.length_append;have h2:(P++W).length=P.length+W.length:=List.length_append;have d1:(P++Z).drop c=[]:=List.drop_eq_nil_of_le omQ;have d2:(P++W).drop c=[]:=List.drop_eq_nil_of_le omQ;grind[List.drop_append]
 grind
theorem Rn {s c:Nat} {P Z S:List Nat} (hc:c=P.length) (hz:Z.length=s∨(Z.length≤s∧S=[])) (H:Z.Pairwise λx y=>¬lt y x):mA lt s c (P++Z++S):=by
 grind
theorem Ro {s c:Nat} {ys:List Nat} (h:ys.length≤c):mA lt s c ys:=by simp_all[mA,List.drop_eq_nil_of_le,List.take_nil]
theorem qgU {d n:Nat} {xs:List Nat} {h:AH} (Cm:BU vf b m0 N lt Ok) (hd:N≤2 ^ d) (hn:m0+4+d≤n) (rB:N≤100000) (hx:xs.length=N) (hr:∀x∈xs,x<N) (A:Row h b (xs.map aF) e false) (cH:Ok h) :
  ba n 48 [.slice b 0 N N false,aF N,vf] h λ_ h'=>
   ∃ys:List Nat,ys.Perm xs∧ys.Pairwise (λx y=>¬lt y x)∧Row h' b (ys.map aF) e false∧Fr (λy=>y=b∨h.nx≤y) h h'∧Ok h':=by
 refine dV (S:=S48) rfl omQ λk hk=>?_;unfold S48;try simp only[iZ]
 refine jB (λm s g=>∃(j:Nat) (ys:List Nat),s=(aF (20*j+20),aF (20*j),aF 20,vf,aF N,.slice b 0 N N false,())∧20*j≤N∧m=N-20*j∧ys.Perm xs∧(∀i,i<j→mA lt 20 (20*i) ys)∧Row g b (ys.map aF) e false∧Fr (λy=>y=b∨h.nx≤y) h g∧Ok g) ?_ (m:=N) (by grind)
  ⟨0,xs,rfl,by omega,rfl,List.Perm.refl _,λi hi=>absurd hi omQ,A,Fr.refl _ _,cH⟩
 rintro m ih s g bj ⟨j,ys,rfl,hj,rfl,hp,mO,A1,F1,O1⟩;dsimp only;have eF:ys.length=N:=by rw[hp.length_eq];grind
 have dG:∀x∈ys,x<N:=λx h=>hr x (hp.mem_iff.1 h);refine QK (λhc=>qK ?_) λhc=>qJ ?_
 ·obtain⟨P,X,S,eY,lP,lX⟩:∃P X S,ys=P++X++S∧P.length=20*j∧X.length=20:=⟨ys.take (20*j),(ys.drop (20*j)).take 20,ys.drop (20*j+20),by grind[List.append_assoc,List.drop_drop,List.take_append_drop],by grind,by grind⟩;rw[eY]at A1 mO hp eF dG;refine qY (qGu Cm (P:=P) (X:=X) (S:=S) omQ eF omQ (λx h=>dG x (by grind)) omQ lP.symm omQ A1 O1) ?_;rintro _ g2 ⟨Y,q1,q2,A2,F2,O2⟩;have lY:=q1.length_eq;refine qE omQ ?_;rw[show((20*j+20:Nat):Int)+((20:Nat):Int)=((20*(j+1)+20:Nat):Int) by rfl];refine bj (N-20*(j+1)) _ _ omQ ⟨j+1,P++Y++S,rfl,by omega,rfl,(List.Perm.append_right S (List.Perm.append_left P q1)).trans hp,λi hi=>?_,A2,?_,O2⟩
  ·by_cases e:i=j
   ·grind
   ·have:=mO i omQ;grind
  ·exact(F1.trans F2).mono (by rintro y _ (hy |hy |hy);exact hy;exact .inl hy;exact .inr (Nat.le_trans F1.nx hy))
 ·clear bj ih;have key:∀(zs:List Nat) (g2:AH),zs.Perm xs→(∀i,mA lt 20 (20*i) zs)→Row g2 b (zs.map aF) e false→Fr (λy=>y=b∨h.nx≤y) h g2→Ok g2→
    wp (Kh (σ:=AV×AV×AV×AV×Unit) NN (λi13 cg dO d12=>
     j6 .lss cg.1 cg.2.2.1 λnD=>
     zU nD (
     j6 .mul (.int .i64 ((2:Nat):Int)) cg.1 λtJ=>
     Kh (σ:=AV×AV×AV×AV×AV×AV×Unit) NN (λi19 hP nb d18=>
     j6 .leq hP.1 hP.2.2.2.2.1 λv20=>
     zU v20 (
     j6 .add hP.2.1 hP.2.2.1 λtL=>
     xS (callT tab qL k) (.fn 71 [] []) [hP.2.2.2.2.2.1,hP.2.1,tL,hP.1,hP.2.2.2.1] nb λBP rA=>
     j6 .mul (.int .i64 ((2:Nat):Int)) hP.2.2.1 λAj=>
     j6 .add hP.1 Aj λtP=>
     i19 (tP,hP.1,hP.2.2.1,hP.2.2.2.1,hP.2.2.2.2.1,hP.2.2.2.2.2.1,()) rA d18) (
     vL (α:=AV×AV×AV×AV×Unit→AH→List Nat→R) (λRp h27 d28=>
     j6 .mul Rp.1 (.int .i64 ((2:Nat):Int)) λv30=>
     i13 (v30,Rp.2.1,Rp.2.2.1,Rp.2.2.2.1,()) h27 d28) λEP=>
     j6 .add hP.2.1 hP.2.2.1 λrz=>
     j6 .lss rz hP.2.2.2.2.1 λrW=>
     zU rW (
     xS (callT tab qL k) (.fn 71 [] []) [hP.2.2.2.2.2.1,hP.2.1,rz,hP.2.2.2.2.1,hP.2.2.2.1] nb λBR EM=>
     EP (hP.2.2.1,hP.2.2.2.1,hP.2.2.2.2.1,hP.2.2.2.2.2.1,()) EM d18) (
     EP (hP.2.2.1,hP.2.2.2.1,hP.2.2.2.2.1,hP.2.2.2.2.2.1,()) nb d18))) (tJ,(.int .i64 ((0:Nat):Int)),cg.1,cg.2.1,cg.2.2.1,cg.2.2.2.1,()) dO d12) (
     zT d12 dO λIQ=>
     some ((.cA []),IQ))) (aF 20,vf,aF N,.slice b 0 N N false,()) g2 []) λv h'=>
     ∃ys:List Nat,ys.Perm xs∧ys.Pairwise (λx y=>¬lt y x)∧Row h' b (ys.map aF) e false∧Fr (λy=>y=b∨h.nx≤y) h h'∧Ok h':=by
   intro zs g2 hp mO A2 F2 O2;refine jB (λm s g=>∃(bs:Nat) (ys:List Nat),s=(aF bs,vf,aF N,.slice b 0 N N false,())∧20≤bs∧bs≤2*N+20∧m=2*N+20-bs∧ys.Perm xs∧(∀i,mA lt bs (bs*i) ys)∧Row g b (ys.map aF) e false∧Fr (λy=>y=b∨h.nx≤y) h g∧Ok g) ?_ (m:=2*N+20-20) (by show _<1000000000;omega)
    ⟨20,zs,rfl,Nat.le_refl _,by omega,rfl,hp,mO,A2,F2,O2⟩
   clear hp mO A2 F2 O2;rintro m ih s g bj ⟨bs,ys,rfl,FV,oN,rfl,hp,mO,A1,F1,O1⟩;dsimp only;refine j8 (λhc=>qK ?_) λhc=>qJ (qj (qq ?_))
   rotate_left
   ·refine⟨ys,hp,?_,A1,F1,O1⟩;have:=mO 0;unfold mA at this
    rwa [Nat.mul_zero,List.drop_zero,List.take_of_length_le (by rw[hp.length_eq];omega)]at this
   refine Vg omQ ?_;obtain⟨w,hw⟩:∃w,w=2*bs:=⟨_,rfl⟩;rw[show((2:Nat):Int)*((bs:Nat):Int)=((w:Nat):Int) by omega];refine jB (λm s g=>∃(j:Nat) (ys:List Nat),s=(aF (w*j+w),aF (w*j),aF bs,vf,aF N,.slice b 0 N N false,())∧w*j≤N∧m=N-w*j∧ys.Perm xs∧(∀i,i<j→mA lt w (w*i) ys)∧(∀i,w*j≤bs*i→mA lt bs (bs*i) ys)∧Row g b (ys.map aF) e false∧Fr (λy=>y=b∨h.nx≤y) h g∧Ok g) ?_ (m:=N) (by show N<1000000000;omega)
    ⟨0,ys,by simp,by omega,by simp,hp,λi hi=>absurd hi omQ,λi _=>mO i,A1,F1,O1⟩
   clear hp mO A1 F1 O1;rintro m2 ih2 s g lD ⟨j,ys,rfl,hj,rfl,hp,mO,Aw,A1,F1,O1⟩;dsimp only;have eF:ys.length=N:=by rw[hp.length_eq];grind
   have dG:∀x∈ys,x<N:=λx h=>hr x (hp.mem_iff.1 h);have e2j:bs*(2*j)=w*j:=by grind
   have Wi:bs*(2*j+1)=w*j+bs:=by grind
   have c1:=Aw (2*j) omQ;have c2:=Aw (2*j+1) omQ;rw[e2j]at c1;rw[Wi]at c2;have fh:∀i,i<j→w*i+w≤w*j:=λi hi=>by rw[← Nat.mul_succ];exact Nat.mul_le_mul_left w hi
   generalize Ib:w*j=a at*;refine QK (λrY=>qK ?_) λrY=>qJ ?_
   ·refine qE omQ ?_;rw[show((a:Nat):Int)+((bs:Nat):Int)=((a+bs:Nat):Int) by rfl]
    obtain⟨P,X,Y,S,eY,lP,lX,lY⟩:∃P X Y S,ys=P++X++Y++S∧P.length=a∧X.length=bs∧Y.length=bs:=⟨ys.take a,(ys.drop a).take bs,(ys.drop (a+bs)).take bs,ys.drop (a+bs+bs),by
     grind[List.append_assoc,List.drop_drop,List.take_append_drop],by grind,by grind,by grind⟩
    have sX:X.Pairwise λx y=>¬lt y x:=by
     grind
    have sY:Y.Pairwise λx y=>¬lt y x:=by
     unfold mA at c2
     rwa [eY,show a+bs=(P++X).length by grind,List.append_assoc,List.drop_left,List.take_append_of_le_length omQ,List.take_of_length_le omQ]at c2
    rw[eY]at A1 mO Aw hp eF dG;refine qY (qGO Cm omQ d (P:=P) (X:=X) (Y:=Y) (S:=S) omQ omQ omQ (by grind) eF (λz hz=>dG z (by grind)) sX sY lP.symm omQ omQ A1 O1) ?_;rintro _ g2 ⟨Z,q1,q2,A2,F2,O2⟩;have lZ:=q1.length_eq;rw[List.length_append]at lZ;refine Vg omQ (qE omQ ?_);have e1:w*(j+1)=a+w:=by grind
    rw[show((a+w:Nat):Int)+((2:Nat):Int)*((bs:Nat):Int)=((w*(j+1)+w:Nat):Int) by grind];refine lD (N-w*(j+1)) _ _ omQ ⟨j+1,P++Z++S,by rw[e1],by omega,rfl,?_,λi hi=>?_,λi hi=>?_,A2,?_,O2⟩
    ·grind
    ·by_cases e:i=j
     ·subst e;exact Rn omQ (.inl omQ) q2
     ·have h1:=mO i omQ;have h2:=fh i omQ;rw[List.append_assoc,List.append_assoc]at h1;rw[List.append_assoc];exact ZH omQ h1
    ·have h1:=Aw i omQ;rw[List.append_assoc P X Y]at h1;exact qjn (by grind) (by grind) h1
    ·exact(F1.trans F2).mono (by rintro y _ (hy |hy |hy);exact hy;exact .inl hy;exact .inr (Nat.le_trans F1.nx hy))
   ·clear lD ih2;refine jc [] (λz h'=>z=(aF bs,vf,aF N,.slice b 0 N N false,())∧∃ys:List Nat,ys.Perm xs∧(∀i,mA lt w (w*i) ys)∧Row h' b (ys.map aF) e false∧Fr (λy=>y=b∨h.nx≤y) h h'∧Ok h') (λEP IR=>?_) ?_
    ·have l8:∀i,j<i→a+w≤w*i:=λi hi=>by rw[← Ib,← Nat.mul_succ];exact Nat.mul_le_mul_left w hi
     refine qE omQ ?_;rw[show((a:Nat):Int)+((bs:Nat):Int)=((a+bs:Nat):Int) by rfl];refine j8 (λlN=>qK ?_) λlN=>qJ ?_
     ·obtain⟨P,X,Y,eY,lP,lX⟩:∃P X Y,ys=P++X++Y++[]∧P.length=a∧X.length=bs:=⟨ys.take a,(ys.drop a).take bs,ys.drop (a+bs),by
       grind[List.append_assoc,List.drop_drop,List.take_append_drop],by grind,by grind⟩
      have lY:P.length+X.length+Y.length=N:=by grind
      have sX:X.Pairwise λx y=>¬lt y x:=by
       grind
      have sY:Y.Pairwise λx y=>¬lt y x:=by
       unfold mA at c2
       rwa [eY,show a+bs=(P++X).length by grind,List.append_assoc,List.drop_left,List.append_nil,List.take_of_length_le omQ]at c2
      rw[eY]at A1 mO hp eF dG;refine qY (qGO Cm omQ d (P:=P) (X:=X) (Y:=Y) (S:=[]) omQ omQ omQ omQ eF (λz hz=>dG z (by grind)) sX sY lP.symm omQ omQ A1 O1) ?_;rintro _ g2 ⟨Z,q1,q2,A2,F2,O2⟩;have lZ:=q1.length_eq;rw[List.length_append]at lZ;refine IR _ _ ⟨rfl,P++Z++[],?_,λi=>?_,A2,?_,O2⟩
      ·grind
      ·rcases Nat.lt_trichotomy i j with hi |rfl |hi
       ·have h1:=mO i hi;have h2:=fh i hi;rw[List.append_assoc,List.append_assoc]at h1;rw[List.append_assoc];exact ZH omQ h1
       ·grind
       grind
      ·exact(F1.trans F2).mono (by rintro y _ (hy |hy |hy);exact hy;exact .inl hy;exact .inr (Nat.le_trans F1.nx hy))
     ·refine IR _ _ ⟨rfl,ys,hp,λi=>?_,A1,F1,O1⟩;rcases Nat.lt_trichotomy i j with hi |rfl |hi
      ·grind
      ·unfold mA at c1 ⊢;grind[List.take_of_length_le,List.length_drop]
      ·have:=l8 i hi;exact Ro omQ
    ·rintro _ g3 ⟨rfl,zs,z1,z2,A3,F3,O3⟩;dsimp only;refine Vg omQ ?_;rw[show((bs:Nat):Int)*((2:Nat):Int)=((w:Nat):Int) by omega];exact bj (2*N+20-w) _ _ omQ ⟨w,zs,rfl,by omega,by omega,rfl,z1,z2,A3,F3,O3⟩
  by_cases h0:N=20*j
  ·refine qY (qZM omQ omQ omQ) ?_;rintro _ g2 rfl;refine key ys _ hp (λi=>?_) A1 F1 O1;by_cases hi:i<j
   ·grind
   ·exact Ro omQ
  ·obtain⟨P,X,eY,lP,lX⟩:∃P X,ys=P++X++[]∧P.length=20*j∧X.length=N-20*j:=⟨ys.take (20*j),ys.drop (20*j),by simp,by grind,by grind⟩;rw[eY]at A1 mO hp eF dG;refine qY (qGu Cm (P:=P) (X:=X) (S:=[]) omQ eF omQ (λx h=>dG x (by grind)) omQ lP.symm omQ A1 O1) ?_;rintro _ g2 ⟨Y,q1,q2,A2,F2,O2⟩;have lY:=q1.length_eq;refine key (P++Y++[]) _ ((List.Perm.append_right [] (List.Perm.append_left P q1)).trans hp) (λi=>?_) A2 ?_ O2
   ·rcases Nat.lt_trichotomy i j with hi |rfl |hi
    ·have:=mO i hi;rw[List.append_assoc]at this ⊢;exact ZH omQ this
    ·grind
    ·exact Ro (by grind)
   ·exact(F1.trans F2).mono (by rintro y _ (hy |hy |hy);exact hy;exact .inl hy;exact .inr (Nat.le_trans F1.nx hy))
theorem qki {d n:Nat} {xs:List Nat} {h:AH} (Cm:BU vf b m0 N lt Ok) (hd:N≤2 ^ d) (hn:m0+5+d≤n) (rB:N≤100000) (hx:xs.length=N) (hr:∀x∈xs,x<N) (A:Row h b (xs.map aF) e false) (cH:Ok h) :
  ba n 29 [.slice b 0 N N false,vf] h λ_ h'=>
   ∃ys:List Nat,ys.Perm xs∧ys.Pairwise (λx y=>¬lt y x)∧Row h' b (ys.map aF) e false∧Fr (λy=>y=b∨h.nx≤y) h h'∧Ok h':=by
 refine cu (S:=S29) rfl omQ λk hk=>?_;unfold S29;try simp only
 refine Zo ?_;exact qY (qgU Cm hd omQ rB hx hr A cH) λv h' q=>qq q
end
end
section
abbrev Cl:Type:=Int×Int
def jH (c:Int×Int):List AV:=[.int .i64 c.1,.int .u64 c.2]
def Ym (p:Int):List Cl→Option Nat
 |[]=>none
 |c::l=>if c.1=p then some 0 else(Ym p l).map (· +1)
def zt (p:Int):List Cl→Option Int
 |[]=>none
 |c::l=>if c.1=p then some c.2 else zt p l
def gd (p v:Int):List Cl→List Cl
 |[]=>[(p,v)]
 |c::l=>if c.1=p then(p,v)::l else c::gd p v l
def wU (l cs:List Cl):List Cl:=cs.foldl (λl c=>gd c.1 c.2 l) l
theorem XB {p:Int} {l:List Cl}:Ym p l=none↔zt p l=none:=by
 induction l with
 |nil=>simp[Ym,zt]
 |cons c l ih=>
  unfold Ym zt
  split<;>simp_all
theorem XM {p:Int}:∀{l:List Cl} {i:Nat},Ym p l=some i→i<l.length∧(∃x,l[i]? =some (p,x)∧zt p l=some x)∧∀v,gd p v l=l.set i (p,v):=by
 intro l
 induction l with
 |nil=>nofun
 |cons c l ih=>
  intro i h;unfold Ym at h;unfold zt
  split at h
  ·rename_i hc;cases h;rw[iJ hc];refine⟨by simp,⟨c.2,by grind,rfl⟩,λv=>?_⟩;simp_all[gd]
  ·rename_i hc;rw[iQ hc];cases hi:Ym p l with
   |none=>grind
   |some j=>rw[hi]at h;cases h;obtain⟨h1,⟨x,h2,uI⟩,h3⟩:=ih hi;simp_all[gd]
theorem OI {p v:Int} {l:List Cl} (h:zt p l=none):gd p v l=l++[(p,v)]:=by
 induction l with
 |nil=>rfl
 |cons c l ih=>
  unfold zt at h
  split at h
  all_goals simp_all[gd]
theorem qKF {p:Int}:∀{l:List Cl} {i:Nat},i<l.length→(∀j,j<i→∀c,l[j]? =some c→c.1≠p)→(∃x,l[i]? =some (p,x))→Ym p l=some i:=by
 intro l
 induction l with
 |nil=>simp
 |cons c l ih=>
  intro i hi h1 ⟨x,h2⟩;unfold Ym;cases i with
  |zero=>grind
  |succ i=>rw[iQ (h1 0 omQ c rfl),ih (by simpa using hi) (λj hj c' bA=>h1 (j+1) omQ c' (by grind)) ⟨x,by grind⟩];rfl
theorem qzD {p:Int}:∀{l:List Cl},(∀c∈l,c.1≠p)→Ym p l=none:=by
 intro l
 induction l with
 |nil=>intro _;rfl
 |cons c l ih=>intro h;simp_all[Ym]
theorem qJr {p v:Int} {l:List Cl}:(gd p v l).length=if zt p l=none then l.length+1 else l.length:=by
 induction l with
 |nil=>rfl
 |cons c l ih=>
  grind[gd,zt,List.length_cons]
def tS (l:List Cl):Prop:=∀c∈l,1≤c.1∧c.1<256
theorem tS.put {l:List Cl} {p v:Int} (h:tS l) (hp:1≤p∧p<256):tS (gd p v l):=by
 induction l with
 |nil=>intro c hc;grind[gd]
 |cons a l ih=>
  unfold gd
  split
  ·intro c hc;rcases List.mem_cons.1 hc with rfl |hc
   ·grind
   ·exact h c (iX _ hc)
  ·intro c hc;rcases List.mem_cons.1 hc with rfl |hc
   ·exact h _ (iK ..)
   ·exact ih (λc hc=>h c (iX _ hc)) c hc
def lQ (l:List Cl):Prop:=(l.map (·.1)).Nodup
theorem V8 {p:Int} {l:List Cl}:zt p l=none↔p∉l.map (·.1):=by
 induction l with
 |nil=>simp[zt]
 |cons c l ih=>
  unfold zt
  grind
theorem qjh {p v:Int} {l:List Cl}:(gd p v l).map (·.1)=if zt p l=none then l.map (·.1)++[p]else l.map (·.1):=by
 induction l with
 |nil=>rfl
 |cons c l ih=>
  grind[gd,zt]
theorem lQ.put {l:List Cl} {p v:Int} (h:lQ l):lQ (gd p v l):=by
 grind[lQ,qjh,V8,List.nodup_append,List.mem_singleton]
abbrev bC:Type:=List Cl×List Int
def U9 (p:Int):List bC→Option Int
 |[]=>none
 |x::r=>match zt p x.1 with |some v=>some v |none=>U9 p r
def QS (lv:List bC):Nat:=(lv.map λx=>x.1.length).sum
def jP (lv:List bC):List Cl:=lv.foldl (λout x=>wU x.1 out) []
def JW (lv:List bC):List Int:=lv.reverse.flatMap (·.2)
structure iw (most:Nat) (lv:List bC):Prop where
  held:QS lv≤most
  le:most≤96
  ins:∀x∈lv,tS x.1
  un:∀x∈lv,lQ x.1
  one:1≤lv.length
  deep:lv.length≤6
def gc (most:Nat) (lv:List bC) (p v:Int):Int×List bC :=
 match lv with
 |[]=>(0,[])
 |x::r=>if p<1∨256≤p then(2,lv)else if zt p x.1=none∧most≤QS lv then(5,lv)else(0,(gd p v x.1,x.2)::r)
def gr (most:Nat) (aw lv:List bC):List Cl→Int×List bC
 |[]=>(0,lv)
 |c::cs=>if(gc most lv c.1 c.2).1=0 then gr most aw (gc most lv c.1 c.2).2 cs else((gc most lv c.1 c.2).1,aw)
def kV (lv:List bC):Int×List bC:=if 6≤lv.length then(9,lv)else(0,([],[])::lv)
def Jp (lv:List bC):Int×List bC:=if lv.length=1 then(10,lv)else(0,lv.tail)
def Qa (lv:List bC):Int×List bC:=match lv with
 |x::y::r=>(0,(wU y.1 x.1,y.2++x.2)::r)
 |_=>(10,lv)
def YU (lv:List bC) (b:Int):List bC:=match lv with
 |x::r=>(x.1,x.2++[b])::r
 |[]=>[]
theorem wC {most:Nat} {aw lv:List bC} {c:Cl} {cs:List Cl}:gr most aw lv (c::cs)=if(gc most lv c.1 c.2).1=0 then gr most aw (gc most lv c.1 c.2).2 cs else((gc most lv c.1 c.2).1,aw):=rfl
theorem vV {x:bC} {r:List bC}:QS (x::r)=x.1.length+QS r:=by rfl
theorem ZR {most:Nat} {lv:List bC} {p v:Int} (O:iw most lv):iw most (gc most lv p v).2∧(gc most lv p v).2.length=lv.length:=by
 cases lv with
 |nil=>trivial
 |cons x r=>
  unfold gc;dsimp only
  split
  ·grind
  ·rename_i hp
   split
   ·grind
   ·rename_i h1;have hh:=O.held;rw[vV]at hh;refine⟨⟨?_,O.le,?_,?_,by simp,O.deep⟩,rfl⟩
    ·grind[QS,gd,vV,qJr]
    ·intro y hy;rcases List.mem_cons.1 hy with rfl |hy
     ·exact(O.ins x (iK ..)).put omQ
     ·exact O.ins y (iX _ hy)
    ·intro y hy;rcases List.mem_cons.1 hy with rfl |hy
     ·exact(O.un x (iK ..)).put
     ·exact O.un y (iX _ hy)
theorem qJu {most:Nat} {aw:List bC} (W:iw most aw):∀{cs:List Cl} {lv:List bC},iw most lv→lv.length=aw.length→iw most (gr most aw lv cs).2∧(gr most aw lv cs).2.length=aw.length:=by
 intro cs
 induction cs with
 |nil=>intro lv O hl;trivial
 |cons c cs ih=>
  intro lv O hl;unfold gr
  split
  ·grind[ZR,trans]
  grind
theorem qvp {most:Nat} {lv:List bC} (O:iw most lv):iw most (kV lv).2:=by
 unfold kV
 split
 ·grind
 ·refine⟨by rw[vV];have:=O.held;grind,O.le,?_,?_,by simp,by grind⟩
  ·intro y hy;rcases List.mem_cons.1 hy with rfl |hy
   ·nofun
   ·exact O.ins y hy
  ·intro y hy;rcases List.mem_cons.1 hy with rfl |hy
   ·exact List.nodup_nil
   ·exact O.un y hy
theorem qks {most:Nat} {lv:List bC} (O:iw most lv):iw most (Jp lv).2:=by
 unfold Jp
 split
 ·grind
 ·rename_i h1;cases lv with
  |nil=>grind
  |cons x r=>
   have hh:=O.held;have h2:=O.deep;rw[vV]at hh;simp at h1 h2;refine⟨by grind,O.le,λy hy=>O.ins y (iX _ hy),λy hy=>O.un y (iX _ hy),?_,by grind⟩;grind
theorem Vc:∀{cs l:List Cl},(wU l cs).length≤l.length+cs.length:=by
 intro cs
 induction cs with
 |nil=>intro l;exact Nat.le_refl _
 |cons c cs ih=>
  grind[gd,qJr,wU,List.length_cons]
theorem tS.pH:∀{cs l:List Cl},tS l→tS cs→tS (wU l cs):=by
 intro cs
 induction cs with
 |nil=>intro l h _;exact h
 |cons c cs ih=>intro l h hc;exact ih (h.put (hc c (iK ..))) λd hd=>hc d (iX _ hd)
theorem lQ.pH:∀{cs l:List Cl},lQ l→lQ (wU l cs):=by
 intro cs
 induction cs with
 |nil=>intro l h;exact h
 |cons c cs ih=>intro l h;exact ih h.put
theorem qXE {most:Nat} {lv:List bC} (O:iw most lv):iw most (Qa lv).2:=by
 match lv,O with
 |[],O=>exact O
 |[x],O=>exact O
 |x::y::r,O=>
  have hh:=O.held;have h2:=O.deep;rw[vV,vV]at hh;have:=Vc (cs:=x.1) (l:=y.1);refine⟨by show QS ((wU y.1 x.1,y.2++x.2)::r)≤most;grind[vV],O.le,?_,?_,by simp[Qa],by grind[Qa]⟩
  ·intro z hz;rcases List.mem_cons.1 hz with rfl |hz
   ·exact(O.ins y aM).pH (O.ins x aM)
   ·exact O.ins z (by grind)
  ·intro z hz;rcases List.mem_cons.1 hz with rfl |hz
   ·exact(O.un y aM).pH
   ·exact O.un z (by grind)
theorem qxn {most:Nat} {lv:List bC} {b:Int} (O:iw most lv):iw most (YU lv b):=by
 cases lv with
 |nil=>exact O
 |cons x r=>
  refine⟨O.held,O.le,?_,?_,by simp[YU],O.deep⟩
  ·intro z hz;rcases List.mem_cons.1 hz with rfl |hz
   ·exact O.ins x aM
   ·exact O.ins z (by grind)
  ·intro z hz;rcases List.mem_cons.1 hz with rfl |hz
   ·exact O.un x aM
   ·exact O.un z (by grind)
end
section
variable {g h:AH} {L R:List SP}
def Dw (w m:Nat) (l:List Cl):SP:=.ex λv=>.all [qv w [.int .i64 (m:Int),v],qC 63 2 l.length v (l.flatMap jH)]
theorem Dw.E {w m:Nat} {l:List Cl} (H:HS g h (Dw w m l::R)):∃v,HS g h (qv w [.int .i64 (m:Int),v]::qC 63 2 l.length v (l.flatMap jH)::R):=by obtain⟨v,H⟩:=H.iq;exact⟨v,H.cE⟩
theorem Dw.I {w m:Nat} {l:List Cl} {v:AV} (H:HS g h (qv w [.int .i64 (m:Int),v]::qC 63 2 l.length v (l.flatMap jH)::R)):HS g h (Dw w m l::R) :=
 HS.iO v (HS.allI H)
theorem J0 (l:List Cl):jW (l.flatMap jH)=true:=by unfold jW;rw[List.all_eq_true];intro v hv;obtain⟨c,_,hc⟩:=List.mem_flatMap.1 hv;simp[jH]at hc;rcases hc with rfl |rfl<;>rfl
theorem qvC {l:List Cl} {i:Nat} {p x v:Int} (h:l[i]? =some (p,x)):(l.flatMap jH).set (i*2+1) (.int .u64 v)=(l.set i (p,v)).flatMap jH:=by
 have hi:=(List.getElem?_eq_some_iff.1 h).1;apply List.ext_getElem?;intro j;have hd:j=j/2*2+j%2:=by omega
 have hm:j%2<2:=by omega
 rw[List.getElem?_set,wo (sz:=2) jH (λ_=>rfl)];have e1:=y9 (sz:=2) jH (λ_=>rfl) l (j/2) (j%2) hm;have e2:=y9 (sz:=2) jH (λ_=>rfl) (l.set i (p,v)) (j/2) (j%2) hm;rw[← hd]at e1 e2;rw[e1,e2,List.getElem?_set];by_cases h1:i*2+1=j
 ·have:j/2=i:=by omega
  have h3:j%2=1:=by omega
  rw[iJ h1,iJ omQ,iJ this.symm,iJ hi,h3];rfl
 ·rw[iQ h1];by_cases h2:i=j/2
  ·have h3:j%2=0:=by omega
   rw[iJ h2,iJ hi,h3,← h2,h];rfl
  grind
def zI (o:Option Nat):Int:=match o with |some i=>(i:Int) |none=>-1
end
section
variable {g h:AH} {L R:List SP}
def Rq (a:Nat) (x:bC):SP:=.ex λw=>.ex λfv=>.all [qv a [.ptr w 0,fv],Dw w 96 x.1,qC 3 1 x.2.length fv (x.2.map (.int .i64))]
theorem Rq.E {a:Nat} {x:bC} (H:HS g h (Rq a x::R)):∃w fv,HS g h (qv a [.ptr w 0,fv]::Dw w 96 x.1::qC 3 1 x.2.length fv (x.2.map (.int .i64))::R):=by obtain⟨w,H⟩:=H.iq;obtain⟨fv,H⟩:=H.iq;exact⟨w,fv,H.cE⟩
theorem Rq.I {a w:Nat} {fv:AV} {x:bC} (H:HS g h (qv a [.ptr w 0,fv]::Dw w 96 x.1::qC 3 1 x.2.length fv (x.2.map (.int .i64))::R)):HS g h (Rq a x::R) :=
 HS.iO w (HS.iO fv (HS.allI H))
theorem IS (l:List Nat):l.reverse.sum=l.sum:=by
 simp
theorem qWo {p:Int}:∀{lv:List bC},(∀(j:Nat) x,lv[j]? =some x→zt p x.1=none)→U9 p lv=none:=by
 intro lv
 induction lv with
 |nil=>intro _;rfl
 |cons x r ih=>intro h;unfold U9;rw[h 0 x rfl];exact ih λj y hy=>h (j+1) y (by grind)
theorem qjR {p v:Int}:∀{lv:List bC} {i:Nat} {x:bC},(∀j,j<i→∀x,lv[j]? =some x→zt p x.1=none)→lv[i]? =some x→zt p x.1=some v→U9 p lv=some v:=by
 intro lv
 induction lv with
 |nil=>simp
 |cons y r ih=>
  intro i x h1 h2 h3;unfold U9;cases i with
  |zero=>grind
  |succ i=>rw[h1 0 omQ y rfl];grind
theorem iw.len {most:Nat} {lv:List bC} (O:iw most lv) {x:bC} (hx:x∈lv):x.1.length≤96:=by
 have h1:=O.held;have h2:=O.le;have:x.1.length≤QS lv:=by
  clear h1 O
  induction lv with
  |nil=>grind
  |cons y r ih=>
   rw[vV];grind
 omega
theorem OF {most:Nat} {x:bC} {r:List bC} {p v:Int}:∃c,(gc most (x::r) p v).2=(c,x.2)::r:=by
 unfold gc;grind
theorem qK2:∀(lv:List bC) (out:List Cl),(lv.foldl (λout x=>wU x.1 out) out).length≤out.length+QS lv:=by
 intro lv
 induction lv with
 |nil=>simp
 |cons x r ih=>grind[wU,Vc,vV]
theorem qW5:∀(lv:List bC) (out:List Cl),tS out→(∀x∈lv,tS x.1)→tS (lv.foldl (λout x=>wU x.1 out) out):=by
 intro lv
 induction lv with
 |nil=>simp
 |cons x r ih=>intro out h hx;exact ih _ ((hx x (iK ..)).pH h) λy hy=>hx y (iX _ hy)
end
section
variable {g h:AH} {L R:List SP}
structure VM where
  sz:Nat
  K:List Cl
  most:Nat
  lv:List bC
  aB:Int
structure fm (M:VM):Prop where
  lo:32≤M.sz
  hi:M.sz≤256
  lR:iw M.most M.lv
  ins:∀c∈M.K,1≤c.1∧c.1<M.sz
  un:lQ M.K
  fr:∀x∈M.lv,x.2.length<100000
def yE (M:VM) (p x:Int):Int×VM :=
 if 1≤p∧p<M.sz then match zt p M.K with
  |some y=>(if y=x then 0 else 14,M)
  |none=>(0,{ M with K:=M.K++[(p,x)] })
 else(2,M)
def qm (M:VM) (p:Int):(Int×Int)×VM :=
 if 1≤p∧p<M.sz then match U9 p M.lv with
  |some x=>((x,0),M)
  |none=>match zt p M.K with
   |some x=>((x,0),M)
   |none=>((0,11),{ M with aB:=p })
 else((0,2),M)
def z7 (M:VM) (cs:List Cl):Int×VM :=
 if∀c∈cs,1≤c.1∧c.1<M.sz then((gr M.most M.lv M.lv cs).1,{ M with lv:=(gr M.most M.lv M.lv cs).2 })else(2,M)
def lh (M:VM) (b:Int):VM:={ M with lv:=YU M.lv b }
def yN (M:VM):Int×VM:=((kV M.lv).1,{ M with lv:=(kV M.lv).2 })
def xa (M:VM):Int×VM:=((Jp M.lv).1,{ M with lv:=(Jp M.lv).2 })
def gM (M:VM):Int×VM:=((Qa M.lv).1,{ M with lv:=(Qa M.lv).2 })
theorem VN:∀(n:Nat) (l:List Int),l.Nodup→(∀x∈l,0≤x∧x<n)→l.length≤n:=by
 intro n
 induction n with
 |zero=>
  intro l _ h;cases l with
  |nil=>simp
  |cons x l=>simp_all;omega
 |succ n ih=>
  intro l hd h;by_cases hx:(n:Int)∈l
  ·have:=ih (l.erase n) (hd.erase _) (λx lz=>by
    grind)
   grind
  grind
theorem fm.Ax {M:VM} (O:fm M):M.K.length≤256:=by
 have hu:(M.K.map (·.1)).Nodup:=O.un
 have:=VN M.sz _ hu (λx hx=>by
  obtain⟨c,hc,rfl⟩:=List.mem_map.1 hx;have:=O.ins c hc
  omega)
 rw[List.length_map]at this;have:=O.hi;omega
theorem w5 {α:Type} {sz:Nat} {enc:α→List AV} (he:∀a,(enc a).length=sz) {l:List α} {i:Nat} {a:α} (h:l[i]? =some a):((l.flatMap enc).drop (i*sz)).take sz=enc a:=by grind[List.getElem?_eq_some_iff,J9,List.drop_eq_getElem_cons,List.take_left]
theorem qg4 {α:Type} {sz:Nat} {enc:α→List AV} (he:∀a,(enc a).length=sz) {l:List α} {i:Nat} {a:α} (hi:i<l.length):QH (l.flatMap enc) (i*sz) (enc a)=(l.set i a).flatMap enc:=by
 have h1:(l.flatMap enc).take (i*sz)=(l.take i).flatMap enc:=by
  have e1:l.flatMap enc=(l.take i).flatMap enc++(l.drop i).flatMap enc:=by rw[← List.flatMap_append,List.take_append_drop]
  have e2:((l.take i).flatMap enc).length=i*sz:=by rw[wo (sz:=sz) enc he,List.length_take,Nat.min_eq_left omQ]
  grind
 have h2:(l.flatMap enc).drop (i*sz+sz)=(l.drop (i+1)).flatMap enc:=by rw[show i*sz+sz=(i+1)*sz by grind,J9 (sz:=sz) enc he]
 simp_all[QH,List.set_eq_take_append_cons_drop,List.flatMap_append,List.flatMap_cons]
theorem qqO {α:Type} {enc:α→List AV} {a:α}:∀n,gu (enc a) n=(List.replicate n a).flatMap enc:=by
 intro n
 induction n with
 |zero=>rfl
 |succ n ih=>rw[gu,ih,List.replicate_succ,List.flatMap_cons]
def iR (n:Int):Nat:=(max 32 (min n 256)).toNat
theorem IT (n:Int):32≤iR n∧iR n≤256:=by grind[iR]
def BV (words most:Int):VM:=⟨iR words,[],(max 0 (min most 96)).toNat,[([],[])],0⟩
theorem qWf {m:Nat} (hm:m≤96):iw m [([],[])]:=⟨by simp[QS],hm,by intro x hx;simp at hx;subst hx;nofun,by intro x hx;simp at hx;subst hx;exact List.nodup_nil,by simp,by simp⟩
theorem qwA (words most:Int):fm (BV words most) :=
 ⟨(IT _).1,(IT _).2,qWf (by show(max 0 (min most 96)).toNat≤96;omega),by nofun,List.nodup_nil,by simp[BV]⟩
theorem qXh {M:VM} {p x:Int} (O:fm M):fm (yE M p x).2:=by
 unfold yE
 split
 ·rename_i hp
  split
  ·grind
  ·rename_i hn;refine⟨O.lo,O.hi,O.lR,?_,?_,O.fr⟩
   ·intro c hc;rcases List.mem_append.1 hc with hc |hc
    ·exact O.ins c hc
    grind
   ·have:=O.un.put (p:=p) (v:=x);grind[OI]
 grind
theorem vQ {M:VM} {p:Int} (O:fm M):fm (qm M p).2:=by
 unfold qm
 repeat' split
 all_goals exact⟨O.lo,O.hi,O.lR,O.ins,O.un,O.fr⟩
theorem qw9 {most:Nat} {lv:List bC} {p v:Int} {n:Nat} (h:∀x∈lv,x.2.length<n):∀x∈(gc most lv p v).2,x.2.length<n:=by
 cases lv with
 |nil=>nofun
 |cons y r=>
  obtain⟨c,hc⟩:=OF (most:=most) (x:=y) (r:=r) (p:=p) (v:=v);grind
theorem qxC {most:Nat} {aw:List bC} {n:Nat} (hw:∀x∈aw,x.2.length<n):∀{cs:List Cl} {lv:List bC},(∀x∈lv,x.2.length<n)→∀x∈(gr most aw lv cs).2,x.2.length<n:=by
 intro cs
 induction cs with
 |nil=>intro lv h;exact h
 |cons c cs ih=>
  intro lv h;rw[wC]
  split
  ·exact ih (qw9 h)
  grind
theorem Vp {M:VM} {cs:List Cl} (O:fm M):fm (z7 M cs).2:=by
 unfold z7
 split
 ·exact⟨O.lo,O.hi,(qJu O.lR O.lR rfl).1,O.ins,O.un,qxC O.fr O.fr⟩
 grind
def vT (zs:List Int) (i:Nat):Int:=zs[i]?.getD 0
def kW (zs:List Int):List Cl:=(List.range (iR zs.length-1)).map λi=>(((i+1:Nat):Int),vT zs (i+1))
def QP (zs:List Int) (most:Int):VM:=⟨iR zs.length,kW zs,(max 0 (min most 96)).toNat,[([],[])],0⟩
theorem qkd (zs:List Int):(kW zs).length=iR zs.length-1:=by simp[kW]
theorem Wj (zs:List Int) {i:Nat} (hi:i+1<iR zs.length):(kW zs)[i]? =some (((i+1:Nat):Int),vT zs (i+1)):=by unfold kW;grind
theorem qgT (zs:List Int) {i:Nat} {p:Int} (hp:(i:Int)<p):zt p ((kW zs).take i)=none:=by rw[V8];intro hm;obtain⟨c,hc,he⟩:=List.mem_map.1 hm;obtain⟨j,hj⟩:=List.getElem?_of_mem hc;have mi:=(List.getElem?_eq_some_iff.1 hj).1;simp[qkd]at mi;rw[List.getElem?_take_of_lt omQ,Wj zs omQ]at hj;grind
def Dx (zs:List Int) (most:Int) (i:Nat):VM:={ QP zs most with K:=(kW zs).take i }
theorem qwP (zs:List Int) (most:Int) (i:Nat):fm (Dx zs most i):=by
 have hb:=IT (zs.length:Int);refine⟨hb.1,hb.2,qWf (by show(max 0 (min most 96)).toNat≤96;omega),?_,?_,by simp[Dx,QP]⟩
 ·intro c hc;obtain⟨j,hj⟩:=List.getElem?_of_mem (List.mem_of_mem_take hc);have mi:=(List.getElem?_eq_some_iff.1 hj).1;rw[qkd]at mi;rw[Wj zs omQ]at hj;cases hj;show 1≤((j+1:Nat):Int)∧((j+1:Nat):Int)<((iR zs.length:Nat):Int);omega
 ·show((((kW zs).take i).map (·.1))).Nodup;refine List.Nodup.sublist ((List.take_sublist i _).map _) ?_;grind[kW,List.map_map,List.nodup_range,iR]
theorem qq7 (zs:List Int) (most:Int):fm (QP zs most):=by have:=qwP zs most (kW zs).length;unfold Dx at this;rw[List.take_length]at this;trivial
end
section
abbrev qO:Type:=Int×Int×Int×Int×Int
def ju (x:qO):List AV:=[.int .i64 x.1,.int .i64 x.2.1,.int .i64 x.2.2.1,.int .i64 x.2.2.2.1,.int .u64 x.2.2.2.2]
theorem qJn (l:List qO):jW (l.flatMap ju)=true:=by unfold jW;rw[List.all_eq_true];intro v hv;obtain⟨c,_,hc⟩:=List.mem_flatMap.1 hv;simp[ju]at hc;rcases hc with rfl |rfl |rfl |rfl |rfl<;>rfl
def xY (op:Int):(Int×Int)×(Int×Int)×(Int×Int) :=
 if op=1∨op=11∨op=21 then((0,7),(0,0),(0,0))
 else if op=2∨op=10 then((0,7),(0,7),(0,0))
 else if op=3∨op=4∨op=5∨op=6∨op=7 then((0,7),(0,7),(0,7))
 else if op=8∨op=9 then((0,7),(0,7),(0,15))
 else if op=12 then((0,0),(0,0),(0,40))
 else if op=13 then((0,7),(0,0),(0,40))
 else if op=23 then((1,12),(0,7),(0,6))
 else((0,0),(0,0),(0,0))
def Qb (f:Int×Int) (n:Int):Bool:=decide (f.1≤n∧n≤f.2)
def kC (x:qO):Bool:=decide (1≤x.1∧x.1≤23)&&Qb (xY x.1).1 x.2.1&&Qb (xY x.1).2.1 x.2.2.1&&Qb (xY x.1).2.2 x.2.2.2.1&&decide (x.2.2.2.2=0∨x.1=1)
def xc (op:Int):Bool:=decide (op=14∨op=17)
def zr (op:Int):Int:=if op=15 then 14 else if op=18 then 17 else if op=19 then 18 else 0
def jD (st:List Int):Int:=st.getLast?.getD (-1)
def qM (l:List qO) (i:Int):qO:=(l[i.toNat]?).getD (0,0,0,0,0)
def cQ (l:List qO) (st:List Int):Int:=if st=[]then 0 else(qM l (jD st)).1
def xr (l:List qO) (st:List Int) (x:qO):Int :=
 if kC x=false then 8
 else if 0<zr x.1∧cQ l st≠zr x.1 then 12
 else if x.1=16∧cQ l st≠14 then 12
 else if xc x.1=true∧5≤st.length then 9
 else 0
def jN (st:List Int) (i op:Int):List Int :=
 if xc op=true∨op=18 then(if 0<zr op then st.dropLast else st)++[i]else(if 0<zr op then st.dropLast else st)
def sB (l:List qO):List qO→Nat→List Int→(Int×Int) ⊕ List Int
 |[],_,st=>.inr st
 |x::r,i,st=>if xr l st x=0 then sB l r (i+1) (jN st i x.1)else .inl (i,xr l st x)
def ym:List qO→Nat→List Int→List Int
 |[],_,_=>[]
 |x::r,i,st=>jD st::ym r (i+1) (jN st i x.1)
def qB (a:List Int) (i:Int):Int:=(a[i.toNat]?).getD 0
def YP (l:List qO) (a:List Int) (i:Nat) (x:qO):Prop :=
 (x.1=12∨x.1=13)∧((l.length:Int)<x.2.2.2.1∨(x.2.2.2.1=l.length∧qB a i≠ -1)∨(x.2.2.2.1<l.length∧qB a x.2.2.2.1≠qB a i))
instance {l:List qO} {a:List Int} {i:Nat} {x:qO}:Decidable (YP l a i x):=by unfold YP;infer_instance
def OM (l:List qO) (a:List Int):List qO→Nat→Int×Int
 |[],_=>(0,0)
 |x::r,i=>if YP l a i x then((i:Int),2)else OM l a r (i+1)
def yn (l:List qO):Int×Int :=
 if l.length=0∨40<l.length then(0,4)
 else match sB l l 0 []with
  | .inl r=>r
  | .inr st=>if st=[]then OM l (ym l 0 []) l 0 else(jD st,12)
def dv (i:Nat) (st:List Int):Prop:=∀y∈st,0≤y∧y<(i:Int)
theorem dv.nil {i:Nat}:dv i []:=λ_ h=>by grind
theorem dv.dropLast {i:Nat} {st:List Int} (h:dv i st):dv i st.dropLast:=λy hy=>h y ((List.dropLast_sublist st).subset hy)
theorem dv.behind {i:Nat} {st:List Int} {op:Int} (h:dv i st):dv (i+1) (jN st i op):=by
 have h1:∀s,dv i s→dv (i+1) s:=λs hs y hy=>by have:=hs y hy;omega
 have h2:∀s,dv i s→dv (i+1) (s++[(i:Int)]):=by
  intro s hs y hy;rcases List.mem_append.1 hy with hy |hy
  ·exact h1 s hs y hy
  grind
 unfold jN
 repeat' split
 ·exact h2 _ h.dropLast
 ·grind
 ·exact h1 _ h.dropLast
 grind
theorem dv.fo {i:Nat} {st:List Int} (h:dv i st) (hn:st≠[]):0≤jD st∧jD st<(i:Int):=by refine h _ ?_;grind[jD,List.getLast?_eq_some_getLast,List.getLast_mem]
theorem G5:jD []= -1:=rfl
theorem x8 {l:List qO} {st:List Int} {x:qO} (h:xr l st x=0):kC x=true∧(0<zr x.1∨x.1=16→st≠[])∧(xc x.1=true→st.length<5):=by
 unfold xr at h
 split at h
 ·grind
 ·rename_i h1
  split at h
  ·grind
  ·rename_i h2
   split at h
   ·grind
   ·rename_i h3
    split at h
    ·grind
    ·rename_i h4
     refine⟨by grind,?_,λhb=>by
      grind⟩
     rintro ho rfl;have h0:cQ l []=0:=rfl;grind
theorem qju {l r:List qO} {x:qO} {i:Nat} {st:List Int}:sB l (x::r) i st=if xr l st x=0 then sB l r (i+1) (jN st i x.1)else .inl (i,xr l st x):=rfl
theorem VU:∀{r:List qO} {i:Nat} {st:List Int},(ym r i st).length=r.length:=by
 intro r
 induction r with
 |nil=>intro i st;rfl
 |cons x r ih=>grind[ym]
end
section
variable {g h:AH} {L R:List SP}
theorem Zd {D:Nat→Prop} {sz n:Nat} {v:AV} {xs:List AV} (S:Sl D h sz n v xs):One v:=by cases S<;>exact⟨rfl,rfl⟩
theorem MC {v:AV} (o:One v):jW [v]=true:=by simp[jW,o.2]
theorem JZ {g' ha:AH} {b off n nx:Nat} {xs ys l:List AV} {L2 R2:List SP} {K0:Go.Ae.R} {Q:AV→AH→Prop} (H:HS g h L) (s:bB L (qv b xs) R) (hx:(xs.drop off).take n=l) (H2:HS g' ha L2) (s2:bB L2 (qv b ys) R2) (rj:(ys.drop off).take n=l) (hl:l.length=n) (h0:0<n) (ap:b<nx)
  (w:wp K0 Q):wp (kA (.ptr b off) (some n) (.agg l) h ha nx K0) Q:=by
 obtain⟨e,A⟩:=H.obj s;obtain⟨e2,A2⟩:=H2.obj s2;exact qGR hl h0 (λi hi=>by rw[A.at,← hx,List.getElem?_take_of_lt hi,List.getElem?_drop]) (λi hi=>by rw[A2.at,← rj,List.getElem?_take_of_lt hi,List.getElem?_drop]) ap w
end
section
variable {g h:AH} {L R:List SP}
theorem qZA {l:List qO} {i:Nat} {st:List Int} (hi:i<l.length):sB l (l.drop i) i st=if xr l st l[i]=0 then sB l (l.drop (i+1)) (i+1) (jN st i l[i].1)else .inl ((i:Int),xr l st l[i]):=by rw[List.drop_eq_getElem_cons hi];rfl
theorem qYo {l:List qO} {i:Nat} {st:List Int} (hi:i<l.length):ym (l.drop i) i st=jD st::ym (l.drop (i+1)) (i+1) (jN st i l[i].1):=by rw[List.drop_eq_getElem_cons hi];rfl
theorem Mx {l:List qO} {a:List Int} {i:Nat} (hi:i<l.length):OM l a (l.drop i) i=if YP l a i l[i]then((i:Int),2)else OM l a (l.drop (i+1)) (i+1):=by rw[List.drop_eq_getElem_cons hi];rfl
theorem Wk {l:List qO} {i:Nat} (hi:i<l.length):((l.flatMap ju).drop (i*5)).take 5=ju l[i]:=w5 (sz:=5) (λ_=>rfl) (iW hi)
theorem qzl {x:qO} (h:kC x=true) (hj:x.1=12∨x.1=13):0≤x.2.2.2.1∧x.2.2.2.1≤40:=by
 have e:(xY x.1).2.2=(0,40):=by
  rcases hj with e |e<;>rw[e]<;>rfl
 simp_all[kC,Bool.and_eq_true,Qb,decide_eq_true_eq]
theorem qgp {l:List qO}:∀{r:List qO} {i:Nat} {st:List Int} {q:Int×Int},sB l r i st=.inl q→q.2≠0:=by
 intro r
 induction r with
 |nil=>nofun
 |cons y r ih=>
  grind[qju]
theorem qVB {l:List qO} (h:(yn l).2=0):sB l l 0 []=.inr []:=by
 grind[yn,sB,absurd,qgp]
end
section
variable {g h:AH} {L R:List SP}
theorem bB.lH {A A':List SP} {P:SP} (s:bB A P A') (R:List SP):bB (A++R) P (A'++R):=by
 induction s with
 |here=>exact .here
 |there s ih=>exact .there ih
theorem HS.fS {A A':List SP} {P:SP} (s:bB A P A') (H:HS g h (.all A::R)):HS g h (P:: .all A'::R):=by have H1:=(H.cE).aJ (bB.lH s R);have H2:=HS.allI (HS.back (A:=A') H1);exact H2.sub (.cons e_1 (.refl))
theorem HS.ot {A A':List SP} {P:SP} (s:bB A P A') (H:HS g h (P:: .all A'::R)):HS g h (.all A::R):=by have H1:HS g h (.all A'::P::R):=H.sub (.cons e_1 (.refl));have H2:=(H1.cE).aJ (bB.skip A' .here);exact HS.allI (HS.mj (bB.lH s R) H2)
theorem HS.slv {e:TypeId} {sz n:Nat} {v:AV} {xs:List AV} (H:HS g h L) (s:bB L (qC e sz n v xs) R) (hn:0<n):∃b cp o,v=.slice b 0 n cp o:=by obtain⟨b,cp,o,ys,hv,_⟩:=(H.aJ s).EI hn;grind
theorem HS.Wl {e:TypeId} {sz n b cp:Nat} {o:Bool} {xs:List AV} (H:HS g h L) (s:bB L (qC e sz n (.slice b 0 n cp o) xs) R):b<h.nx∧∀j,j<n*sz→h.at b (0+j)=xs[j]?:=by
 have S:=H.sl s;cases S with
 |mk hd hb hr hl ha=>grind
theorem QZ {e:TypeId} {sz m:Nat} {x:AV} {ys:List AV} {D:Nat→Prop} {K2:AV→AH→Go.Ae.R} {Q:AV→AH→Prop} (H:HS g h L) (S:Sl D h sz m x ys) (bz:0<sz) (Da:m≤67108864) (h1:jW ys=true)
  (w:∀v' h',HS g h' (qC e sz m v' ys::L)→wp (K2 v' h') Q):wp (xH h e sz .aj x K2) Q:=by
 refine zA (n:=0) H.aj S bz omQ h1 λv' h' H'=>w v' h' ?_;grind
theorem wL (l:List Int):jW (l.map (AV.int .i64))=true:=by unfold jW;rw[List.all_eq_true];intro v hv;obtain⟨c,_,rfl⟩:=List.mem_map.1 hv;rfl
theorem XY {D:Nat→Prop} {n:Nat} (hn:1≤n) {p:Int} {c:AV} {l:List Cl} (S:Sl D h 2 l.length c (l.flatMap jH)) (hl:l.length<1000000) :
  ba n 103 [c,.int .i64 p] h λv h'=>v=.int .i64 (zI (Ym p l))∧h'=h:=by
 refine cu (S:=S103) rfl omQ λk hk=>?_;unfold S103;try simp only[iZ]
 refine jB (λm s h'=>∃i:Nat,s=(.int .i64 (i:Int),.int .i64 p,c,())∧i≤l.length∧m=l.length-i∧h'=h∧
  (∀j,j<i→∀c,l[j]? =some c→c.1≠p)) ?_ (m:=l.length) (by grind) ⟨0,rfl,by omega,by rfl,rfl,λj hj=>by omega⟩
 rintro m ih s' h' bj ⟨i,rfl,h1,rfl,rfl,h2⟩;dsimp only;refine yH S ?_;refine j8 (λap=>qK ?_) λeO=>qJ (qj (qq ⟨?_,rfl⟩))
 ·have hi:i<l.length:=by omega
  have hc:l[i]? =some l[i]:=iW hi;refine jn (x:=.int .i64 l[i].1) S omQ hi (by rw[y9 (sz:=2) jH (λ_=>rfl) _ _ _ omQ,hc];rfl) ?_;refine wX (λhe=>qK (qj (qq ⟨?_,rfl⟩))) λbW=>qJ (qE omQ ?_)
  ·rw[qKF hi h2 ⟨l[i].2,by grind⟩];rfl
  ·refine bj (l.length-(i+1)) _ _ omQ ⟨i+1,rfl,by omega,rfl,rfl,λj hj c bA=>?_⟩;grind
 ·rw[qzD λc hc=>?_]
  ·rfl
  grind[List.getElem?_of_mem,List.getElem?_eq_some_iff]
theorem qWc {n:Nat} (hn:2≤n) {p x:Int} {c:AV} {l:List Cl} (H:HS g h L) (S:Rd g L 2 l.length c (l.flatMap jH)) (hl:l.length<1000000) :
  ba n 117 [c,.int .i64 p,.int .u64 x] h λv h'=>HS g h' (qC 63 2 (gd p x l).length v ((gd p x l).flatMap jH)::L):=by
 refine dV (S:=S117) rfl omQ λk hk=>?_;unfold S117;try simp only[iZ]
 refine QZ H (S.sl H) omQ omQ (J0 l) λv0 h1 H1=>?_;refine qY (XY omQ (H1.sl .here) omQ) ?_;rintro _ _ ⟨rfl,rfl⟩;cases hi:Ym p l with
 |none=>refine jt (by nofun) ?_;refine qJ (qA rfl ?_);refine jY (n:=1) (sz:=2) (l:=[.int .i64 p,.int .u64 x]) H1 rfl rfl rfl rfl λv5 h5 H5=>?_;refine zA (H5.aJ e_1) (H5.sl .here) omQ omQ rfl λv6 h6 H6=>qq ?_;rw[OI (XB.1 hi),List.flatMap_append,List.length_append];exact H6.sub (.cons .here (.drop (.refl)))
 |some i=>obtain⟨h1,⟨y,h2,uI⟩,h5⟩:=XM hi;refine zK (by show((0:Nat):Int)≤(i:Int);omega) ?_;refine qK (NM H1 h1 omQ ⟨rfl,rfl⟩ λh6 H6=>qq ?_);grind[qvC,List.length_set]
def dP (p:AV×AV) (x:bC):SP:=.all [qC 63 2 x.1.length p.1 (x.1.flatMap jH),qC 3 1 x.2.length p.2 (x.2.map (.int .i64))]
theorem dP.E {p:AV×AV} {x:bC} (H:HS g h (dP p x::R)):HS g h (qC 63 2 x.1.length p.1 (x.1.flatMap jH)::qC 3 1 x.2.length p.2 (x.2.map (.int .i64))::R):=H.cE
theorem dP.I {p:AV×AV} {x:bC} (H:HS g h (qC 63 2 x.1.length p.1 (x.1.flatMap jH)::qC 3 1 x.2.length p.2 (x.2.map (.int .i64))::R)):HS g h (dP p x::R):=H.allI
def z5 (ps:List (AV×AV)):List AV:=ps.reverse.flatMap λp=>[p.1,p.2]
theorem JU (p:AV×AV) (ps:List (AV×AV)):z5 (p::ps)=z5 ps++[p.1,p.2]:=by simp[z5,List.reverse_cons,List.flatMap_append]
theorem XO (ps:List (AV×AV)):(z5 ps).length=ps.length*2:=by unfold z5;rw[wo (sz:=2) _ (λ_=>rfl),List.length_reverse]
theorem Xh {ps:List (AV×AV)} {i f:Nat} (hi:i<ps.length) (hf:f<2):(z5 ps)[i*2+f]? =(ps[ps.length-1-i]?).bind λp=>[p.1,p.2][f]?:=by unfold z5;rw[y9 (sz:=2) (λp:AV×AV=>[p.1,p.2]) (λ_=>rfl) _ _ _ hf,List.getElem?_reverse hi]
def cF (q most:Nat) (lv:List bC):SP:=.ex λv=>.ex λps:List (AV×AV)=>.all [.fk (ps.length=lv.length),qv q [.int .i64 (most:Int),v],qC 169 2 lv.length v (z5 ps),.all (List.zipWith dP ps lv)]
theorem cF.E {q most:Nat} {lv:List bC} (H:HS g h (cF q most lv::R)):∃v ps,ps.length=lv.length∧HS g h (qv q [.int .i64 (most:Int),v]::qC 169 2 lv.length v (z5 ps):: .all (List.zipWith dP ps lv)::R):=by obtain⟨v,H⟩:=H.iq;obtain⟨ps,H⟩:=H.iq;obtain⟨e,H⟩:=HS.dT (H.cE);exact⟨v,ps,e,H⟩
theorem cF.I {q most:Nat} {lv:List bC} {v:AV} {ps:List (AV×AV)} (e:ps.length=lv.length) (H:HS g h (qv q [.int .i64 (most:Int),v]::qC 169 2 lv.length v (z5 ps):: .all (List.zipWith dP ps lv)::R)):HS g h (cF q most lv::R) :=
 HS.iO v (HS.iO ps (HS.allI (HS.dU e H)))
theorem cF.E1 {q most:Nat} {x:bC} {r:List bC} (H:HS g h (cF q most (x::r)::R)):∃(v:AV) (p:AV×AV) (ps:List (AV×AV)),ps.length=r.length∧HS g h (qv q [.int .i64 (most:Int),v]::qC 169 2 (ps.length+1) v (z5 ps++[p.1,p.2])::
  qC 63 2 x.1.length p.1 (x.1.flatMap jH)::qC 3 1 x.2.length p.2 (x.2.map (.int .i64)):: .all (List.zipWith dP ps r)::R):=by
 obtain⟨v,ps,e,H⟩:=cF.E H;cases ps with
 |nil=>grind
 |cons p ps=>
  have e':ps.length=r.length:=by grind
  refine⟨v,p,ps,e',?_⟩;rw[JU]at H;have H1:HS g h (.all (dP p x::List.zipWith dP ps r)::qv q [.int .i64 (most:Int),v]::qC 169 2 (r.length+1) v (z5 ps++[p.1,p.2])::R):=H.sub (.cons e_2 .refl);have H2:=dP.E (HS.fS .here H1);rw[e'];exact H2.sub (.cons e_3 (.cons e_3 (.refl)))
theorem cF.I1 {q most:Nat} {x:bC} {r:List bC} {v:AV} {p:AV×AV} {ps:List (AV×AV)} (e:ps.length=r.length) (H:HS g h (qv q [.int .i64 (most:Int),v]::qC 169 2 (ps.length+1) v (z5 ps++[p.1,p.2])::
  qC 63 2 x.1.length p.1 (x.1.flatMap jH)::qC 3 1 x.2.length p.2 (x.2.map (.int .i64)):: .all (List.zipWith dP ps r)::R)):HS g h (cF q most (x::r)::R):=by
 refine cF.I (v:=v) (ps:=p::ps) (by grind) ?_;rw[JU];have H1:=dP.I (p:=p) (x:=x) (R:=.all (List.zipWith dP ps r)::qv q [.int .i64 (most:Int),v]::qC 169 2 (ps.length+1) v (z5 ps++[p.1,p.2])::R) (H.sub (.cons e_2 (.cons e_2 (.cons e_2 (.refl)))));have H2:=HS.ot (A:=dP p x::List.zipWith dP ps r) .here H1;show HS g h (_::qC 169 2 (r.length+1) v _:: .all (dP p x::List.zipWith dP ps r)::R);rw[← e];exact H2.sub (.cons e_1 (.cons e_1 (.cons .here .refl)))
theorem UJ:∀{ps:List (AV×AV)} {lv:List bC} {i:Nat} {a:AV×AV} {x:bC},ps[i]? =some a→lv[i]? =some x→∃T,bB (List.zipWith dP ps lv) (dP a x) T:=by
 intro ps
 induction ps with
 |nil=>simp
 |cons b ps ih=>
  intro lv i a x h1 h2;cases lv with
  |nil=>grind
  |cons y lv=>
   cases i with
   |zero=>simp at h1 h2;subst h1;subst h2;exact⟨_,.here⟩
   |succ i=>obtain⟨T,s⟩:=ih (lv:=lv) (i:=i) (by simpa using h1) (by simpa using h2);exact⟨_,.there s⟩
theorem vm {n:Nat} (hn:1≤n) {x lo hi:Int} (hl:lo≤hi):ba n 17 [.int .i64 x,.int .i64 lo,.int .i64 hi] h λv h'=>v=.int .i64 (max lo (min x hi))∧h'=h:=by
 refine dV (S:=S17) rfl omQ λk hk=>?_;unfold S17;try simp only
 repeat' (first |with_reducible refine qK ?_ |with_reducible refine qJ ?_ |(with_reducible refine qf ?_;try dsimp only) |(with_reducible refine ql ?_;try dsimp only) |(with_reducible refine qe ?_;try dsimp only) |(with_reducible refine qP ?_;try dsimp only) |(with_reducible refine zQ ?_;try dsimp only) |with_reducible refine qF ?_ |with_reducible refine qy ?_ |(with_reducible refine qG ?_;try dsimp only) |with_reducible refine qj ?_ |with_reducible refine jE ?_ |with_reducible refine jo ?_ |with_reducible refine qE omQ ?_ |with_reducible refine qn omQ ?_ |with_reducible refine yK omQ ?_ |with_reducible refine yc omQ ?_ |with_reducible refine vX ?_ |with_reducible refine vy ?_ |with_reducible refine j8 (λhc=>?_) (λhc=>?_) |with_reducible refine QK (λhc=>?_) (λhc=>?_) |with_reducible refine kw (λhc=>?_) (λhc=>?_) |with_reducible refine Ql (λhc=>?_) (λhc=>?_) |with_reducible refine wX (λhc=>?_) (λhc=>?_) |with_reducible refine Ja (λhc=>?_) (λhc=>?_) |with_reducible refine kK (λhc=>?_) (λhc=>?_))
 all_goals refine qq ⟨?_,rfl⟩
 all_goals grind
theorem qxU {n:Nat} (hn:2≤n) {m:Int} (H:HS g h R):ba n 92 [.int .i64 m] h λv h'=>∃q,v=.ptr q 0∧HS g h' (cF q (max 0 (min m 96)).toNat [([],[])]::R):=by
 refine bw (S:=S92) rfl omQ λk hk=>?_;unfold S92;try simp only[iZ]
 refine qY (vm omQ omQ) ?_;rintro _ _ ⟨rfl,rfl⟩;refine Ve (sz:=2) (ln:=1) (cp:=1) H rfl (Nat.le_refl _) omQ λv h3 H3=>?_;have h1:=H3.one .here;refine qA (l:=[.int .i64 (max ((0:Nat):Int) (min m ((96:Nat):Int))),v]) (by simp only[gn,h1.1];rfl) ?_;refine qh H3 (by show(true&&(v.one&&true))=true;rw[h1.2];rfl) λq h4 H4=>qq ⟨q,rfl,?_⟩;refine cF.I1 (v:=v) (p:=(.aj,.aj)) (ps:=[]) rfl ?_;rw[show(((max 0 (min m 96)).toNat:Nat):Int)=max ((0:Nat):Int) (min m ((96:Nat):Int)) by omega];have H5:=((HS.allI (A:=[]) H4).aj (e:=3) (sz:=1)).aj (e:=63) (sz:=2);exact H5.sub (.cons e_3 (.cons e_3 (.cons .here (.cons .here (.cons .here .refl)))))
theorem qjP {n q most:Nat} (hn:1≤n) {lv:List bC} (H:HS g h (cF q most lv::R)) (O:iw most lv) :
  ba n 127 [.ptr q 0] h λv h'=>v=.int .i64 ((most:Int)-(QS lv:Int))∧h'=h:=by
 refine bw (S:=S127) rfl omQ λk hk=>?_;unfold S127;try simp only[iZ]
 obtain⟨v,ps,e,H⟩:=cF.E H;have hh:=O.held;have hl:=O.le;have hd:=O.deep;refine qX (qQ (qZ ‹_› .here rfl ?_));refine jB (λm s h'=>∃(i:Nat),s=(.int .i64 (i:Int),.int .i64 ((most:Int)-(((lv.reverse.take i).map λx=>x.1.length).sum:Nat)),.ptr q 0,())∧i≤lv.length∧m=lv.length-i∧h'=h)
  ?_ (m:=lv.length) (by grind) ⟨0,by simp,by omega,by rfl,rfl⟩
 rintro m ih s h' bj ⟨i,rfl,h1,rfl,rfl⟩;dsimp only;have Dy:∀j,((lv.reverse.take j).map λx=>x.1.length).sum+((lv.reverse.drop j).map λx=>x.1.length).sum=QS lv:=by intro j;rw[← List.sum_append,← List.map_append,List.take_append_drop,List.map_reverse,IS];rfl
 refine qX (qQ (qZ ‹_› .here rfl ?_));refine qr ‹_› e_1 ?_;refine j8 (λap=>qK ?_) λeO=>qJ (qj (qq ⟨?_,rfl⟩))
 ·have hi:i<lv.length:=by omega
  have ha:ps[ps.length-1-i]? =some (ps[ps.length-1-i]'omQ):=iW _;have hx:lv[ps.length-1-i]? =some (lv[ps.length-1-i]'omQ):=iW _;generalize ps[ps.length-1-i]'omQ=a at ha;have rj:lv.reverse[i]? =some (lv[ps.length-1-i]'omQ):=by grind
  generalize lv[ps.length-1-i]'omQ=x at hx rj;refine qX (qQ (qZ ‹_› .here rfl ?_));refine jn (x:=a.1) (H.sl e_1) omQ omQ (by rw[Xh omQ omQ,ha];rfl) ?_;obtain⟨T,s⟩:=UJ ha hx;have H3:=dP.E (HS.fS s (H.aJ e_2));refine qr H3 .here ?_;have h2:=Dy i;have h3:=Dy (i+1);have h4:((lv.reverse.take (i+1)).map λx=>x.1.length).sum=((lv.reverse.take i).map λx=>x.1.length).sum+x.1.length:=by grind[List.take_add_one,Option.toList_some]
  refine qn omQ (qE omQ (bj (lv.length-(i+1)) _ _ omQ ⟨i+1,?_,by omega,rfl,rfl⟩));grind
 grind[List.drop_of_length_le,QS]
theorem qW6 {n q most:Nat} (hn:1≤n) {lv:List bC} (H:HS g h (cF q most lv::R)) (O:iw most lv) :
  ba n 124 [.ptr q 0] h λv h'=>v=.int .i64 (kV lv).1∧HS g h' (cF q most (kV lv).2::R):=by
 refine bw (S:=S124) rfl omQ λk hk=>?_;unfold S124;try simp only[iZ]
 have hd:=O.deep;unfold kV;by_cases h6:6≤lv.length
 ·rw[iJ h6];have hH:=H;obtain⟨v,ps,e,H⟩:=cF.E H;refine qX (qQ (qZ ‹_› .here rfl ?_));refine qr ‹_› e_1 ?_;refine zK omQ ?_;refine qK ?_;exact qq ⟨rfl,hH⟩
 ·rw[iQ h6];obtain⟨v,ps,e,H⟩:=cF.E H;refine qX (qQ (qZ ‹_› .here rfl ?_));refine qr ‹_› e_1 ?_;refine jt omQ ?_;refine qJ (qX (qQ (qZ ‹_› .here rfl ?_)));refine qA rfl ?_;refine jY (n:=1) (l:=[.aj,.aj]) (sz:=2) H rfl rfl rfl rfl λv3 h3 H3=>?_;refine zA (H3.aJ e_2) (H3.sl .here) omQ omQ rfl λv4 h4 H4=>?_;refine qX (qQ (qx H4 (b:=q) e_2 (H4.one .here) aM λh5 H5=>qq ⟨rfl,cF.I1 (v:=v4) (p:=(.aj,.aj)) (ps:=ps) e ?_⟩));have H6:=(H5.aj (e:=3) (sz:=1)).aj (e:=63) (sz:=2);rw[e];exact H6.sub (.cons e_2 (.cons e_2 (.cons .here (.cons .here (.drop .refl)))))
theorem qjf {n q most:Nat} (hn:1≤n) {lv:List bC} (H:HS g h (cF q most lv::R)) (O:iw most lv) :
  ba n 125 [.ptr q 0] h λv h'=>v=.int .i64 (Jp lv).1∧HS g h' (cF q most (Jp lv).2::R):=by
 refine bw (S:=S125) rfl omQ λk hk=>?_;unfold S125;try simp only[iZ]
 have hd:=O.deep;unfold Jp;by_cases h1:lv.length=1
 ·rw[iJ h1];have hH:=H;obtain⟨v,ps,e,H⟩:=cF.E H;refine qX (qQ (qZ ‹_› .here rfl ?_));refine qr ‹_› e_1 ?_;refine qk omQ ?_;refine qK ?_;exact qq ⟨rfl,hH⟩
 ·rw[iQ h1];cases lv with
  |nil=>have:=O.one;simp at this
  |cons x r=>
  simp at h1 hd;obtain⟨v,p,ps,e,H⟩:=cF.E1 H;have Ay:r.length≠0:=by grind
  refine qX (qQ (qZ ‹_› .here rfl ?_));refine qr ‹_› e_1 ?_;refine qW omQ ?_;refine qJ (qX (qQ (qZ ‹_› .here rfl ?_)));refine qX (qQ (qZ ‹_› .here rfl ?_));refine qr ‹_› e_1 ?_;refine qn omQ ?_;rw[show((ps.length+1:Nat):Int)-((1:Nat):Int)=((ps.length:Nat):Int) by omega];refine JS (H.aJ e_1) omQ omQ λv' H2=>?_;refine qX (qQ (qx H2 (b:=q) e_1 (H2.one .here) aM λh3 H3=>qq ⟨rfl,cF.I (v:=v') (ps:=ps) e ?_⟩));rw[← XO ps,List.take_left,e]at H3;exact H3.sub (.cons .here (.cons .here (.drop (.drop .refl))))
theorem Xu (l:List AV) (n f:Nat) (a b:AV) (hl:l.length=n*2) (hf:f<2):(l++[a,b])[n*2+f]? =[a,b][f]?:=by
 grind
theorem NE (l:List AV) (n:Nat) (a b c:AV) (hl:l.length=n*2):(l++[a,b]).set (n*2+0) c=l++[c,b]:=by simp_all
theorem qV9 (l:List AV) (n:Nat) (a b c:AV) (hl:l.length=n*2):(l++[a,b]).set (n*2+1) c=l++[a,c]:=by simp_all
theorem qzc {n q most:Nat} (hn:2≤n) {lv:List bC} {p:Int} (H:HS g h (cF q most lv::R)) (O:iw most lv) :
  ba n 110 [.ptr q 0,.int .i64 p] h λv h'=>v=.cA [.int .u64 ((U9 p lv).getD 0),.bool (U9 p lv).isSome]∧h'=h:=by
 refine cu (S:=S110) rfl omQ λk hk=>?_;unfold S110;try simp only[iZ]
 obtain⟨v,ps,e,H⟩:=cF.E H;have hd:=O.deep;refine qX (qQ (qZ ‹_› .here rfl ?_));refine qr ‹_› e_1 ?_;refine qn omQ ?_;refine jB (λm s h'=>∃(i:Nat),s=(.int .i64 ((lv.length:Int)-((1:Nat):Int)-(i:Int)),.int .i64 p,.ptr q 0,())∧i≤lv.length∧m=lv.length-i∧h'=h∧∀j,j<i→∀x,lv[j]? =some x→zt p x.1=none)
  ?_ (m:=lv.length) (by grind) ⟨0,by simp,by omega,by rfl,rfl,λj hj=>by omega⟩
 rintro m ih s h' bj ⟨i,rfl,h1,rfl,rfl,bY⟩;dsimp only;refine Ql (λap=>qK ?_) λeO=>qJ (qj (qq ⟨?_,rfl⟩))
 ·have hi:i<lv.length:=by omega
  have ha:ps[i]? =some (ps[i]'omQ):=iW _;have hx:lv[i]? =some (lv[i]'omQ):=iW _;have hm:lv[i]'omQ∈lv:=List.getElem_mem _;generalize ps[i]'omQ=a at ha;generalize lv[i]'omQ=x at hx hm;have uD:=O.len hm;rw[show(lv.length:Int)-((1:Nat):Int)-(i:Int)=((lv.length-1-i:Nat):Int) by omega];have fJ:∀f,f<2→(z5 ps)[(lv.length-1-i)*2+f]? =[a.1,a.2][f]?:=by intro f hf;rw[Xh omQ hf,show ps.length-1-(lv.length-1-i)=i by omega,ha];rfl
  refine qX (qQ (qZ ‹_› .here rfl ?_));refine jn (x:=a.1) (H.sl e_1) omQ omQ (fJ 0 omQ) ?_;obtain⟨T,s⟩:=UJ ha hx;have H3:=dP.E (HS.fS s (H.aJ e_2));refine qY (XY omQ (H3.sl .here) omQ) ?_;rintro _ _ ⟨rfl,rfl⟩;cases Rr:Ym p x.1 with
  |none=>
   refine jt (by nofun) (qJ (qn omQ (bj (lv.length-(i+1)) _ _ omQ ⟨i+1,?_,by omega,rfl,rfl,λj hj y hy=>?_⟩)))
   ·grind
   ·by_cases rC:j<i
    ·grind
    ·obtain rfl:j=i:=by omega
     grind[XB]
  |some t=>
   obtain⟨h1,⟨y,h2,uI⟩,_⟩:=XM Rr;refine zK (by show((0:Nat):Int)≤(t:Int);omega) (qK ?_);refine qX (qQ (qZ H .here rfl ?_));refine jn (x:=a.1) (H.sl e_1) omQ omQ (fJ 0 omQ) ?_;refine jn (x:=.int .u64 y) (H3.sl .here) omQ h1 ?_ (qj (qq ⟨?_,rfl⟩))
   ·rw[y9 (sz:=2) jH (λ_=>rfl) _ _ _ omQ,h2];rfl
   grind[qjR]
 grind[qWo,List.getElem?_eq_some_iff]
theorem qZ1 {n q most:Nat} (hn:3≤n) {lv:List bC} {p v:Int} (H:HS g h (cF q most lv::R)) (O:iw most lv) :
  ba n 120 [.ptr q 0,.int .i64 p,.int .u64 v] h λr h'=>r=.int .i64 (gc most lv p v).1∧HS g h' (cF q most (gc most lv p v).2::R):=by
 cases lv with
 |nil=>have:=O.one;grind
 |cons x r=>
 have uD:=O.len (x:=x) (iK ..);have hd:=O.deep;have hh:=O.held;simp at hd;refine dV (S:=S120) rfl omQ λk hk=>?_;unfold S120;try simp only[iZ]
 unfold gc;by_cases hp:p<1∨256≤p
 ·simp only[iJ hp]
  repeat' (first |with_reducible refine qK ?_ |with_reducible refine qJ ?_ |(with_reducible refine qf ?_;try dsimp only) |(with_reducible refine ql ?_;try dsimp only) |(with_reducible refine qe ?_;try dsimp only) |(with_reducible refine qP ?_;try dsimp only) |(with_reducible refine zQ ?_;try dsimp only) |with_reducible refine qF ?_ |with_reducible refine qy ?_ |(with_reducible refine qG ?_;try dsimp only) |with_reducible refine qj ?_ |with_reducible refine jE ?_ |with_reducible refine jo ?_ |with_reducible refine qE omQ ?_ |with_reducible refine qn omQ ?_ |with_reducible refine yK omQ ?_ |with_reducible refine yc omQ ?_ |with_reducible refine vX ?_ |with_reducible refine vy ?_ |with_reducible refine qk omQ ?_ |with_reducible refine qW omQ ?_ |with_reducible refine jb omQ ?_ |with_reducible refine jR omQ ?_ |with_reducible refine jO omQ ?_ |with_reducible refine jM omQ ?_ |with_reducible refine ve omQ ?_ |with_reducible refine vj omQ ?_ |with_reducible refine xL omQ ?_ |with_reducible refine xJ omQ ?_ |with_reducible refine zK omQ ?_ |with_reducible refine jt omQ ?_ |with_reducible refine j8 (λhc=>?_) (λhc=>?_) |with_reducible refine QK (λhc=>?_) (λhc=>?_) |with_reducible refine kw (λhc=>?_) (λhc=>?_) |with_reducible refine Ql (λhc=>?_) (λhc=>?_) |with_reducible refine wX (λhc=>?_) (λhc=>?_) |with_reducible refine Ja (λhc=>?_) (λhc=>?_) |with_reducible refine kK (λhc=>?_) (λhc=>?_))
  all_goals exact qq ⟨rfl,H⟩
 simp only[iQ hp];have hH:=H;obtain⟨sv,pr,ps,e,H⟩:=cF.E1 H;have dE:=XO ps;refine jM omQ ?_;refine qG ?_;(try dsimp only);refine qP ?_;(try dsimp only);refine jt omQ ?_;refine qy (qJ (qX (qQ (qZ ‹_› .here rfl ?_))));refine qr ‹_› e_1 ?_;refine qn omQ ?_;refine qX (qQ (qZ ‹_› .here rfl ?_))
 rw[show((ps.length+1:Nat):Int)-((1:Nat):Int)=((ps.length:Nat):Int) by omega];refine jn (x:=pr.1) (H.sl e_1) omQ omQ (Xu _ _ 0 _ _ dE omQ) ?_;refine qY (XY omQ (H.sl e_2) omQ) ?_;rintro _ _ ⟨rfl,rfl⟩
 have fin:∀(K:AV→AH→Go.Ae.R) (Q:AV→AH→Prop) (h5:AH),h5=h5→HS g h5 (qv q [.int .i64 (most:Int),sv]::qC 169 2 (ps.length+1) sv (z5 ps++[pr.1,pr.2])::
  qC 63 2 x.1.length pr.1 (x.1.flatMap jH)::qC 3 1 x.2.length pr.2 (x.2.map (.int .i64)):: .all (List.zipWith dP ps r)::R)→
   (∀v' h6,HS g h6 (qC 63 2 (gd p v x.1).length v' ((gd p v x.1).flatMap jH)::qv q [.int .i64 (most:Int),sv]::qC 169 2 (ps.length+1) sv (z5 ps++[pr.1,pr.2])::
    qC 63 2 x.1.length pr.1 (x.1.flatMap jH)::qC 3 1 x.2.length pr.2 (x.2.map (.int .i64)):: .all (List.zipWith dP ps r)::R)→wp (K v' h6) Q)→
   wp (xS (callT tab qL k) (.fn 117 [] []) [pr.1,.int .i64 p,.int .u64 v] h5 K) Q:=by
  intro K Q h5 _ H5 hK;exact qY (qWc omQ H5 (H5.rd e_2) omQ) hK
 have put:∀h5,HS g h5 (qv q [.int .i64 (most:Int),sv]::qC 169 2 (ps.length+1) sv (z5 ps++[pr.1,pr.2])::
  qC 63 2 x.1.length pr.1 (x.1.flatMap jH)::qC 3 1 x.2.length pr.2 (x.2.map (.int .i64)):: .all (List.zipWith dP ps r)::R)→True:=λ_ _=>trivial
 cases hi:Ym p x.1 with
 |some t=>
  have hg:¬(zt p x.1=none∧most≤QS (x::r)):=λh=>by
   obtain⟨_,⟨y,_,uI⟩,_⟩:=XM hi;grind
  refine jM (by nofun) ?_;refine qG ?_;(try dsimp only);refine qe ?_;(try dsimp only);refine qy (qJ (qG ?_));(try dsimp only);refine qX (qQ (qZ ‹_› .here rfl ?_));refine qX (qQ (qZ ‹_› .here rfl ?_))
  rw[iQ hg];refine jn (x:=pr.1) (H.sl e_1) omQ omQ (Xu _ _ 0 _ _ dE omQ) ?_;refine fin _ _ _ rfl H λv' h6 H6=>?_;refine NM (H6.aJ e_2) omQ omQ (H6.one .here) λh7 H7=>?_;refine jU ‹_› .here rfl ‹_› e_1 rfl (HS.lt ‹_› .here) ?_;rw[NE _ _ _ _ _ dE]at H7;refine qq ⟨rfl,cF.I1 (v:=sv) (p:=(v',pr.2)) (ps:=ps) e ?_⟩;exact H7.sub (.cons e_2 (.cons .here (.cons .here (.cons e_1 (.cons e_1 (.drop (.refl)))))))
 |none=>
  refine jO (by trivial) ?_;refine qG ?_;(try dsimp only);refine qf ?_;(try dsimp only)
  refine qY (qjP omQ hH O) ?_;rintro _ _ ⟨rfl,rfl⟩;refine QK (λh0=>?_) λh0=>?_
  ·refine qF (qK ?_);rw[iJ ⟨XB.1 hi,by omega⟩];exact qq ⟨rfl,hH⟩
  ·refine qF (qJ (qG ?_));(try dsimp only);refine qX (qQ (qZ ‹_› .here rfl ?_));refine qX (qQ (qZ ‹_› .here rfl ?_))
   rw[iQ (λh=>h0 omQ)];refine jn (x:=pr.1) (H.sl e_1) omQ omQ (Xu _ _ 0 _ _ dE omQ) ?_;refine fin _ _ _ rfl H λv' h6 H6=>?_;refine NM (H6.aJ e_2) omQ omQ (H6.one .here) λh7 H7=>?_;refine jU ‹_› .here rfl ‹_› e_1 rfl (HS.lt ‹_› .here) ?_;rw[NE _ _ _ _ _ dE]at H7;refine qq ⟨rfl,cF.I1 (v:=sv) (p:=(v',pr.2)) (ps:=ps) e ?_⟩;exact H7.sub (.cons e_2 (.cons .here (.cons .here (.cons e_1 (.cons e_1 (.drop (.refl)))))))
theorem qjI {n q most:Nat} (hn:1≤n) {lv:List bC} {b:Int} (H:HS g h (cF q most lv::R)) (O:iw most lv) (hf:∀x∈lv,x.2.length<1000000) :
  ba n 131 [.ptr q 0,.int .i64 b] h λ_ h'=>HS g h' (cF q most (YU lv b)::R):=by
 cases lv with
 |nil=>have:=O.one;grind
 |cons x r=>
 have hd:=O.deep;have hx:=hf x (iK ..);simp at hd;refine cu (S:=S131) rfl omQ λk hk=>?_;unfold S131;try simp only[iZ]
 obtain⟨sv,pr,ps,e,H⟩:=cF.E1 H;have dE:=XO ps;refine qX (qQ (qZ ‹_› .here rfl ?_));refine qr ‹_› e_1 ?_;refine qn omQ ?_;refine qG ?_;(try dsimp only);refine qX (qQ (qZ ‹_› .here rfl ?_));refine qX (qQ (qZ ‹_› .here rfl ?_))
 rw[show((ps.length+1:Nat):Int)-((1:Nat):Int)=((ps.length:Nat):Int) by omega];refine jn (x:=pr.2) (H.sl e_1) omQ omQ (Xu _ _ 1 _ _ dE omQ) ?_;refine QZ H (H.sl e_3) omQ omQ (wL _) λv1 h1 H1=>?_;refine jY (n:=1) (l:=[.int .i64 b]) (sz:=1) H1 rfl rfl rfl rfl λv2 h2 H2=>?_;refine zA (H2.aJ e_1) (H2.sl .here) omQ omQ rfl λv3 h3 H3=>?_;refine NM (H3.aJ e_3) omQ omQ (H3.one .here) λh4 H4=>?_;rw[qV9 _ _ _ _ _ dE]at H4;refine jU ‹_› e_2 rfl ‹_› e_2 rfl (HS.lt ‹_› .here) ?_;refine jU ‹_› .here rfl ‹_› e_1 rfl (HS.lt ‹_› .here) ?_;refine qq (cF.I1 (v:=sv) (p:=(pr.1,v3)) (ps:=ps) e ?_);rw[List.map_append,List.length_append];exact H4.sub (.cons e_3 (.cons .here (.cons e_2 (.cons .here (.cons e_2 (.drop (.drop (.refl))))))))
end
section
variable {g h:AH} {L R:List SP}
theorem ZG {n q most:Nat} (hn:1≤n) {lv:List bC} (H:HS g h (cF q most lv::R)) (O:iw most lv) (hf:∀x∈lv,x.2.length<1000000) :
  ba n 105 [.ptr q 0] h λr h'=>∃o,r=.ptr o 0∧HS g h' (cF o most lv::cF q most lv::R):=by
 have hd:=O.deep;have ho:=O.one;refine bw (S:=S105) rfl omQ λk hk=>?_;unfold S105;try simp only[iZ]
 obtain⟨v,ps,e,H⟩:=cF.E H;obtain⟨b,cp,oo,rfl⟩:=HS.slv H e_1 omQ;refine qX (qQ (qZ ‹_› .here rfl ?_));refine qA rfl ?_;refine qh H rfl λo h1 H1=>?_
 refine jB (λm s h'=>∃(i:Nat) (kv:AV) (qs:List (AV×AV)),s=(.int .i64 (i:Int),.ptr o 0,.ptr q 0,())∧i≤lv.length∧m=lv.length-i∧qs.length=i∧
  HS g h' (qv o [.int .i64 (most:Int),kv]::qC 169 2 i kv (z5 qs):: .all (List.zipWith dP qs (lv.drop (lv.length-i)))::
   qv q [.int .i64 (most:Int),.slice b 0 lv.length cp oo]::qC 169 2 lv.length (.slice b 0 lv.length cp oo) (z5 ps):: .all (List.zipWith dP ps lv)::R))
  ?_ (m:=lv.length) (by grind) ⟨0,.aj,[],rfl,by omega,by rfl,rfl,?_⟩
 ·rintro m ih s h' bj ⟨i,kv,qs,rfl,h1,rfl,hq,H⟩;dsimp only;refine qX (qQ (qZ ‹_› e_3 rfl ?_));refine qr ‹_› e_4 ?_;refine j8 (λap=>qK ?_) λeO=>qJ (qj (qq ⟨o,rfl,?_⟩))
  ·have hi:i<lv.length:=by omega
   have ha:ps[lv.length-1-i]? =some (ps[lv.length-1-i]'omQ):=iW _;have hx:lv[lv.length-1-i]? =some (lv[lv.length-1-i]'omQ):=iW _;have ow:lv.drop (lv.length-(i+1))=(lv[lv.length-1-i]'omQ)::lv.drop (lv.length-i):=by rw[show lv.length-(i+1)=lv.length-1-i by omega,List.drop_eq_getElem_cons omQ,show lv.length-1-i+1=lv.length-i by omega]
   have hm:lv[lv.length-1-i]'omQ∈lv:=List.getElem_mem _;generalize ps[lv.length-1-i]'omQ=a at ha;generalize lv[lv.length-1-i]'omQ=x at hx hm ow;have uD:=O.len hm;have hxf:=hf x hm;have fJ:∀f,f<2→(z5 ps)[i*2+f]? =[a.1,a.2][f]?:=by intro f hf;rw[Xh omQ hf,e,ha];rfl
   refine qG ?_;(try dsimp only);refine qX (qQ (qZ ‹_› .here rfl ?_));refine qX (qQ (qZ ‹_› e_3 rfl ?_))
   obtain⟨T,s⟩:=UJ ha hx;have H3:=dP.E (HS.fS s (H.aJ e_5));have cx:∀(h2:AH) (L2 R2:List SP),HS g h2 L2→bB L2 (qC 169 2 lv.length (.slice b 0 lv.length cp oo) (z5 ps)) R2→b<h2.nx∧∀f,f<2→h2.at b (0+i*2+f)=[a.1,a.2][f]?:=by intro h2 L2 R2 H2 s2;obtain⟨b1,b2⟩:=HS.Wl H2 s2;grind
   obtain⟨b0,b1⟩:=cx _ _ _ H3 e_7;refine YZ omQ (qI (vn (x:=a.1) (b1 0 omQ) ?_));refine QZ H3 (H3.sl .here) omQ omQ (J0 _) λv4 h4 H4=>?_;refine qX (qQ (qZ ‹_› e_7 rfl ?_));obtain⟨b2,b3⟩:=cx _ _ _ H4 e_8;refine YZ omQ (qI (vn (x:=a.2) (b3 1 omQ) ?_));refine QZ H4 (H4.sl e_2) omQ omQ (wL _) λv5 h5 H5=>?_;have o5:=H5.one .here;have o4:=H5.one e_1;refine qA (l:=[v4,v5]) (by simp only[gn,o4.1,o5.1];rfl) ?_;refine jY (n:=1) (l:=[v4,v5]) (sz:=2) H5 rfl rfl rfl (by simp[jW,o4.2,o5.2]) λv6 h6 H6=>?_;refine zA (H6.aJ e_7) (H6.sl .here) omQ omQ (by simp[jW,o4.2,o5.2]) λv7 h7 H7=>?_;refine qX (qQ (qx H7 (b:=o) e_7 (H7.one .here) aM λh8 H8=>?_));simp only[List.set_cons_zero,List.set_cons_succ]at H8;refine TQ (b1 1 omQ) (b3 1 omQ) b0 ?_;refine jU ‹_› e_6 rfl ‹_› e_7 rfl (HS.lt ‹_› e_6) ?_;refine jU ‹_› e_4 rfl ‹_› e_5 rfl (HS.lt ‹_› e_3) ?_;refine jU ‹_› e_3 rfl ‹_› e_4 rfl (HS.lt ‹_› e_3) ?_;refine qE omQ ?_;refine bj (lv.length-(i+1)) _ _ omQ ⟨i+1,v7,(v4,v5)::qs,rfl,by omega,rfl,by grind,?_⟩
   have H9:=dP.I (p:=(v4,v5)) (x:=x) (R:=.all (List.zipWith dP qs (lv.drop (lv.length-i)))::qC 63 2 x.1.length a.1 (x.1.flatMap jH)::qC 3 1 x.2.length a.2 (x.2.map (.int .i64)):: .all T::
    qv o [.int .i64 (most:Int),v7]::qC 169 2 (i+1) v7 (z5 qs++[v4,v5])::
    qv q [.int .i64 (most:Int),.slice b 0 lv.length cp oo]::qC 169 2 lv.length (.slice b 0 lv.length cp oo) (z5 ps)::R) (H8.sub (.cons e_4 (.cons e_3 (.cons e_6 (.cons e_3 (.cons e_3 (.cons e_3 (.cons .here (.cons .here (.cons e_1 (.cons e_1 (.drop (.refl)))))))))))))
   have dC:=HS.ot (A:=dP (v4,v5) x::List.zipWith dP qs (lv.drop (lv.length-i))) .here H9
   have eQ:=dP.I (p:=a) (x:=x) (R:=.all T:: .all (dP (v4,v5) x::List.zipWith dP qs (lv.drop (lv.length-i)))::
    qv o [.int .i64 (most:Int),v7]::qC 169 2 (i+1) v7 (z5 qs++[v4,v5])::
    qv q [.int .i64 (most:Int),.slice b 0 lv.length cp oo]::qC 169 2 lv.length (.slice b 0 lv.length cp oo) (z5 ps)::R) (dC.sub (.cons e_1 (.cons e_1 (.cons e_1 (.refl)))))
   have fK:=HS.ot s eQ;rw[JU,ow];exact fK.sub (.cons e_2 (.cons e_2 (.cons e_1 (.cons e_1 (.cons e_1 (.cons .here .refl))))))
  ·obtain rfl:i=lv.length:=by omega
   rw[show lv.length-lv.length=0 by omega,List.drop_zero]at H;have H2:=cF.I (q:=o) (v:=kv) (ps:=qs) hq (H.sub (.cons .here (.cons .here (.cons .here .refl))));have H3:=cF.I (q:=q) (most:=most) (lv:=lv) (v:=.slice b 0 lv.length cp oo) (ps:=ps) (R:=cF o most lv::R) e (H2.sub (.cons e_1 (.cons e_1 (.cons e_1 (.refl)))));exact H3.sub (.cons e_1 (.refl))
 ·have H2:=(HS.allI (A:=[]) (H1.aj (e:=169) (sz:=2)));exact H2.sub (.cons e_2 (.cons e_1 (.cons .here .refl)))
theorem qqE {n q most:Nat} (hn:4≤n) {lv:List bC} {cs:List Cl} {c:AV} (H:HS g h (cF q most lv::R)) (O:iw most lv) (hf:∀x∈lv,x.2.length<1000000) (S:Rd g R 2 cs.length c (cs.flatMap jH)) (hc:cs.length<100000) :
  ba n 111 [.ptr q 0,c] h λr h'=>r=.int .i64 (gr most lv lv cs).1∧HS g h' (cF q most (gr most lv lv cs).2::R):=by
 refine cu (S:=S111) rfl omQ λk hk=>?_;unfold S111;try simp only[iZ]
 refine qY (ZG omQ H O hf) ?_;rintro _ h1 ⟨o,rfl,H1⟩
 refine jB (λk s h'=>∃(i:Nat) (fT:List bC),s=(.int .i64 (i:Int),.ptr o 0,c,.ptr q 0,())∧i≤cs.length∧k=cs.length-i∧iw most fT∧
  HS g h' (cF o most fT::cF q most lv::R)∧gr most lv lv cs=gr most lv fT (cs.drop i)) ?_ (m:=cs.length) (by grind) ⟨0,lv,rfl,by omega,by rfl,O,H1,rfl⟩
 rintro k2 ih s h2 bj ⟨i,fT,rfl,h1,rfl,O',H,hT⟩;dsimp only;refine yH (S.sl H.drop.drop) ?_;refine j8 (λap=>qK ?_) λeO=>qJ ?_
 ·have hi:i<cs.length:=by omega
  have uJ:cs[i]? =some cs[i]:=iW hi;refine jn (x:=.int .i64 cs[i].1) (S.sl H.drop.drop) omQ hi (by rw[y9 (sz:=2) jH (λ_=>rfl) _ _ _ omQ,uJ];rfl) ?_;refine jn (x:=.int .u64 cs[i].2) (S.sl H.drop.drop) omQ hi (by rw[y9 (sz:=2) jH (λ_=>rfl) _ _ _ omQ,uJ];rfl) ?_;refine qY (qZ1 omQ H O') ?_;rintro _ h6 ⟨rfl,H6⟩;rw[List.drop_eq_getElem_cons hi,wC]at hT;have O2:=(ZR (p:=cs[i].1) (v:=cs[i].2) O').1;refine Ja (λbW=>qK ?_) λhe=>qJ (qE omQ ?_)
  ·have bW:¬(gc most fT cs[i].1 cs[i].2).1=0:=by grind
   rw[iQ bW]at hT;rw[hT];exact qj (qq ⟨rfl,H6.drop⟩)
  ·have he':(gc most fT cs[i].1 cs[i].2).1=0:=by grind
   rw[iJ he']at hT;exact bj (cs.length-(i+1)) _ _ omQ ⟨i+1,_,rfl,by omega,rfl,O2,H6,hT⟩
 ·rw[List.drop_of_length_le omQ]at hT;have hT:gr most lv lv cs=(0,fT):=hT;rw[hT];obtain⟨v1,ps1,e1,H3⟩:=cF.E H;obtain⟨v2,m4,e2,H4⟩:=cF.E (H3.aJ e_3);refine qX (qQ (qZ ‹_› e_3 rfl ?_));refine qX (qQ (qx H4 (b:=q) .here (H4.one e_4) aM λh8 H8=>?_));simp only[List.set_cons_zero,List.set_cons_succ]at H8;refine qj (qq ⟨rfl,cF.I (v:=v1) (ps:=ps1) e1 (H8.sub (.cons .here (.cons e_3 (.cons e_3 ?_))))⟩);exact .drop (.drop (.drop .refl))
def bE (lv:List bC):Nat:=(lv.map λx=>x.2.length).sum
theorem gt (x:bC) (r:List bC):bE (x::r)=x.2.length+bE r:=by rfl
theorem Nr (l:List AV) (n:Nat) (a b:AV) (tl:List AV) (hl:l.length=n*2):((l++[a,b]++tl).drop (n*2)).take 2=[a,b]:=by grind
theorem Zw (l:List AV) (n:Nat) (a b c d:AV) (hl:l.length=n*2):QH (l++[a,b]) (n*2) [c,d]=l++[c,d]:=by simp_all[QH,List.drop_of_length_le,aM]
theorem Om {n q most:Nat} (hn:3≤n) {lv:List bC} (H:HS g h (cF q most lv::R)) (O:iw most lv) (hf:bE lv<1000000) :
  ba n 106 [.ptr q 0] h λv h'=>v=.int .i64 (Qa lv).1∧HS g h' (cF q most (Qa lv).2::R):=by
 have hd:=O.deep;rcases lv with _ |⟨x,_ |⟨y,r⟩⟩
 ·have:=O.one;grind
 ·refine bw (S:=S106) rfl omQ λk hk=>?_;unfold S106;try simp only[iZ]
  have hH:=H;obtain⟨v,ps,e,H⟩:=cF.E H;refine qX (qQ (qZ ‹_› .here rfl ?_));refine qr ‹_› e_1 ?_;exact qq ⟨rfl,hH⟩
 ·rw[gt,gt]at hf;have hxi:=O.ins x aM;have uD:=O.len (x:=x) aM;have eF:=O.len (x:=y) aM;simp at hd;refine bw (S:=S106) rfl omQ λk hk=>?_;unfold S106;try simp only[iZ]
  obtain⟨v,p,ps,e,H⟩:=cF.E1 H;cases ps with
  |nil=>simp at e
  |cons p2 ps=>
  have e:ps.length=r.length:=by grind
  have H:=dP.E (HS.fS .here (H.aJ e_4));rw[JU]at H;have dE:=XO ps;have Ai:(z5 ps++[p2.1,p2.2]).length=(ps.length+1)*2:=by grind
  simp only[List.length_cons]at H;have o1:=H.one .here;have o2:=H.one e_1;have o3:=H.one e_5;have o4:=H.one e_6;refine qX (qQ (qZ ‹_› e_3 rfl ?_));refine qr ‹_› e_4 ?_;refine qW omQ ?_;refine qJ (qX (qQ (qZ ‹_› e_3 rfl ?_)));refine qn omQ ?_;rw[show((ps.length+1+1:Nat):Int)-((1:Nat):Int)=((ps.length+1:Nat):Int) by omega];refine xI (l:=[p.1,p.2]) (H.sl e_4) omQ omQ (by grind) ?_;refine qh H rfl λb1 h1 H=>zq H .here rfl (by simp) (by simp[jW,AV.cells,o3.2,o4.2]) λh2 H=>?_
  have H:HS g h2 (qv b1 [p.1,p.2]::qC 63 2 y.1.length p2.1 (y.1.flatMap jH)::qC 3 1 y.2.length p2.2 (y.2.map (.int .i64)):: .all (List.zipWith dP ps r)::
   qv q [.int .i64 (most:Int),v]::qC 169 2 (ps.length+1+1) v (z5 ps++[p2.1,p2.2]++[p.1,p.2])::
   qC 63 2 x.1.length p.1 (x.1.flatMap jH)::qC 3 1 x.2.length p.2 (x.2.map (.int .i64))::R):=H
  refine qX (qQ (qZ ‹_› e_4 rfl ?_));refine qn omQ ?_;rw[show((ps.length+1+1:Nat):Int)-((2:Nat):Int)=((ps.length:Nat):Int) by omega];refine xI (l:=[p2.1,p2.2]) (H.sl e_5) omQ omQ (Nr _ _ p2.1 p2.2 [p.1,p.2] dE) ?_;refine qh H rfl λb2 h3 H=>zq H .here rfl (by simp) (by simp[jW,AV.cells,o1.2,o2.2]) λh4 H=>?_
  have H:HS g h4 (qC 63 2 y.1.length p2.1 (y.1.flatMap jH)::qv b2 [p2.1,p2.2]::qv b1 [p.1,p.2]::qC 3 1 y.2.length p2.2 (y.2.map (.int .i64)):: .all (List.zipWith dP ps r)::
   qv q [.int .i64 (most:Int),v]::qC 169 2 (ps.length+1+1) v (z5 ps++[p2.1,p2.2]++[p.1,p.2])::
   qC 63 2 x.1.length p.1 (x.1.flatMap jH)::qC 3 1 x.2.length p.2 (x.2.map (.int .i64))::R):=HS.sub (L:=qv b2 [p2.1,p2.2]::qv b1 [p.1,p.2]::qC 63 2 y.1.length p2.1 (y.1.flatMap jH)::_) H (.cons e_2 (.cons .here (.cons .here .refl)))
  refine jB (λm s h'=>∃(i:Nat) (cv:AV),s=(.int .i64 (i:Int),.ptr b2 0,.ptr b1 0,.int .i64 ((ps.length+1+1:Nat):Int),.ptr q 0,())∧i≤x.1.length∧m=x.1.length-i∧
   HS g h' (qC 63 2 (wU y.1 (x.1.take i)).length cv ((wU y.1 (x.1.take i)).flatMap jH)::qv b2 [cv,p2.2]::qv b1 [p.1,p.2]::qC 3 1 y.2.length p2.2 (y.2.map (.int .i64)):: .all (List.zipWith dP ps r)::
   qv q [.int .i64 (most:Int),v]::qC 169 2 (ps.length+1+1) v (z5 ps++[p2.1,p2.2]++[p.1,p.2])::
   qC 63 2 x.1.length p.1 (x.1.flatMap jH)::qC 3 1 x.2.length p.2 (x.2.map (.int .i64))::R))
   ?_ (m:=x.1.length) (by grind) ⟨0,p2.1,rfl,by omega,by rfl,H⟩
  clear H;rintro m ih s h5 bj ⟨i,cv,rfl,h1,rfl,H⟩;dsimp only;refine qQ (qZ ‹_› e_2 rfl ?_);refine qr ‹_› e_7 ?_;have nR:=Vc (cs:=x.1.take i) (l:=y.1);rw[List.length_take]at nR;refine j8 (λap=>qK ?_) λeO=>qJ ?_
  ·have hi:i<x.1.length:=by omega
   have uJ:x.1[i]? =some x.1[i]:=iW hi;refine qQ (qZ ‹_› e_1 rfl ?_);refine qQ (qZ ‹_› e_2 rfl ?_);refine jn (x:=.int .i64 x.1[i].1) (H.sl e_7) omQ hi (by rw[y9 (sz:=2) jH (λ_=>rfl) _ _ _ omQ,uJ];rfl) ?_;refine qQ (qZ ‹_› e_2 rfl ?_);refine jn (x:=.int .u64 x.1[i].2) (H.sl e_7) omQ hi (by rw[y9 (sz:=2) jH (λ_=>rfl) _ _ _ omQ,uJ];rfl) ?_;refine qY (qWc omQ H (H.rd .here) omQ) λv6 h6 H6=>?_;refine qQ (qx H6 (b:=b2) e_2 (H6.one .here) aM λh7 H7=>?_);simp only[List.set_cons_zero]at H7;refine qE omQ (bj (x.1.length-(i+1)) _ _ omQ ⟨i+1,v6,rfl,by omega,rfl,?_⟩);have hp:wU y.1 (x.1.take (i+1))=gd x.1[i].1 x.1[i].2 (wU y.1 (x.1.take i)):=by grind[List.take_succ_eq_append_getElem,wU]
   rw[hp];exact H7.sub (.cons e_1 (.cons .here (.cons e_1 (.cons e_1 (.cons e_1 (.cons e_1 (.cons e_1 (.cons e_1 (.cons e_1 (.drop (.refl)))))))))))
  ·obtain rfl:i=x.1.length:=by omega
   rw[List.take_length]at H;refine qG ?_;(try dsimp only);refine qQ (qZ ‹_› e_1 rfl ?_)
   refine QZ H (H.sl e_3) omQ omQ (wL _) λv7 h7 H7=>?_;refine qQ (qZ ‹_› e_3 rfl ?_);refine zA H7 (H7.sl e_9) omQ omQ (wL _) λv8 h8 H8=>?_;have o8:=H8.one .here;have o9:=H8.one e_1;refine qQ (qx H8 (b:=b2) e_2 o8 aM λh9 H9=>?_);simp only[List.set_cons_zero,List.set_cons_succ]at H9;refine jU ‹_› e_2 rfl ‹_› e_3 rfl (HS.lt ‹_› e_2) ?_;refine qX (qQ (qZ ‹_› e_6 rfl ?_));refine qn omQ ?_;rw[show((ps.length+1+1:Nat):Int)-((1:Nat):Int)=((ps.length+1:Nat):Int) by omega];refine JS (H9.aJ e_7) omQ omQ λv10 dC=>?_;rw[← Ai,List.take_left]at dC;refine qX (qQ (qx dC (b:=q) e_7 (dC.one .here) aM λdO eQ=>?_));simp only[List.set_cons_zero,List.set_cons_succ]at eQ;refine qX (qQ (qZ ‹_› .here rfl ?_));refine qn omQ ?_;rw[show((ps.length+1+1:Nat):Int)-((2:Nat):Int)=((ps.length:Nat):Int) by omega];refine qo eQ (b:=b2) (l:=[cv,v8]) e_2 rfl omQ rfl ?_;refine P2 (eQ.aJ e_1) omQ rfl (by simp[jW,o8.2,o9.2]) λiP fK=>?_;rw[Zw _ _ _ _ _ _ dE]at fK;refine qj (qq ⟨rfl,cF.I1 (v:=v10) (p:=(cv,v8)) (ps:=ps) e ?_⟩);rw[List.map_append,List.length_append];exact fK.sub (.cons e_1 (.cons .here (.cons e_2 (.cons e_1 (.cons e_3 (.drop (.drop (.drop (.drop (.drop (.refl)))))))))))
theorem ox {x y:bC} {r:List bC}:jP (Qa (x::y::r)).2=jP (x::y::r):=by rfl
theorem oy {x y:bC} {r:List bC}:bE (Qa (x::y::r)).2=bE (x::y::r):=by grind[bE,Qa]
theorem NR (lv:List bC):(JW lv).length=bE lv:=by simp[JW,bE,List.length_flatMap,List.map_reverse]
theorem KJ {n q most:Nat} (hn:4≤n) {lv:List bC} (H:HS g h (cF q most lv::R)) (O:iw most lv) (hf:bE lv<1000000) :
  ba n 89 [.ptr q 0] h λv h'=>∃cv fv,v=.agg [cv,fv]∧
   HS g h' (qC 63 2 (jP lv).length cv ((jP lv).flatMap jH)::qC 3 1 (JW lv).length fv ((JW lv).map (.int .i64))::cF q most lv::R):=by
 have hfx:∀(l:List bC),∀x∈l,x.2.length≤bE l:=by
  intro l
  induction l with
  |nil=>simp
  |cons y r ih=>
   intro x hx;rw[gt];grind
 have hd:=O.deep;refine bw (S:=S89) rfl omQ λk hk=>?_;unfold S89;try simp only[iZ]
 refine qh H rfl λb0 h1 H=>?_;refine qY (ZG omQ (H.aJ e_1) O λx hx=>by grind) ?_;rintro _ h2 ⟨o,rfl,H⟩;refine jB (λm s h'=>∃(fT:List bC),s=(.ptr o 0,.ptr b0 0,.ptr q 0,())∧m=fT.length∧iw most fT∧jP fT=jP lv∧bE fT=bE lv∧HS g h' (cF o most fT::cF q most lv::qv b0 [.aj,.aj]::R))
  ?_ (m:=lv.length) (by grind) ⟨lv,rfl,rfl,O,rfl,rfl,H⟩
 clear H;rintro m ih s h3 bj ⟨fT,rfl,rfl,O',hm,hs,H⟩;dsimp only;have hH:=H;have hd':=O'.deep;obtain⟨v,ps,e,H⟩:=cF.E H;refine qX (qQ (qZ ‹_› .here rfl ?_));refine qr ‹_› e_1 ?_;refine kw (λBH=>qK ?_) λhle=>qJ ?_
 ·rcases fT with _ |⟨x,_ |⟨y,r⟩⟩
  ·simp at BH
  ·simp at BH
  refine qY (Om omQ hH O' omQ) ?_;rintro _ h4 ⟨rfl,H4⟩;exact bj _ _ _ (by simp[Qa]) ⟨_,rfl,rfl,qXE O',ox.trans hm,oy.trans hs,H4⟩
 ·rcases fT with _ |⟨x,_ |⟨y,r⟩⟩
  ·have:=O'.one;simp at this
  ·have hmx:x.1=jP lv:=hm;clear bj;obtain⟨v,p,ps,e,H⟩:=cF.E1 hH;have e:ps=[]:=iA (by grind);subst e;have oC:=H.one e_2;refine qX (qQ (qZ ‹_› .here rfl ?_));refine jn (i:=0) (x:=p.1) (H.sl e_1) omQ aM rfl ?_;refine qA (l:=[p.1,.aj]) (by simp only[gn,oC.1];rfl) ?_;refine qh H rfl λb1 h4 H=>zq H .here rfl (by simp) (by show(p.1.one&&(true&&true))=true;rw[oC.2];rfl) λh5 H=>?_;rw[hmx]at H;have H:HS g h5 (qv b1 [p.1,.aj]::qC 63 2 (jP lv).length p.1 ((jP lv).flatMap jH)::cF q most lv::qv b0 [.aj,.aj]::R):=H.sub (.cons .here (.cons e_2 (.drop (.drop (.drop (.drop .refl))))));obtain⟨v2,m4,e2,H⟩:=cF.E (H.aJ e_2)
   refine jB (λm s h'=>∃(i:Nat) (acc:AV),s=(.int .i64 (i:Int),.ptr b1 0,.ptr b0 0,.ptr q 0,())∧i≤lv.length∧m=lv.length-i∧
    HS g h' (qC 3 1 ((lv.reverse.take i).flatMap (·.2)).length acc (((lv.reverse.take i).flatMap (·.2)).map (.int .i64))::qv b1 [p.1,acc]::qv q [.int .i64 (most:Int),v2]::qC 169 2 lv.length v2 (z5 m4)::
     .all (List.zipWith dP m4 lv)::qC 63 2 (jP lv).length p.1 ((jP lv).flatMap jH)::qv b0 [.aj,.aj]::R))
    ?_ (m:=lv.length) (by grind) ⟨0,.aj,rfl,by omega,by rfl,?_⟩
   ·clear H;rintro m ih s h' bj ⟨i,acc,rfl,h1,rfl,H⟩;dsimp only;refine qX (qQ (qZ ‹_› e_2 rfl ?_));refine qr ‹_› e_3 ?_;refine j8 (λap=>qK ?_) λeO=>qJ ?_
    ·have hi:i<lv.length:=by omega
     have ha:m4[m4.length-1-i]? =some (m4[m4.length-1-i]'omQ):=iW _;have hx:lv[m4.length-1-i]? =some (lv[m4.length-1-i]'omQ):=iW _;generalize m4[m4.length-1-i]'omQ=a at ha;have rj:lv.reverse[i]? =some (lv[m4.length-1-i]'omQ):=by grind
     generalize lv[m4.length-1-i]'omQ=z at hx rj;refine qQ (qZ ‹_› e_1 rfl ?_);refine qX (qQ (qZ ‹_› e_2 rfl ?_));refine jn (x:=a.2) (H.sl e_3) omQ omQ (by rw[Xh omQ omQ,ha];rfl) ?_;obtain⟨T,s⟩:=UJ ha hx;have H3:=dP.E (HS.fS s (H.aJ e_4));have hlen:((lv.reverse.take i).flatMap (·.2)).length+z.2.length≤(JW lv).length:=by
      have e1:lv.reverse.flatMap (·.2)=(lv.reverse.take (i+1)).flatMap (·.2)++(lv.reverse.drop (i+1)).flatMap (·.2):=by rw[← List.flatMap_append,List.take_append_drop]
      grind[JW,List.take_add_one]
     rw[NR]at hlen;refine zA (H3.aJ e_3) (H3.sl e_1) omQ omQ (wL _) λv4 h4 H4=>?_;refine qQ (qx H4 (b:=b1) e_4 (H4.one .here) aM λh5 H5=>?_);simp only[List.set_cons_zero,List.set_cons_succ]at H5;refine qE omQ (bj (lv.length-(i+1)) _ _ omQ ⟨i+1,v4,rfl,by omega,rfl,?_⟩);rw[List.take_add_one,rj,Option.toList_some,List.flatMap_append,List.map_append,List.length_append,List.flatMap_cons,List.flatMap_nil,List.append_nil];have H6:=HS.ot s (dP.I (p:=a) (x:=z) (H5.sub (.cons e_2 (.cons e_2 (.cons e_2 .refl)))));exact H6.sub (.cons e_2 (.cons e_1 (.cons e_1 (.cons e_1 (.refl)))))
    ·obtain rfl:i=lv.length:=by omega
     rw[List.take_of_length_le aM]at H;have oF:=H.one .here;refine qo H (b:=b1) (l:=[p.1,acc]) e_1 rfl omQ rfl ?_;refine zq H (b:=b0) e_6 rfl (by simp) (by simp[jW,AV.cells,oC.2,oF.2]) λh6 H6=>?_
     have H7:HS g h6 (qv b0 [p.1,acc]::qC 3 1 (lv.reverse.flatMap (·.2)).length acc ((lv.reverse.flatMap (·.2)).map (.int .i64))::qv b1 [p.1,acc]::qv q [.int .i64 (most:Int),v2]::qC 169 2 lv.length v2 (z5 m4)::
      .all (List.zipWith dP m4 lv)::qC 63 2 (jP lv).length p.1 ((jP lv).flatMap jH)::R):=H6
     refine qj (qo H7 (b:=b0) (l:=[p.1,acc]) .here rfl omQ rfl (qq ⟨p.1,acc,rfl,?_⟩));have H8:=cF.I (q:=q) (most:=most) (v:=v2) (ps:=m4) e2 (R:=qC 3 1 (JW lv).length acc ((JW lv).map (.int .i64))::qC 63 2 (jP lv).length p.1 ((jP lv).flatMap jH)::R)
      (H7.sub (.cons e_3 (.cons e_3 (.cons e_3 (.cons e_1 (.cons e_2 (.drop (.drop .refl))))))))
     exact H8.sub (.cons e_2 (.cons e_1 (.refl)))
   ·have H2:=H.aj (e:=3) (sz:=1);exact H2.sub (.cons .here (.cons e_3 (.cons .here (.cons .here (.cons .here .refl)))))
  ·simp at hle;omega
def aR (o:Nat) (M:VM):SP:=.ex λkv=>.ex λq=>.all [qv o [.int .i64 (M.sz:Int),kv,.ptr q 0,.int .i64 M.aB],qC 63 2 M.K.length kv (M.K.flatMap jH),cF q M.most M.lv]
theorem aR.E {o:Nat} {M:VM} (H:HS g h (aR o M::R)):∃kv q,HS g h (qv o [.int .i64 (M.sz:Int),kv,.ptr q 0,.int .i64 M.aB]::qC 63 2 M.K.length kv (M.K.flatMap jH)::cF q M.most M.lv::R):=by obtain⟨kv,H⟩:=H.iq;obtain⟨q,H⟩:=H.iq;exact⟨kv,q,H.cE⟩
theorem aR.I {o:Nat} {M:VM} {kv:AV} {q:Nat} (H:HS g h (qv o [.int .i64 (M.sz:Int),kv,.ptr q 0,.int .i64 M.aB]::qC 63 2 M.K.length kv (M.K.flatMap jH)::cF q M.most M.lv::R)):HS g h (aR o M::R) :=
 HS.iO kv (HS.iO q (HS.allI H))
theorem qJR {n:Nat} (hn:3≤n) {w m:Int} (H:HS g h R):ba n 72 [.int .i64 w,.int .i64 m] h λr h'=>∃o,r=.ptr o 0∧HS g h' (aR o (BV w m)::R):=by
 refine cu (S:=S72) rfl omQ λk hk=>?_;unfold S72;try simp only[iZ]
 refine qY (vm omQ omQ) ?_;rintro _ _ ⟨rfl,rfl⟩;refine qY (qxU omQ H) ?_;rintro _ h2 ⟨q,rfl,H2⟩;refine qA rfl (qh H2 rfl λo h4 H4=>qq ⟨o,rfl,?_⟩);rw[show max ((32:Nat):Int) (min w ((256:Nat):Int))=((iR w:Nat):Int) by grind[iR]]at H4;have H5:=H4.aj (e:=63) (sz:=2);exact aR.I (M:=BV w m) (kv:=.aj) (q:=q) (H5.sub (.cons e_1 (.cons .here (.cons .here .refl))))
theorem VC {n:Nat} (hn:1≤n) {o:Nat} {M:VM} {p:Int} (H:HS g h (aR o M::R)):ba n 102 [.ptr o 0,.int .i64 p] h λr h'=>r=.bool (decide (1≤p∧p<M.sz))∧h'=h:=by
 refine cu (S:=S102) rfl omQ λk hk=>?_;unfold S102;try simp only[iZ]
 obtain⟨kv,q,H⟩:=aR.E H;by_cases h1:1≤p
 ·refine zK omQ ?_;refine qG ?_;(try dsimp only);refine qf ?_;(try dsimp only);refine qX (qQ (qZ ‹_› .here rfl ?_))
  refine QB (qF (qq ⟨?_,rfl⟩))
  grind
 ·refine jt omQ ?_;refine qG ?_;(try dsimp only);refine qe ?_;(try dsimp only);refine qy ?_
  exact qq ⟨by grind,rfl⟩
theorem qqM {n:Nat} (hn:2≤n) {o:Nat} {M:VM} {p x:Int} (H:HS g h (aR o M::R)) (O:fm M) :
  ba n 82 [.ptr o 0,.int .i64 p,.int .u64 x] h λr h'=>r=.int .i64 (yE M p x).1∧HS g h' (aR o (yE M p x).2::R):=by
 refine dV (S:=S82) rfl omQ λk hk=>?_;unfold S82;try simp only[iZ]
 refine qY (VC omQ H) ?_;rintro _ _ ⟨rfl,rfl⟩;have hO:=O.hi;have fR:=O.Ax;unfold yE;by_cases hp:1≤p∧p<M.sz
 ·rw[iJ hp];rw[iG hp];have hH:=H;obtain⟨kv,q,H⟩:=aR.E H;refine jE (qJ (qX (qQ (qZ ‹_› .here rfl ?_))));refine qY (XY omQ (H.sl e_1) omQ) ?_;rintro _ _ ⟨rfl,rfl⟩;cases hi:Ym p M.K with
  |none=>refine jt (by nofun) ?_;have hg:=XB.1 hi;refine qJ (qX (qQ (qZ ‹_› .here rfl ?_)));refine qA rfl ?_;refine jY (n:=1) (l:=[.int .i64 p,.int .u64 x]) (sz:=2) H rfl rfl rfl rfl λv7 h7 H7=>?_;refine zA (H7.aJ e_2) (H7.sl .here) omQ omQ rfl λv8 h8 H8=>?_;refine qX (qQ (qx H8 (b:=o) e_2 (H8.one .here) aM λh9 H9=>?_));rw[hg];refine qq ⟨rfl,aR.I (M:={ M with K:=M.K++[(p,x)] }) (kv:=v8) (q:=q) ?_⟩;rw[List.flatMap_append,List.length_append];exact H9.sub (.cons .here (.cons .here (.cons e_1 (.drop (.refl)))))
  |some i=>
   obtain⟨h1,⟨y,h2,uI⟩,h5⟩:=XM hi;refine zK (by show((0:Nat):Int)≤(i:Int);omega) ?_;refine qK (qX (qQ (qZ ‹_› .here rfl ?_)));refine jn (x:=.int .u64 y) (H.sl e_1) omQ h1 (by rw[y9 (sz:=2) jH (λ_=>rfl) _ _ _ omQ,h2];rfl) ?_;rw[uI];by_cases hy:y=x
   ·refine jR omQ ?_;refine qJ (qq ⟨by grind,hH⟩)
   ·refine jb omQ ?_;refine qK (qq ⟨by grind,hH⟩)
 ·rw[iQ hp,iV hp];refine jo (qK ?_);exact qq ⟨rfl,H⟩
theorem kT {n:Nat} (hn:3≤n) {o:Nat} {M:VM} {p:Int} (H:HS g h (aR o M::R)) (O:fm M) :
  ba n 95 [.ptr o 0,.int .i64 p] h λr h'=>r=.cA [.int .u64 (qm M p).1.1,.int .i64 (qm M p).1.2]∧HS g h' (aR o (qm M p).2::R):=by
 refine cu (S:=S95) rfl omQ λk hk=>?_;unfold S95;try simp only[iZ]
 refine qY (VC omQ H) ?_;rintro _ _ ⟨rfl,rfl⟩;have hO:=O.hi;have fR:=O.Ax;unfold qm;by_cases hp:1≤p∧p<M.sz
 ·rw[iJ hp];rw[iG hp];have hH:=H;obtain⟨kv,q,H⟩:=aR.E H;refine jE (qJ (qX (qQ (qZ ‹_› .here rfl ?_))));refine qY (qzc omQ (H.aJ e_2) O.lR) ?_;rintro _ _ ⟨rfl,rfl⟩;refine qi rfl ?_;refine qi rfl ?_;cases hl:U9 p M.lv with
  |some y=>simp only[Option.isSome_some,Option.getD_some];refine qK ?_;exact qq ⟨rfl,hH⟩
  |none=>
   simp only[Option.isSome_none];refine qJ (qX (qQ (qZ ‹_› .here rfl ?_)));refine qY (XY omQ (H.sl e_1) omQ) ?_;rintro _ _ ⟨rfl,rfl⟩;cases hi:Ym p M.K with
   |none=>refine jt (by nofun) ?_;rw[XB.1 hi];refine qJ (qX (qQ (qx H (b:=o) .here ⟨rfl,rfl⟩ aM λh9 H9=>qq ⟨rfl,aR.I (M:={ M with aB:=p }) (kv:=kv) (q:=q) (H9.sub (.cons .here (.refl)))⟩)))
   |some i=>obtain⟨h1,⟨y,h2,uI⟩,h5⟩:=XM hi;refine zK (by show((0:Nat):Int)≤(i:Int);omega) ?_;rw[uI];refine qK (qX (qQ (qZ ‹_› .here rfl ?_)));refine jn (x:=.int .u64 y) (H.sl e_1) omQ h1 (by rw[y9 (sz:=2) jH (λ_=>rfl) _ _ _ omQ,h2];rfl) ?_;exact qq ⟨rfl,hH⟩
 ·rw[iQ hp,iV hp];refine jo (qK ?_);exact qq ⟨rfl,H⟩
theorem GG {n:Nat} (hn:5≤n) {o:Nat} {M:VM} {cs:List Cl} {c:AV} (H:HS g h (aR o M::R)) (O:fm M) (S:Rd g R 2 cs.length c (cs.flatMap jH)) (hc:cs.length<100000) :
  ba n 96 [.ptr o 0,c] h λr h'=>r=.int .i64 (z7 M cs).1∧HS g h' (aR o (z7 M cs).2::R):=by
 refine cu (S:=S96) rfl omQ λk hk=>?_;unfold S96;try simp only[iZ]
 refine jB (λk s h'=>∃i:Nat,s=(.int .i64 (i:Int),c,.ptr o 0,())∧i≤cs.length∧k=cs.length-i∧h'=h∧∀j,j<i→∀d,cs[j]? =some d→1≤d.1∧d.1<M.sz)
  ?_ (m:=cs.length) (by grind) ⟨0,rfl,by omega,by rfl,rfl,λj hj=>by omega⟩
 rintro k2 ih s h2 bj ⟨i,rfl,h1,rfl,rfl,bY⟩;dsimp only;refine yH (S.sl H.drop) ?_;refine j8 (λap=>qK ?_) λeO=>qJ ?_
 ·have hi:i<cs.length:=by omega
  have uJ:cs[i]? =some cs[i]:=iW hi;refine jn (x:=.int .i64 cs[i].1) (S.sl H.drop) omQ hi (by rw[y9 (sz:=2) jH (λ_=>rfl) _ _ _ omQ,uJ];rfl) ?_;refine qY (VC omQ H) ?_;rintro _ _ ⟨rfl,rfl⟩;by_cases dY:1≤cs[i].1∧cs[i].1<M.sz
  ·rw[iG dY];refine jE (qJ (qE omQ ?_));refine bj (cs.length-(i+1)) _ _ omQ ⟨i+1,rfl,by omega,rfl,rfl,λj hj d hd=>?_⟩;grind
  ·rw[iV dY];refine jo (qK (qj ?_));unfold z7;rw[iQ (λh=>dY (h _ (List.getElem_mem hi)))];exact qq ⟨rfl,H⟩
 ·have cT:∀d∈cs,1≤d.1∧d.1<M.sz:=by
   grind[List.getElem?_of_mem,List.getElem?_eq_some_iff]
  obtain⟨kv,q,H⟩:=aR.E H;refine qX (qQ (qZ ‹_› .here rfl ?_));refine qY (qqE omQ (H.aJ e_2) O.lR (λx hx=>Nat.lt_trans (O.fr x hx) omQ) (S.more.more) hc) ?_;rintro _ h4 ⟨rfl,H4⟩;unfold z7;rw[iJ cT];exact qj (qq ⟨rfl,aR.I (M:={ M with lv:=(gr M.most M.lv M.lv cs).2 }) (kv:=kv) (q:=q) (H4.sub (.cons e_1 (.cons e_1 (.refl))))⟩)
end
section
variable {g h:AH} {L R:List SP}
def wZ (x:Int):Int:=if x=1 then 2 else if x=2 then 4 else if x=3 then 8 else if x=4 then 16 else 0
def zD (x:Int):Int:=if x<1 then 0 else if x≤2 then 1 else if x≤4 then 2 else if x≤8 then 3 else if x≤16 then 4 else 0
theorem ZC (x:Int):0≤wZ x∧wZ x≤16:=by grind[wZ]
theorem qZs (x:Int):0≤zD x∧zD x≤4:=by grind[zD]
structure oR (M:VM):Prop where
  k:∀c∈M.K,0≤c.2∧c.2<18446744073709551616
  l:∀x∈M.lv,∀c∈x.1,0≤c.2∧c.2<18446744073709551616
theorem OZ {P:Int→Prop} {p x:Int}:∀{l:List Cl},(∀c∈l,P c.2)→zt p l=some x→P x:=by
 intro l
 induction l with
 |nil=>nofun
 |cons c l ih=>
  intro h e;unfold zt at e
  grind
theorem qjb {P:Int→Prop} {p x:Int}:∀{lv:List bC},(∀y∈lv,∀c∈y.1,P c.2)→U9 p lv=some x→P x:=by
 intro lv
 induction lv with
 |nil=>nofun
 |cons y r ih=>
  intro h e;unfold U9 at e
  split at e
  ·rename_i v hv;cases e;exact OZ (h y (iK ..)) hv
  ·exact ih (λz hz=>h z (iX _ hz)) e
theorem oR.read {M:VM} {p:Int} (W:oR M):0≤(qm M p).1.1∧(qm M p).1.1<18446744073709551616:=by
 unfold qm
 split
 ·split
  ·rename_i x hx;exact qjb (P:=λx=>0≤x∧x<18446744073709551616) W.l hx
  ·split
   ·rename_i x hx;exact OZ (P:=λx=>0≤x∧x<18446744073709551616) W.k hx
   simp
 simp
theorem oR.oz {M:VM} {p:Int} (W:oR M):oR (qm M p).2:=by
 unfold qm
 repeat' split
 all_goals exact⟨W.k,W.l⟩
def lS (cs:List Cl):Prop:=∀c∈cs,0≤c.2∧c.2<18446744073709551616
theorem lS.put {l:List Cl} {p v:Int} (h:lS l) (hv:0≤v∧v<18446744073709551616):lS (gd p v l):=by
 induction l with
 |nil=>intro c hc;grind[gd]
 |cons a l ih=>
  unfold gd
  split
  ·intro c hc;rcases List.mem_cons.1 hc with rfl |hc
   ·grind
   ·exact h c (iX _ hc)
  ·intro c hc;rcases List.mem_cons.1 hc with rfl |hc
   ·exact h _ (iK ..)
   ·exact ih (λc hc=>h c (iX _ hc)) c hc
theorem lS.pH:∀{cs l:List Cl},lS l→lS cs→lS (wU l cs):=by
 intro cs
 induction cs with
 |nil=>intro l h _;exact h
 |cons c cs ih=>intro l h hc;exact ih (h.put (hc c (iK ..))) λd hd=>hc d (iX _ hd)
theorem qx3 {most:Nat} {aw:List bC} (hw:∀x∈aw,lS x.1):∀{cs:List Cl} {lv:List bC},lS cs→(∀x∈lv,lS x.1)→∀x∈(gr most aw lv cs).2,lS x.1:=by
 intro cs
 induction cs with
 |nil=>intro lv _ h;exact h
 |cons c cs ih=>
  intro lv hc h;rw[wC]
  split
  ·refine ih (λd hd=>hc d (iX _ hd)) ?_;cases lv with
   |nil=>nofun
   |cons y r=>
    unfold gc;dsimp only
    split
    ·grind
    ·split
     ·grind
     ·intro x hx;rcases List.mem_cons.1 hx with rfl |hx
      ·exact(show lS y.1 from h y (iK ..)).put (hc c (iK ..))
      grind
  grind
theorem oR.take {M:VM} {cs:List Cl} (W:oR M) (hc:lS cs):oR (z7 M cs).2:=by
 unfold z7
 split
 ·exact⟨W.k,qx3 W.l hc W.l⟩
 grind
def vS (M:VM) (c b:Int):(Int×Int)×VM :=
 if 2147483648≤b then((0,2),M)else
 if(qm M b).1.2=0 then
  (if(z7 (qm M b).2 [(c,(qm M b).1.1),(b-1,c+8)]).1=0 then((b,0),(z7 (qm M b).2 [(c,(qm M b).1.1),(b-1,c+8)]).2)
   else((0,(z7 (qm M b).2 [(c,(qm M b).1.1),(b-1,c+8)]).1),(z7 (qm M b).2 [(c,(qm M b).1.1),(b-1,c+8)]).2))
 else((0,(qm M b).1.2),(qm M b).2)
def vO (M:VM) (c:Int):(Int×Int)×VM :=
 if(qm M 5).1.2=0 then
  (if(qm M 5).1.1<14∨2147483648≤(qm M 5).1.1∨(M.sz:Int)<(qm M 5).1.1+1+wZ c then((0,4),(qm M 5).2)
   else if(z7 (qm M 5).2 [(5,(qm M 5).1.1+1+wZ c),((qm M 5).1.1,c+8)]).1=0 then(((qm M 5).1.1+1,0),(z7 (qm M 5).2 [(5,(qm M 5).1.1+1+wZ c),((qm M 5).1.1,c+8)]).2)
   else((0,(z7 (qm M 5).2 [(5,(qm M 5).1.1+1+wZ c),((qm M 5).1.1,c+8)]).1),(z7 (qm M 5).2 [(5,(qm M 5).1.1+1+wZ c),((qm M 5).1.1,c+8)]).2))
 else((0,(qm M 5).1.2),(qm M 5).2)
def xO (M:VM) (n:Int):(Int×Int)×VM :=
 if zD n=0 then((0,3),M)else
 if(qm M (zD n)).1.2=0 then
  (if(qm M (zD n)).1.1=0 then vO (qm M (zD n)).2 (zD n)else vS (qm M (zD n)).2 (zD n) (qm M (zD n)).1.1)
 else((0,(qm M (zD n)).1.2),(qm M (zD n)).2)
def gQ (w:Int):Int×Bool:=if 1≤w∧w≤4 then(w,false)else if 9≤w∧w≤12 then(w-8,true)else(0,false)
def zE (M:VM) (b:Int):(Int×Bool×Int)×VM :=
 if b≤14∨M.sz≤b then((0,false,2),M)else
 if(qm M (b-1)).1.2=0 then
  (if(gQ (qm M (b-1)).1.1).1=0 then((0,false,2),(qm M (b-1)).2)else(((gQ (qm M (b-1)).1.1).1,(gQ (qm M (b-1)).1.1).2,0),(qm M (b-1)).2))
 else((0,false,(qm M (b-1)).1.2),(qm M (b-1)).2)
def ga (M:VM) (b:Int):Int×VM :=
 if(zE M b).1.2.2=0 then
  (if(zE M b).1.2.1=true then
   (if(z7 (zE M b).2 [(b-1,(zE M b).1.1)]).1=0 then(0,lh (z7 (zE M b).2 [(b-1,(zE M b).1.1)]).2 b)else z7 (zE M b).2 [(b-1,(zE M b).1.1)])
  else(2,(zE M b).2))
 else((zE M b).1.2.2,(zE M b).2)
def yM (M:VM) (b:Int):Int×VM :=
 if(zE M b).1.2.2=0 then
  (if(zE M b).1.2.1=true then(2,(zE M b).2)else
   if(qm (zE M b).2 (zE M b).1.1).1.2=0 then z7 (qm (zE M b).2 (zE M b).1.1).2 [(b,(qm (zE M b).2 (zE M b).1.1).1.1),((zE M b).1.1,b)]
   else((qm (zE M b).2 (zE M b).1.1).1.2,(qm (zE M b).2 (zE M b).1.1).2))
 else((zE M b).1.2.2,(zE M b).2)
theorem qxm {M:VM} {p:Int}:(qm M p).2.sz=M.sz:=by
 grind[qm]
theorem qgi (w:Int):0≤(gQ w).1∧(gQ w).1≤4:=by
 grind[gQ]
theorem Zh (M:VM) (b:Int):0≤(zE M b).1.1∧(zE M b).1.1≤4∧((zE M b).1.2.2=0→14<b∧b<M.sz):=by
 unfold zE
 split
 ·simp
 ·split
  ·split
   all_goals simp_all[qgi,qm]
  grind
theorem GW {M:VM} {b:Int} (O:fm M):fm (zE M b).2:=by
 grind[zE,vQ]
theorem qy2 {M:VM} {b:Int} (O:oR M):oR (zE M b).2:=by
 unfold zE
 split
 ·grind
 ·split
  ·split<;>exact O.oz
  ·exact O.oz
theorem qkt {M:VM} {b:Int} (O:fm M) (hf:∀x∈M.lv,x.2.length+1<100000):fm (lh M b):=by
 refine⟨O.lo,O.hi,qxn O.lR,O.ins,O.un,?_⟩;show∀x∈YU M.lv b,x.2.length<100000;cases hl:M.lv with
 |nil=>nofun
 |cons y r=>
  rw[hl]at hf;intro x hx;rcases List.mem_cons.1 hx with rfl |hx
  all_goals grind
end
section
variable {g h:AH} {L R:List SP}
theorem KI {n:Nat} (hn:1≤n) {x:Int}:ba n 130 [.int .i64 x] h λv h'=>v=.int .i64 (wZ x)∧h'=h:=by
 refine bw (S:=S130) rfl omQ λk hk=>?_;unfold S130;try simp only[iZ]
 repeat' (first |with_reducible refine qK ?_ |with_reducible refine qJ ?_ |(with_reducible refine qf ?_;try dsimp only) |(with_reducible refine ql ?_;try dsimp only) |(with_reducible refine qe ?_;try dsimp only) |(with_reducible refine qP ?_;try dsimp only) |(with_reducible refine zQ ?_;try dsimp only) |with_reducible refine qF ?_ |with_reducible refine qy ?_ |(with_reducible refine qG ?_;try dsimp only) |with_reducible refine qj ?_ |with_reducible refine jE ?_ |with_reducible refine jo ?_ |with_reducible refine qE omQ ?_ |with_reducible refine qn omQ ?_ |with_reducible refine yK omQ ?_ |with_reducible refine yc omQ ?_ |with_reducible refine vX ?_ |with_reducible refine vy ?_ |with_reducible refine j8 (λhc=>?_) (λhc=>?_) |with_reducible refine QK (λhc=>?_) (λhc=>?_) |with_reducible refine kw (λhc=>?_) (λhc=>?_) |with_reducible refine Ql (λhc=>?_) (λhc=>?_) |with_reducible refine wX (λhc=>?_) (λhc=>?_) |with_reducible refine Ja (λhc=>?_) (λhc=>?_) |with_reducible refine kK (λhc=>?_) (λhc=>?_))
 ·refine qq ⟨?_,rfl⟩;grind[wZ]
 ·refine qq ⟨?_,rfl⟩;grind[wZ]
 ·refine gC omQ (qkL omQ ?_);refine qq ⟨?_,rfl⟩;rcases(show x=1∨x=2∨x=3∨x=4 by omega)with rfl |rfl |rfl |rfl<;>rfl
theorem qq9 {n:Nat} (hn:2≤n) {x:Int}:ba n 128 [.int .i64 x] h λv h'=>v=.int .i64 (zD x)∧h'=h:=by
 refine bw (S:=S128) rfl omQ λk hk=>?_;unfold S128;try simp only[iZ]
 repeat' (first |with_reducible refine qK ?_ |with_reducible refine qJ ?_ |(with_reducible refine qf ?_;try dsimp only) |(with_reducible refine ql ?_;try dsimp only) |(with_reducible refine qe ?_;try dsimp only) |(with_reducible refine qP ?_;try dsimp only) |(with_reducible refine zQ ?_;try dsimp only) |with_reducible refine qF ?_ |with_reducible refine qy ?_ |(with_reducible refine qG ?_;try dsimp only) |with_reducible refine qj ?_ |with_reducible refine jE ?_ |with_reducible refine jo ?_ |with_reducible refine qE omQ ?_ |with_reducible refine qn omQ ?_ |with_reducible refine yK omQ ?_ |with_reducible refine yc omQ ?_ |with_reducible refine vX ?_ |with_reducible refine vy ?_ |with_reducible refine j8 (λhc=>?_) (λhc=>?_) |with_reducible refine QK (λhc=>?_) (λhc=>?_) |with_reducible refine kw (λhc=>?_) (λhc=>?_) |with_reducible refine Ql (λhc=>?_) (λhc=>?_) |with_reducible refine wX (λhc=>?_) (λhc=>?_) |with_reducible refine Ja (λhc=>?_) (λhc=>?_) |with_reducible refine kK (λhc=>?_) (λhc=>?_))
 ·refine qq ⟨?_,rfl⟩;grind[zD]
 ·refine qq ⟨?_,rfl⟩;grind[zD]
 ·refine jB (λm s g=>∃i:Int,s=(.int .i64 i,.int .i64 x,())∧1≤i∧i≤4∧(m:Int)=4-i∧g=h∧(1<i→2<x)∧(2<i→4<x)∧(3<i→8<x)) ?_ (m:=3) od ⟨1,rfl,by omega,by omega,by rfl,rfl,by omega,by omega,by omega⟩;rintro m ih s g bj ⟨i,rfl,h1,h2,h3,rfl,h4,h5,h6⟩;dsimp only;refine qY (KI omQ) ?_;rintro v g' ⟨rfl,rfl⟩
  repeat' (first |with_reducible refine qK ?_ |with_reducible refine qJ ?_ |(with_reducible refine qf ?_;try dsimp only) |(with_reducible refine ql ?_;try dsimp only) |(with_reducible refine qe ?_;try dsimp only) |(with_reducible refine qP ?_;try dsimp only) |(with_reducible refine zQ ?_;try dsimp only) |with_reducible refine qF ?_ |with_reducible refine qy ?_ |(with_reducible refine qG ?_;try dsimp only) |with_reducible refine qj ?_ |with_reducible refine jE ?_ |with_reducible refine jo ?_ |with_reducible refine qE omQ ?_ |with_reducible refine qn omQ ?_ |with_reducible refine yK omQ ?_ |with_reducible refine yc omQ ?_ |with_reducible refine vX ?_ |with_reducible refine vy ?_ |with_reducible refine j8 (λhc=>?_) (λhc=>?_) |with_reducible refine QK (λhc=>?_) (λhc=>?_) |with_reducible refine kw (λhc=>?_) (λhc=>?_) |with_reducible refine Ql (λhc=>?_) (λhc=>?_) |with_reducible refine wX (λhc=>?_) (λhc=>?_) |with_reducible refine Ja (λhc=>?_) (λhc=>?_) |with_reducible refine kK (λhc=>?_) (λhc=>?_))
  ·refine bj (m-1) _ _ ?_ ⟨i+1,rfl,by omega,?_,?_,rfl,?_,?_,?_⟩<;>(grind[wZ])
  ·refine qq ⟨?_,rfl⟩;grind[wZ,zD]
theorem Na {n:Nat} (hn:1≤n) {w:Int} (hw:0≤w):ba n 129 [.int .u64 w] h λv h'=>v=.int .i64 (if 2147483648≤w then-1 else w)∧h'=h:=by
 refine bw (S:=S129) rfl omQ λk hk=>?_;unfold S129;try simp only[iZ]
 by_cases h1:2147483648≤w
 ·rw[iJ h1];refine zK omQ ?_;refine qK ?_;exact qq ⟨rfl,rfl⟩
 ·rw[iQ h1];refine jt omQ ?_;refine qJ (yP omQ ?_);exact qq ⟨rfl,rfl⟩
def J1 (w m:Int):Int:=if 1+m≤w∧w≤4+m then w-m else 0
def ER (M:VM) (b m:Int):(Int×Int)×VM :=
 if b≤14∨M.sz≤b then((0,2),M)else
 if(qm M (b-1)).1.2=0 then
  (if J1 (qm M (b-1)).1.1 m=0 then((0,2),(qm M (b-1)).2)else((J1 (qm M (b-1)).1.1 m,0),(qm M (b-1)).2))
 else((0,(qm M (b-1)).1.2),(qm M (b-1)).2)
theorem Vu {n:Nat} (hn:4≤n) {o:Nat} {M:VM} {b m:Int} (H:HS g h (aR o M::R)) (O:fm M) (W:oR M) (hm:0≤m∧m≤8) :
  ba n 94 [.ptr o 0,.int .i64 b,.int .i64 m] h λr h'=>r=.cA [.int .i64 (ER M b m).1.1,.int .i64 (ER M b m).1.2]∧HS g h' (aR o (ER M b m).2::R):=by
 refine dV (S:=S94) rfl omQ λk hk=>?_;unfold S94;try simp only[iZ]
 have hO:=O.hi;unfold ER;by_cases h1:b≤14
 ·rw[iJ (.inl h1)];refine ve omQ ?_;refine qG ?_;(try dsimp only);refine ql ?_;(try dsimp only);refine qF (qK ?_)
  exact qq ⟨rfl,H⟩
 ·have hH:=H;obtain⟨kv,q,H⟩:=aR.E H;by_cases h2:(M.sz:Int)≤b
  ·rw[iJ (.inr h2)];refine vj omQ ?_;refine qG ?_;(try dsimp only);refine qP ?_;(try dsimp only);refine qX (qQ (qZ ‹_› .here rfl ?_));refine zK omQ ?_;refine qy (qK ?_)
   exact qq ⟨rfl,hH⟩
  ·rw[iQ omQ];refine vj omQ ?_;refine qG ?_;(try dsimp only);refine qP ?_;(try dsimp only);refine qX (qQ (qZ ‹_› .here rfl ?_));refine jt omQ ?_;refine qy (qJ (qn omQ ?_))
   refine qY (kT omQ hH O) ?_;rintro _ h3 ⟨rfl,H3⟩;simp only[show((1:Nat):Int)=1 from rfl]at H3 ⊢;have hw:=W.read (p:=b-1);generalize(qm M (b-1)).1.1=w at*;refine qi rfl ?_;refine qi rfl ?_;by_cases h4:(qm M (b-1)).1.2=0
   ·rw[iJ h4];refine jR omQ ?_;refine qJ (jB (λk s g'=>∃i:Int,s=(.int .i64 i,.int .u64 w,.int .i64 m,())∧1≤i∧i≤5∧(k:Int)=5-i∧HS g g' (aR o (qm M (b-1)).2::R)∧(w<1+m∨i+m≤w)) ?_ (m:=4) od ⟨1,rfl,by omega,by omega,by rfl,H3,by omega⟩);clear H3;rintro k2 ih s g' bj ⟨i,rfl,h1,h2,h3,H3,h5⟩;dsimp only;simp only[show((4:Nat):Int)=4 from rfl];refine QK (λh6=>qK ?_) λh6=>qJ (qj (qq ?_))
    ·refine qE omQ (gC omQ (wX (λh7=>qK (qj (qq ?_))) λh7=>qJ (qE omQ (bj (k2-1) _ _ omQ ⟨i+1,rfl,by omega,by omega,by omega,H3,by omega⟩))));have Wm:J1 w m=i:=by simp[J1];omega
     grind
    ·have Wm:J1 w m=0:=by unfold J1;grind
     grind
   ·rw[iQ h4];refine jb omQ ?_;refine qK ?_;exact qq ⟨rfl,H3⟩
theorem Ml (w:Int):(gQ w).1=0∨(gQ w).2=true→J1 w 0=0:=by
 unfold gQ J1;grind
theorem qZ7 (w:Int):¬(gQ w).1=0→(gQ w).2=false→J1 w 0=(gQ w).1:=by
 unfold gQ J1;grind
theorem Vo (w:Int):(gQ w).1=0∨(gQ w).2=false→J1 w 8=0:=by
 unfold gQ J1;grind
theorem qQ6 (w:Int):¬(gQ w).1=0→(gQ w).2=true→J1 w 8=(gQ w).1:=by
 unfold gQ J1;grind
theorem qWN {M:VM} {b m:Int} (hm:m=0∨m=8):ER M b m=
  (if(zE M b).1.2.2=0 then(if(zE M b).1.2.1=(decide (m=8))then(((zE M b).1.1,0),(zE M b).2)else((0,2),(zE M b).2))else((0,(zE M b).1.2.2),(zE M b).2)):=by
 unfold ER zE
 split
 ·rfl
 ·split
  ·generalize(qm M (b-1)).1.1=w;rcases hm with rfl |rfl
   ·by_cases h1:(gQ w).1=0
    ·rw[Ml w (.inl h1),iJ rfl,iJ h1];rfl
    ·cases h2:(gQ w).2
     ·simp_all[qZ7]
     ·rw[Ml w (.inr h2),iJ rfl,iQ h1];rfl
   ·by_cases h1:(gQ w).1=0
    ·rw[Vo w (.inl h1),iJ rfl,iJ h1];rfl
    ·cases h2:(gQ w).2
     ·rw[Vo w (.inr h2),iJ rfl,iQ h1];rfl
     simp_all[qQ6]
  rfl
theorem qz3 {n:Nat} (hn:6≤n) {o:Nat} {M:VM} {b:Int} (H:HS g h (aR o M::R)) (O:fm M) (W:oR M) :
  ba n 123 [.ptr o 0,.int .i64 b] h λr h'=>r=.int .i64 (ga M b).1∧HS g h' (aR o (ga M b).2::R):=by
 refine cu (S:=S123) rfl omQ λk hk=>?_;unfold S123;try simp only[iZ]
 refine qY (Vu omQ H O W omQ) ?_;rintro _ h1 ⟨rfl,H1⟩;have hb:=Zh M b;have hO:=GW (b:=b) O;have l8:=O.hi;rw[show((8:Nat):Int)=8 from rfl]at H1 ⊢;rw[qWN (.inr rfl)]at H1 ⊢;unfold ga;refine qi rfl ?_;refine qi rfl ?_;by_cases h2:(zE M b).1.2.2=0
 ·rw[iJ h2]at H1 ⊢;rw[iJ h2];cases h3:(zE M b).1.2.1
  ·rw[h3]at H1
   skip
   exact qq ⟨rfl,H1⟩
  ·rw[h3]at H1;simp only[decide_true,if_true]at H1 ⊢;refine jR omQ ?_;refine qJ (qn omQ ?_);refine gC omQ ?_;refine qA rfl ?_;simp only[show((1:Nat):Int)=1 from rfl];refine(jY (n:=1) (l:=[.int .i64 (b-1),.int .u64 (zE M b).1.1]) (sz:=2) H1 rfl rfl rfl rfl λv3 h3 H3=>?_);refine qY (GG (cs:=[(b-1,(zE M b).1.1)]) omQ (H3.aJ e_1) hO (.own .here) aM) ?_;rintro _ h4 ⟨rfl,H4⟩;by_cases h5:(z7 (zE M b).2 [(b-1,(zE M b).1.1)]).1=0
   ·rw[iJ h5];obtain⟨kv,q,H5⟩:=aR.E H4;refine jR omQ ?_;refine qJ (qX (qQ (qZ ‹_› .here rfl ?_)));refine qY (qjI omQ (H5.aJ e_2) (Vp hO).lR λx hx=>Nat.lt_trans ((Vp hO).fr x hx) omQ) ?_;intro _ h6 H6;exact qq ⟨rfl,aR.I (M:=lh (z7 (zE M b).2 [(b-1,(zE M b).1.1)]).2 b) (kv:=kv) (q:=q) (H6.sub (.cons e_1 (.cons e_1 (.cons .here (.drop (.refl))))))⟩
   ·rw[iQ h5];refine jb omQ ?_;refine qK ?_;exact qq ⟨rfl,H4.sub (.cons .here (.drop (.refl)))⟩
 ·rw[iQ h2]at H1 ⊢;rw[iQ h2];refine jb omQ ?_;refine qK ?_;exact qq ⟨rfl,H1⟩
theorem qj9 {n:Nat} (hn:6≤n) {o:Nat} {M:VM} {b:Int} (H:HS g h (aR o M::R)) (O:fm M) (W:oR M) :
  ba n 75 [.ptr o 0,.int .i64 b] h λr h'=>r=.int .i64 (yM M b).1∧HS g h' (aR o (yM M b).2::R):=by
 refine cu (S:=S75) rfl omQ λk hk=>?_;unfold S75;try simp only[iZ]
 refine qY (Vu omQ H O W omQ) ?_;rintro _ h1 ⟨rfl,H1⟩;have hb:=Zh M b;have hO:=GW (b:=b) O;have l8:=O.hi;rw[show((0:Nat):Int)=0 from rfl]at H1 ⊢;rw[qWN (.inl rfl)]at H1 ⊢;unfold yM;refine qi rfl ?_;refine qi rfl ?_;by_cases h2:(zE M b).1.2.2=0
 ·rw[iJ h2]at H1 ⊢;rw[iJ h2];cases h3:(zE M b).1.2.1
  ·rw[h3]at H1;simp only[show(decide ((0:Int)=8))=false from rfl,if_true]at H1 ⊢;refine jR omQ ?_;refine qJ (qE omQ ?_);refine qn omQ ?_;rw[show((1:Nat):Int)+(zE M b).1.1-((1:Nat):Int)=(zE M b).1.1 by omega];refine qY (kT omQ H1 hO) ?_;rintro _ h4 ⟨rfl,H4⟩;refine qi rfl ?_;refine qi rfl ?_;by_cases h5:(qm (zE M b).2 (zE M b).1.1).1.2=0
   ·rw[iJ h5];refine jR omQ ?_;refine qJ (qA rfl ?_);refine gC omQ ?_;refine qA rfl ?_;refine(jY (n:=2) (l:=[.int .i64 b,.int .u64 (qm (zE M b).2 (zE M b).1.1).1.1,.int .i64 (zE M b).1.1,.int .u64 b]) (sz:=2) H4 rfl rfl rfl rfl λv5 h5 H5=>?_);refine qY (GG (cs:=[(b,(qm (zE M b).2 (zE M b).1.1).1.1),((zE M b).1.1,b)]) omQ (H5.aJ e_1) (vQ hO) (.own .here) aM) ?_;rintro _ h6 ⟨rfl,H6⟩
    skip
    exact qq ⟨rfl,H6.sub (.cons .here (.drop (.refl)))⟩
   ·rw[iQ h5];refine jb omQ ?_;refine qK ?_;exact qq ⟨rfl,H4⟩
  ·rw[h3]at H1
   skip
   exact qq ⟨rfl,H1⟩
 ·rw[iQ h2]at H1 ⊢;rw[iQ h2];refine jb omQ ?_;refine qK ?_;exact qq ⟨rfl,H1⟩
theorem qYp {n:Nat} (hn:7≤n) {o:Nat} {M:VM} {x:Int} (H:HS g h (aR o M::R)) (O:fm M) (W:oR M) :
  ba n 122 [.ptr o 0,.int .i64 x] h λr h'=>r=.cA [.int .i64 (xO M x).1.1,.int .i64 (xO M x).1.2]∧HS g h' (aR o (xO M x).2::R):=by
 refine cu (S:=S122) rfl omQ λk hk=>?_;unfold S122;try simp only[iZ]
 refine qY (qq9 omQ) ?_;rintro _ _ ⟨rfl,rfl⟩;have hc:=qZs x;unfold xO;by_cases h1:zD x=0
 ·rw[iJ h1];refine qk omQ ?_;refine qK ?_;exact qq ⟨rfl,H⟩
 ·rw[iQ h1];refine qW omQ ?_;refine qJ (qE omQ ?_);refine qn omQ ?_;rw[show((1:Nat):Int)+zD x-((1:Nat):Int)=zD x by omega];refine qY (kT omQ H O) ?_;rintro _ h3 ⟨rfl,H3⟩;have hw:=W.read (p:=zD x);have ET:=vQ (p:=zD x) O;have W1:=W.oz (p:=zD x);refine qi rfl ?_;refine qi rfl ?_;by_cases h4:(qm M (zD x)).1.2=0
  ·rw[iJ h4];generalize(qm M (zD x)).2=M1 at*;generalize(qm M (zD x)).1.1=b at*;refine jR omQ ?_;refine qJ (qE omQ ?_);refine gC omQ ?_;by_cases h5:b=0
   ·rw[iJ h5];refine jR omQ ?_;refine qJ ?_;have l8:=ET.hi;have hs:=ZC (zD x);have bz:(qm M1 5).2.sz=M1.sz:=qxm;have hw5:=W1.read (p:=5);unfold vO;refine qY (kT omQ H3 ET) ?_;rintro _ h6 ⟨rfl,H6⟩;simp only[show((5:Nat):Int)=5 from rfl]at H6 ⊢;refine qi rfl ?_;refine qi rfl ?_;by_cases h6:(qm M1 5).1.2=0
    ·rw[iJ h6];refine jR omQ ?_;refine qJ (qY (Na omQ hw5.1) ?_);rintro _ _ ⟨rfl,rfl⟩;have hO5:=vQ (p:=5) ET;by_cases h7:(qm M1 5).1.1<14∨2147483648≤(qm M1 5).1.1∨(M1.sz:Int)<(qm M1 5).1.1+1+wZ (zD x)
     ·rw[iJ h7];by_cases h8:2147483648≤(qm M1 5).1.1
      ·rw[iJ h8];refine qG ?_;(try dsimp only);refine jO omQ ?_;refine ql ?_;(try dsimp only);refine qF (qK ?_)
       exact qq ⟨rfl,H6⟩
      ·rw[iQ h8];by_cases h9:(qm M1 5).1.1<14
       ·refine qG ?_;(try dsimp only);refine jO omQ ?_;refine ql ?_;(try dsimp only);refine qF (qK ?_)
        exact qq ⟨rfl,H6⟩
       ·refine qG ?_;(try dsimp only);refine jM omQ ?_;refine qP ?_;(try dsimp only);refine qE omQ ?_
        refine qY (KI omQ) ?_;rintro _ _ ⟨rfl,rfl⟩;have hH:=H6;obtain⟨kv,q,H7⟩:=aR.E H6;rw[bz]at H7;refine qE omQ ?_;refine qX (qQ (qZ ‹_› .here rfl ?_));refine xL omQ ?_;refine qy (jU ‹_› .here rfl ‹_› .here rfl (HS.lt ‹_› .here) ?_);refine qK ?_;exact qq ⟨rfl,hH⟩
     ·rw[iQ h7,iQ omQ];refine qG ?_;(try dsimp only);refine jM omQ ?_;refine qP ?_;(try dsimp only);refine qE omQ ?_
      refine qY (KI omQ) ?_;rintro _ _ ⟨rfl,rfl⟩;obtain⟨kv,q,H7⟩:=aR.E H6;rw[bz]at H7;refine qE omQ ?_;refine qX (qQ (qZ ‹_› .here rfl ?_));refine xJ omQ ?_;refine qy (jU ‹_› .here rfl ‹_› .here rfl (HS.lt ‹_› .here) ?_);refine qJ (qE omQ ?_);refine qY (KI omQ) ?_;rintro _ _ ⟨rfl,rfl⟩;clear H7;refine qE omQ ?_;refine gC omQ ?_;refine qA rfl ?_;refine qA rfl ?_;refine jY (n:=2) (l:=[.int .i64 5,.int .u64 ((qm M1 5).1.1+1+wZ (zD x)),.int .i64 (qm M1 5).1.1,.int .u64 (zD x+8)]) (sz:=2) H6 rfl rfl rfl rfl λv5 h5 H5=>?_;refine qY (GG (cs:=[(5,(qm M1 5).1.1+1+wZ (zD x)),((qm M1 5).1.1,zD x+8)]) omQ (H5.aJ e_1) hO5 (.own .here) aM) ?_;rintro _ h6 ⟨rfl,H6⟩;by_cases h7:(z7 (qm M1 5).2 [(5,(qm M1 5).1.1+1+wZ (zD x)),((qm M1 5).1.1,zD x+8)]).1=0
      ·rw[iJ h7];refine jR omQ ?_;refine qJ (qE omQ ?_);exact qq ⟨rfl,H6.sub (.cons .here (.drop (.refl)))⟩
      ·rw[iQ h7];refine jb omQ ?_;refine qK ?_;exact qq ⟨rfl,H6.sub (.cons .here (.drop (.refl)))⟩
    ·rw[iQ h6];refine jb omQ ?_;refine qK ?_;exact qq ⟨rfl,H6⟩
   ·rw[iQ h5];refine jb omQ ?_;refine qK (qY (Na omQ hw.1) ?_);rintro _ _ ⟨rfl,rfl⟩;unfold vS;by_cases h6:2147483648≤b
    ·rw[iJ h6,iJ h6];refine qY (kT omQ H3 ET) ?_;rintro _ h7 ⟨rfl,H7⟩;have hr:qm M1 (-1)=((0,2),M1):=by rfl
     rw[hr]at H7 ⊢;refine qi rfl ?_;refine qi rfl ?_;exact qq ⟨rfl,H7⟩
    ·rw[iQ h6,iQ h6];refine qY (kT omQ H3 ET) ?_;rintro _ h7 ⟨rfl,H7⟩;refine qi rfl ?_;refine qi rfl ?_;by_cases h8:(qm M1 b).1.2=0
     ·rw[iJ h8];refine jR omQ ?_;refine qJ (qA rfl ?_);refine qn omQ ?_;refine qA rfl ?_;simp only[show((1:Nat):Int)=1 from rfl];refine jY (n:=2) (l:=[.int .i64 (zD x),.int .u64 (qm M1 b).1.1,.int .i64 (b-1),.int .u64 (zD x+8)]) (sz:=2) H7 rfl rfl rfl rfl λv5 h5 H5=>?_;refine qY (GG (cs:=[(zD x,(qm M1 b).1.1),(b-1,zD x+8)]) omQ (H5.aJ e_1) (vQ ET) (.own .here) aM) ?_;rintro _ h6 ⟨rfl,H6⟩;by_cases h7:(z7 (qm M1 b).2 [(zD x,(qm M1 b).1.1),(b-1,zD x+8)]).1=0
      ·rw[iJ h7];refine jR omQ ?_;refine qJ ?_;exact qq ⟨rfl,H6.sub (.cons .here (.drop (.refl)))⟩
      ·rw[iQ h7];refine jb omQ ?_;refine qK ?_;exact qq ⟨rfl,H6.sub (.cons .here (.drop (.refl)))⟩
     ·rw[iQ h8];refine jb omQ ?_;refine qK ?_;exact qq ⟨rfl,H7⟩
  ·rw[iQ h4];refine jb omQ ?_;refine qK ?_;exact qq ⟨rfl,H3⟩
end
section
def zx (x lo hi:Int):Int:=lo+(if x.tmod (hi-lo+1)<0 then x.tmod (hi-lo+1)+(hi-lo+1)else x.tmod (hi-lo+1))
theorem Yy (x:Int) {m:Int} (hm:0<m):-m<x.tmod m∧x.tmod m<m:=by refine⟨?_,Int.tmod_lt_of_pos x hm⟩;have:=Int.tmod_lt_of_pos (-x) hm;simp at*;omega
theorem z9 (x:Int) {lo hi:Int} (h:lo≤hi):lo≤zx x lo hi∧zx x lo hi≤hi:=by
 have:=Yy x (show 0<hi-lo+1 by omega);grind[zx]
theorem xp {n:Nat} (hn:1≤n) {x lo hi:Int} {h:AH} (h1:lo≤hi) (h2:-1000000000≤lo) (h3:hi≤1000000000) :
  ba n 8 [.int .i64 x,.int .i64 lo,.int .i64 hi] h λv h'=>v=.int .i64 (zx x lo hi)∧h'=h:=by
 refine dV (S:=S8) rfl omQ λk hk=>?_;unfold S8;try simp only[iZ]
 simp only[show((1:Nat):Int)=1 from rfl,show((0:Nat):Int)=0 from rfl];have hb:=Yy x (show 0<hi-lo+1 by omega);unfold zx
 repeat' (first |(first |with_reducible refine qK ?_ |with_reducible refine qJ ?_ |(with_reducible refine qf ?_;try dsimp only) |(with_reducible refine ql ?_;try dsimp only) |(with_reducible refine qe ?_;try dsimp only) |(with_reducible refine qP ?_;try dsimp only) |(with_reducible refine zQ ?_;try dsimp only) |with_reducible refine qF ?_ |with_reducible refine qy ?_ |(with_reducible refine qG ?_;try dsimp only) |with_reducible refine qj ?_ |with_reducible refine jE ?_ |with_reducible refine jo ?_ |with_reducible refine qE omQ ?_ |with_reducible refine qn omQ ?_ |with_reducible refine yK omQ ?_ |with_reducible refine yc omQ ?_ |with_reducible refine vX ?_ |with_reducible refine vy ?_) |with_reducible refine Xb omQ ?_ |(first |with_reducible refine j8 (λhc=>?_) (λhc=>?_) |with_reducible refine QK (λhc=>?_) (λhc=>?_) |with_reducible refine kw (λhc=>?_) (λhc=>?_) |with_reducible refine Ql (λhc=>?_) (λhc=>?_) |with_reducible refine wX (λhc=>?_) (λhc=>?_) |with_reducible refine Ja (λhc=>?_) (λhc=>?_) |with_reducible refine kK (λhc=>?_) (λhc=>?_)))
 all_goals refine qq ⟨?_,rfl⟩
 all_goals grind
end
section
theorem qWL {l:List ES} {a b:List AV} {K:AV→Go.Ae.R} {Q:AV→AH→Prop} {neg:Bool} {p:Prop} [Decidable p] (e:yV l a b=some (decide p)) (h1:p→wp (K (.bool (!neg))) Q) (h2:¬p→wp (K (.bool neg)) Q):wp (UP l neg (.agg a) (.agg b) K) Q:=by
 unfold UP;simp only[e,ob];by_cases h:p
 ·have:=h1 h;simpa[h]using this
 ·have:=h2 h;simpa[h]using this
end
end Go.Proofs.YtaljafbgbfmcbaaGreat
