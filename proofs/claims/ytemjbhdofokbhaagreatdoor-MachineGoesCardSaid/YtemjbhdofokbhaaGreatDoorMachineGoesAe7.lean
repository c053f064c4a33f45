/- The abstract executor of the program's form in Lean, shown sound: steps of a run; a law's run. -/
import Derived.Test.YtemjbhdofokbhaaGreatDoorMachineGoesAe6
namespace Go.Ae
open Go
def wp (r:R) (Q:AV→AH→Prop):Prop:=∃v h,r=some (v,h)∧Q v h
variable {Q Q':AV→AH→Prop} {h h':AH} {k:IntKind} {a b:Int} {K:AV→R}
theorem wp.mono {r:R} (w:wp r Q) (hq:∀v h,Q v h→Q' v h):wp r Q':=by obtain⟨v,h,e,q⟩:=w;exact⟨v,h,e,hq v h q⟩
theorem qY {v:AV} {g:AH} (q:Q v g):wp (some (v,g)) Q:=⟨_,_,rfl,q⟩
theorem Xe (a b:Int):oZ a b=decide (a<b):=MS a b
theorem GN (a b:Int):nr a b=decide (a=b):=by
 grind[Nk]
theorem JS (op:BinOp) (a b:Int) (K:AV→R):zB op (.int k a) (.int k b) K=ob (Jb op k a b) K:=by simp[Pt]
theorem JQ (w:wp (K (.bool (decide (a<b)))) Q):wp (zB .lss (.int k a) (.int k b) K) Q:=by rw[JS];simpa only[Jb,Xe]using w
theorem Zt (w:wp (K (.bool (decide (a≤b)))) Q):wp (zB .leq (.int k a) (.int k b) K) Q:=by rw[JS];simp only[Jb,Xe];rw[show(!decide (b<a))=decide (a≤b) by grind];exact w
theorem Rv (w:wp (K (.bool (decide (b<a)))) Q):wp (zB .gtr (.int k a) (.int k b) K) Q:=by rw[JS];simpa only[Jb,Xe]using w
theorem Rw (w:wp (K (.bool (decide (b≤a)))) Q):wp (zB .geq (.int k a) (.int k b) K) Q:=by rw[JS];simp only[Jb,Xe];rw[show(!decide (a<b))=decide (b≤a) by grind];exact w
theorem Yi (w:wp (K (.bool (decide (a=b)))) Q):wp (zB .eql (.int k a) (.int k b) K) Q:=by rw[JS];simpa only[Jb,GN]using w
theorem NR (w:wp (K (.bool (decide (¬a=b)))) Q):wp (zB .neq (.int k a) (.int k b) K) Q:=by rw[JS];simp only[Jb,GN];rw[← decide_not];exact w
theorem EY {n:Int} (h:-9223372036854775808≤n∧n≤9223372036854775807):xy .i64 n=n:=by
 grind[Qj,UC]
theorem Rx {n:Int} (h:0≤n∧n≤18446744073709551615):xy .u64 n=n:=by grind[Qj,Yb]
theorem I5 (w:wp (K (.int k (xy k (a+b)))) Q):wp (zB .add (.int k a) (.int k b) K) Q:=by rw[JS];exact w
theorem Ry (w:wp (K (.int k (xy k (a-b)))) Q):wp (zB .sub (.int k a) (.int k b) K) Q:=by rw[JS];exact w
theorem qv5 (w:wp (K (.int k (xy k (a*b)))) Q):wp (zB .mul (.int k a) (.int k b) K) Q:=by rw[JS];exact w
theorem qa (h:-9223372036854775808≤a+b∧a+b≤9223372036854775807) (w:wp (K (.int .i64 (a+b))) Q):wp (zB .add (.int .i64 a) (.int .i64 b) K) Q:=I5 (by rw[EY h];exact w)
theorem zL (h:-9223372036854775808≤a-b∧a-b≤9223372036854775807) (w:wp (K (.int .i64 (a-b))) Q):wp (zB .sub (.int .i64 a) (.int .i64 b) K) Q:=Ry (by rw[EY h];exact w)
theorem Vl (h:-9223372036854775808≤a*b∧a*b≤9223372036854775807) (w:wp (K (.int .i64 (a*b))) Q):wp (zB .mul (.int .i64 a) (.int .i64 b) K) Q:=qv5 (by rw[EY h];exact w)
theorem gK (h:0≤a+b∧a+b≤18446744073709551615) (w:wp (K (.int .u64 (a+b))) Q):wp (zB .add (.int .u64 a) (.int .u64 b) K) Q:=I5 (by rw[Rx h];exact w)
theorem wC (h:0≤a-b∧a-b≤18446744073709551615) (w:wp (K (.int .u64 (a-b))) Q):wp (zB .sub (.int .u64 a) (.int .u64 b) K) Q:=Ry (by rw[Rx h];exact w)
theorem QD (h:b≠0) (w:wp (K (.int k (a.tmod b))) Q):wp (zB .rem (.int k a) (.int k b) K) Q:=by rw[JS];simp only[Jb,GN,iV h,cond_false];exact w
theorem jVo (h:b≠0) (w:wp (K (.int k (xy k (a.tdiv b)))) Q):wp (zB .quo (.int k a) (.int k b) K) Q:=by rw[JS];simp only[Jb,GN,iV h,cond_false];exact w
theorem qJo {d:IntKind} (w:wp (K (.int d (xy d a))) Q):wp (gt d (.int k a) K) Q:=w
theorem yz (h:-9223372036854775808≤a∧a≤9223372036854775807) (w:wp (K (.int .i64 a)) Q):wp (gt .i64 (.int k a) K) Q:=qJo (by rw[EY h];exact w)
theorem Q7 (h:0≤a∧a≤18446744073709551615) (w:wp (K (.int .u64 a)) Q):wp (gt .u64 (.int k a) K) Q:=qJo (by rw[Rx h];exact w)
theorem jK5 {q:IntKind} (h:0≤b) (w:wp (K (.int k (xy k (a*2 ^ (min b.toNat k.bits))))) Q):wp (kC .shl (.int k a) (.int q b) K) Q:=by unfold kC;simp only[Im,Xe,iV (show¬b<0 by omega),cond_false];exact w
theorem jR (w:wp (K (.bool false)) Q):wp (rX .not (.bool true) K) Q:=w
theorem je (w:wp (K (.bool true)) Q):wp (rX .not (.bool false) K) Q:=w
theorem zi (w:wp (K (.int k (min a b))) Q):wp (o8 false [.int k a,.int k b] K) Q:=by unfold o8;simp only[M7,cond_true,Bn,DN,beq_self_eq_true,cond_false,Option.bind_some,Xe];rw[show(bif decide (b<a)then b else a)=min a b by grind];exact w
theorem xR (w:wp (K (.int k (max a b))) Q):wp (o8 true [.int k a,.int k b] K) Q:=by unfold o8;simp only[M7,cond_true,Bn,DN,beq_self_eq_true,Option.bind_some,Xe];rw[show(bif decide (a<b)then b else a)=max a b by grind];exact w
theorem kf {p:Prop} [Decidable p] {K:AV→R} (h1:p→wp (K (.bool true)) Q) (h2:¬p→wp (K (.bool false)) Q):wp (K (.bool (decide p))) Q:=by
 by_cases hp:p
 ·rw[iG hp];exact h1 hp
 ·rw[iV hp];exact h2 hp
theorem xp (h1:a<b→wp (K (.bool true)) Q) (h2:¬a<b→wp (K (.bool false)) Q):wp (zB .lss (.int k a) (.int k b) K) Q:=JQ (kf h1 h2)
theorem km (h1:a≤b→wp (K (.bool true)) Q) (h2:¬a≤b→wp (K (.bool false)) Q):wp (zB .leq (.int k a) (.int k b) K) Q:=Zt (kf h1 h2)
theorem QQ (h1:b<a→wp (K (.bool true)) Q) (h2:¬b<a→wp (K (.bool false)) Q):wp (zB .gtr (.int k a) (.int k b) K) Q:=Rv (kf h1 h2)
theorem vW (h1:b≤a→wp (K (.bool true)) Q) (h2:¬b≤a→wp (K (.bool false)) Q):wp (zB .geq (.int k a) (.int k b) K) Q:=Rw (kf h1 h2)
theorem wE (h1:a=b→wp (K (.bool true)) Q) (h2:¬a=b→wp (K (.bool false)) Q):wp (zB .eql (.int k a) (.int k b) K) Q:=Yi (kf h1 h2)
theorem gP (h1:¬a=b→wp (K (.bool true)) Q) (h2:a=b→wp (K (.bool false)) Q):wp (zB .neq (.int k a) (.int k b) K) Q:=NR (kf h1 λh=>h2 (Decidable.byContradiction h))
variable {x y:R} {p:Prop} [Decidable p] {u v:AV}
theorem jZN (h1:p→wp x Q) (h2:¬p→wp y Q):wp (xA (.bool (decide p)) x y) Q:=by
 rw[WZ];by_cases hp:p
 ·simpa[hp]using h1 hp
 ·simpa[hp]using h2 hp
theorem kV {t:Bool} (h1:t=true→wp x Q) (h2:t=false→wp y Q):wp (xA (.bool t) x y) Q:=by
 cases t
 ·exact h2 rfl
 ·exact h1 rfl
theorem qZ (w:wp x Q):wp (xA (.bool true) x y) Q:=w
theorem qJ (w:wp y Q):wp (xA (.bool false) x y) Q:=w
theorem Rz (h1:p→wp x Q) (h2:¬p→wp y Q):wp (Qc (.bool (decide p)) true x y) Q:=by
 rw[ML];by_cases hp:p
 ·simpa[hp]using h1 hp
 ·simpa[hp]using h2 hp
theorem qb (w:wp x Q):wp (Qc (.bool true) true x y) Q:=w
theorem jG (w:wp y Q):wp (Qc (.bool true) false x y) Q:=w
theorem qS (w:wp y Q):wp (Qc (.bool false) true x y) Q:=w
theorem qp (w:wp x Q):wp (Qc (.bool false) false x y) Q:=w
theorem ze {s:Bool} (w:wp y Q):wp (Qc .undef s x y) Q:=w
theorem qB (w:wp (K u) Q):wp (QW (.bool true) u v K) Q:=w
theorem qH (w:wp (K v) Q):wp (QW (.bool false) u v K) Q:=w
theorem qX {α:Type} {j:α} {f:α→R} (w:wp (f j) Q):wp (yp j f) Q:=w
theorem UI {σ:Type} {j:σ→AH→R} {f:(σ→AH→R)→R} (Inv:σ→AH→Prop) (hf:∀j':σ→AH→R,(∀s h,Inv s h→wp (j' s h) Q)→wp (f j') Q) (hj:∀s h,Inv s h→wp (j s h) Q):wp (yp j f) Q:=hf j hj
theorem zv {σ:Type} {j:σ→AH→List Nat→R} {f:(σ→AH→List Nat→R)→R} (ds:List Nat) (Inv:σ→AH→Prop) (hf:∀j':σ→AH→List Nat→R,(∀s h,Inv s h→wp (j' s h ds) Q)→wp (f j') Q)
  (hj:∀s h,Inv s h→wp (j s h ds) Q):wp (yp j f) Q:=hf j hj
theorem qx {K:AH→R} (w:wp (K h) Q):wp (xB [] h K) Q:=w
theorem jS {σ:Type} {f:(σ→AH→List Nat→R)→σ→AH→List Nat→R} {d:List Nat} (Inv:Nat→σ→AH→Prop)
  (step:∀m ih s h,(∀m' s' h',m'<m→Inv m' s' h'→wp (ih s' h' d) Q)→Inv m s h→wp (f ih s h d) Q):∀{N m:Nat} {s:σ} {h:AH},m<N→Inv m s h→wp (Gc N f s h d) Q:=by
 intro N
 induction N with
 |zero=>intro m s h hm;omega
 |succ N ih=>intro m s h hm hi;show wp (f (Gc N f) s h d) Q;exact step m _ s h (λm' s' h' ax mq=>ih omQ mq) hi
theorem qW {c:CV} {f:AV} {as:List AV} {K:AV→AH→R} (w:wp (c f as h) Q') (hk:∀v h',Q' v h'→wp (K v h') Q):wp (zS c f as h K) Q:=by obtain⟨v,h',e,q⟩:=w;rw[JO,e];exact hk v h' q
theorem qg8 {tab:BT} {rt:List RT} {n:Nat} {f:FuncId} {as:List AV} {g:WF} (hg:tab.get f=some g):callT tab rt (n+1) (.fn f [] []) as h=g (callT tab rt n) as h:=by simp_all[R,callT,List.nil_append,List.append_nil]
theorem qku {tab:BT} {rt:List RT} {n:Nat} {f:FuncId} {a1 a2 as:List AV} {g:WF} (hg:tab.get f=some g):callT tab rt (n+1) (.fn f a1 a2) as h=g (callT tab rt n) (a1++as++a2) h:=by simp_all[R,callT]
end Go.Ae
namespace Go.Ae
open Go
def ki (z:Nat) (c:CV):CV:=λv as h=>match v,as with
 | .fn f [] [],[]=>if f=z then some (.bool true,h)else c v as h
 |_,_=>c v as h
theorem qzc {z:Nat} {c:CV} {h:AH}:ki z c (.fn z [] []) [] h=some (.bool true,h):=iJ rfl
theorem qVI {z f:Nat} {c:CV} {as:List AV} {h:AH} (hf:f≠z):ki z c (.fn f [] []) as h=c (.fn f [] []) as h:=by
 cases as with
 |nil=>exact iQ hf
 |cons a as=>rfl
theorem qA {tab:BT} {rt:List RT} {n:Nat} {f:FuncId} {as:List AV} {g:WF} {h:AH} {Q:AV→AH→Prop} (hg:tab.get f=some g) (hn:1≤n) (w:∀k,n=k+1→wp (g (callT tab rt k) as h) Q):wp (callT tab rt n (.fn f [] []) as h) Q:=by obtain⟨k,rfl⟩:∃k,n=k+1:=⟨n-1,by omega⟩;rw[qg8 hg];exact w k rfl
theorem jX2 {tab:BT} {rt:List RT} {n:Nat} {f:FuncId} {a1 a2 as:List AV} {g:WF} {h:AH} {Q:AV→AH→Prop} (hg:tab.get f=some g) (hn:1≤n) (w:∀k,n=k+1→wp (g (callT tab rt k) (a1++as++a2) h) Q):wp (callT tab rt n (.fn f a1 a2) as h) Q:=by obtain⟨k,rfl⟩:∃k,n=k+1:=⟨n-1,by omega⟩;rw[qku hg];exact w k rfl
theorem yD {z:Nat} {c:CV} {f:FuncId} {as:List AV} {h:AH} {Q Q':AV→AH→Prop} {K:AV→AH→R} (hf:f≠z) (w:wp (c (.fn f [] []) as h) Q') (hk:∀v h',Q' v h'→wp (K v h') Q):wp (zS (ki z c) (.fn f [] []) as h K) Q :=
 qW (by rw[qVI hf];exact w) hk
theorem jK4 {z:Nat} {c:CV} {h:AH} {Q:AV→AH→Prop} {K:AV→AH→R} (hk:wp (K (.bool true) h) Q):wp (zS (ki z c) (.fn z [] []) [] h K) Q :=
 qW (Q':=λv h'=>v=.bool true∧h'=h) ⟨_,_,qzc,rfl,rfl⟩ (by rintro v h' ⟨rfl,rfl⟩;exact hk)
theorem GJ {P:Program} {m:Mp} {D:Nat→Prop} {h:AH} {w w':World} (R:Rel P m D h w) (B:RowKit.Below w.heap.size w w'):Ext m D h w m D h w'∧Rel P m D h w':=by
 refine Ext.rel R ?_;refine⟨⟨λ_ x=>x,λ_ _=>rfl,B.size,λc hc hn=>⟨B.block c hc,hn⟩,Nat.le_refl _,λ_ _ hn=>⟨rfl,hn⟩,B.os,B.tape,B.output,λb=>⟨.inl,λhb=>hb.elim id λhb=>by omega⟩,λ_ _ h1 h2=>⟨h1,h2⟩⟩,?_,R.inj,R.lt,R.dv⟩;intro b hb;obtain⟨x,hx,hr,hd⟩:=R.bG b hb;refine⟨x,hx,?_,hd⟩;cases x with
 |dead=>trivial
 |dv t=>exact hr.congr (λ_ _=>rfl) hd (B.block _ hr.lg)
 |_=>exact hr.congr (λ_ _=>rfl) hd (B.block _ (dE.inside (by trivial) hr))
theorem qVD {P:Program} {c:CV} (hc:vJ P c) {z:Nat} (BP:∀(as:Array Value) (W:World),(callFunc z as).run P W=.ok (.enter z as) W)
  (dy:∀(w:World) (n:Nat),Gl P w→CallsIn Fence.wide n P z #[] w λe w'=>e=.returned (.bool true)∧RowKit.Below w.heap.size w w'):vJ P (ki z c):=by
 intro vf as h r e m D w R hv ha;unfold ki at e
 split at e
 ·rename_i f
  split at e
  ·rename_i hf;subst hf;cases e;refine⟨BP,λn=>CallsIn.mono (dy w n R.gl.gl) ?_⟩;rintro ee w' ⟨rfl,B⟩;obtain⟨X,R'⟩:=GJ R B;exact⟨m,D,rfl,X,R',trivial⟩
  ·exact hc _ _ _ _ e m D w R hv ha
 ·exact hc _ _ _ _ e m D w R hv ha
theorem open_law {P:Program} {tab:BT} {rt:List RT} (hm:P.follows .mixedOrders=true) (ht:TabOk P tab rt) {z:Nat} {gz:WF} (hz:tab.get z=some gz)
  (dy:∀(w:World) (n:Nat),Gl P w→CallsIn Fence.wide n P z #[] w λe w'=>e=.returned (.bool true)∧RowKit.Below w.heap.size w w')
  {f:FuncId} {g:WF} (hg:tab.get f=some g) {k:Nat} {as:List AV} {w:World} {h:AH} (M:QN w h) (BQ:Gl P w) (ha:bm (gU w) as)
  (e:wp (g (ki z (callT tab rt k)) as h) λv _=>v=.bool true) (n:Nat):CallsIn Fence.wide n P f (bj UH as).toArray w λe w'=>e=.returned (.bool true)∧RowKit.Below w.heap.size w w':=by
 obtain⟨v,h',e,rfl⟩:=e;have hc:=qVD (qJ5 hm ht k) (ht.enter z gz hz) dy;refine CallsIn.mono ((ht.w f g hg).call hc (qW6 hm hc) e (M.rel BQ) ha n) ?_;rintro ee w' ⟨m',D',rfl,X,R',_⟩;exact⟨rfl,X.os,X.tape,X.output,X.size,λk hk=>(X.keep k hk (λ⟨b,hb,hl,_⟩=>M.mM hb hl)).1⟩
theorem RA {P:Program} {h:AH} {d:Nat} {t0 t1 t2 t3:TypeId} {l:List AV} (H:I4 P h d [t0,t1,t2,t3] l):∃a0 a1 a2 a3,l=[a0,a1,a2,a3]∧AQ P h d t0 a0∧AQ P h d t1 a1∧AQ P h d t2 a2∧AQ P h d t3 a3:=by
 cases l with
 |nil=>trivial
 |cons a0 l=>
 obtain⟨h0,H⟩:=H;cases l with
 |nil=>trivial
 |cons a1 l=>
 obtain⟨h1,H⟩:=H;cases l with
 |nil=>trivial
 |cons a2 l=>
 obtain⟨h2,H⟩:=H;cases l with
 |nil=>trivial
 |cons a3 l=>
 obtain⟨h3,H⟩:=H;cases l with
 |cons _ _=>trivial
 |nil=>grind
end Go.Ae
namespace Go.Ae
open Go
variable {Q:AV→AH→Prop} {h h' pS:AH} {K:AV→R} {K2:AV→AH→R} {K1:AH→R} {b off n sz:Nat} {xs ys l:List AV} {e:TypeId} {o:Bool} {x v:AV} {k:IntKind}
def CT.full:CT→Prop
 | .fj _=>True
 | .tree n z tr=>∀i,i<n→∃v,Ji z tr i=some v
theorem CT.rj {c:CT} (hc:c.full) (i:Nat):c.fk i=c.toList[i]?:=by
 cases c with
 |fj xs=>exact ya xs i
 |tree n z tr=>
  simp only[CT.fk,CT.toList,List.getElem?_map];cases hb:Nat.ble (i+1) n
  ·have:=U4 hb;grind
  ·have:=wA hb;obtain⟨v,hv⟩:=hc i omQ;rw[cond_true,List.getElem?_range omQ,hv];simp_all[Option.map_some,Gz]
theorem qKd {z:List AV} {t:aQ AV}:∀{l:List AV} {i:Nat},(∀k,k<l.length→Ji z t (i+k)=l[k]?)→XO z t i l.length=some l:=by
 intro l
 induction l with
 |nil=>intro i _;rfl
 |cons a l ih=>intro i H;rw[List.length_cons,Z1];have h0:=H 0 aW;simp only[Nat.add_zero,List.getElem?_cons_zero]at h0;rw[h0,Option.bind_some,ih (i:=i+1) (λk hk=>by have:=H (k+1) (by grind);grind)];rfl
theorem NM {t:aQ AV} {i:Nat}:Ji [] t i=aQ.get t i:=by
 grind[vm,Mm]
theorem Ga {α:Type} {xs l:List α} {off:Nat} (H:∀i,i<l.length→xs[off+i]? =l[i]?):(xs.drop off).take l.length=l:=by
 apply List.ext_getElem?;grind
theorem Gq (hl:0<l.length) (H:∀i,i<l.length→h.at b (off+i)=l[i]?):vv h b off l.length=some l:=by
 have hd:∀i,i<l.length→∃u,l[i]? =some u:=λi hi=>⟨_,iW hi⟩;have cu:=H (l.length-1) omQ;obtain⟨u,hu⟩:=hd (l.length-1) omQ;unfold AH.at at H cu;unfold vv;cases hg:h.get b with
 |none=>grind
 |some x=>
  simp only[hg]at H cu;cases x with
  |cells c e o=>
   simp only at H cu ⊢;cases c with
   |fj ys=>simp only[CT.fk,ya]at H cu;grind[CT.lr,Qy,List.getElem?_eq_some_iff,w6,Ga]
   |tree m z tr=>
    simp only[CT.fk]at H cu;have hm:off+l.length≤m:=by
     rw[hu]at cu;cases hb:Nat.ble (off+(l.length-1)+1) m
     ·grind
     simp_all;omega
    simp only[CT.lr];rw[show Nat.beq l.length 0=false from vC omQ,cond_false,iY hm,cond_true];refine qKd λk hk=>?_;grind
  |dv t=>grind[qKd,NM]
  |_=>grind
theorem Xy (hx:h.at b off=some x) (w:wp (K x) Q):wp (ji h (.ptr b off) K) Q:=by
 unfold AH.at at hx;rw[gS];simp only
 split at hx
 ·rename_i hg;rw[hg];simp only[hx,ob];exact w
 ·rename_i hg;rw[hg];simp only[hx,ob];exact w
 ·cases hx
theorem qZc (hl:l.length=n) (hn:0<n) (H:∀i,i<n→h.at b (off+i)=l[i]?) (w:wp (K (.agg l)) Q):wp (zp h (.ptr b off) n K) Q:=by subst hl;rw[kU];simp only[Gq hn H,ob];exact w
structure Fr (fp:Nat→Prop) (h h':AH):Prop where
  nx:h.nx≤h'.nx
  get:∀b,b<h.nx→¬fp b→h'.get b=h.get b
theorem Fr.refl (fp:Nat→Prop) (h:AH):Fr fp h h:=⟨Nat.le_refl _,λ_ _ _=>rfl⟩
theorem Fr.mono {fp fq:Nat→Prop} (F:Fr fp h h') (H:∀b,b<h.nx→fp b→fq b):Fr fq h h':=⟨F.nx,λb hb hn=>F.get b hb λhf=>hn (H b hb hf)⟩
theorem Fr.trans {fp fq:Nat→Prop} (F:Fr fp h h') (G:Fr fq h' pS):Fr (λb=>fp b∨fq b) h pS :=
 ⟨Nat.le_trans F.nx G.nx,λb hb hn=>(G.get b (Nat.lt_of_lt_of_le hb F.nx) λhf=>hn (.inr hf)).trans (F.get b hb λhf=>hn (.inl hf))⟩
abbrev rM (N:Nat) (h h':AH):Prop:=Fr (λb=>N≤b) h h'
theorem rM.refl (N:Nat) (h:AH):rM N h h:=Fr.refl _ _
theorem rM.step {N:Nat} {fp:Nat→Prop} (F:rM N h h') (G:Fr fp h' pS) (H:∀b,fp b→N≤b):rM N h pS :=
 (F.trans G).mono λb _ hb=>hb.elim id (H b)
structure Row (h:AH) (b:Nat) (xs:List AV) (e:TypeId) (o:Bool):Prop where
  lt:b<h.nx
  bG:∃c,h.get b=some (.cells c e o)∧c.toList=xs∧c.full
theorem Row.fr {fp:Nat→Prop} (A:Row h b xs e o) (F:Fr fp h h') (hb:¬fp b):Row h' b xs e o :=
 ⟨Nat.lt_of_lt_of_le A.lt F.nx,by rw[F.get b A.lt hb];exact A.bG⟩
theorem Row.at (A:Row h b xs e o) (i:Nat):h.at b i=xs[i]?:=by
 obtain⟨c,h1,rfl,h3⟩:=A.bG;grind[AH.at,CT.rj]
theorem jX5 {fp:Nat→Prop} {i:Nat} (F:Fr fp h h') (hb:b<h.nx) (hf:¬fp b):h'.at b i=h.at b i:=by unfold AH.at;rw[F.get b hb hf]
theorem CT.bI (xs:List AV):(CT.ofList xs).full:=by
 unfold CT.ofList;cases Nat.ble xs.length 16
 ·intro i hi;simp_all[NM,QJ,omQ,Nat.sub_zero]
 trivial
theorem CT.sS (z:List AV) (n:Nat):(CT.CN z n).full:=by
 unfold CT.CN;cases hb:Nat.ble (z.length*n) 16
 ·intro i hi;have h1:=U4 hb;have hz:0<z.length:=Nat.pos_of_ne_zero λh0=>by grind
  have hm:=Nat.mod_lt i hz;refine⟨z[i%z.length],?_⟩;rw[vm,show aQ.get (PT.e:aQ AV) i=none from aQ.fK i];simp[ya]
 trivial
theorem Zo {z:List AV} {t:aQ AV} {i:Nat} {xs:List AV} {j:Nat}:Ji z (An t i xs) j=if i≤j∧j<i+xs.length then xs[j-i]? else Ji z t j:=by
 rw[vm,vm,QJ];grind
theorem CT.oM {c c':CT} (hc:c.full) (e:c.write off xs=some c'):c'.full:=by
 cases c with
 |fj ys=>simp only[CT.write,Option.bind_eq_some_iff]at e;obtain⟨s,_,e⟩:=e;cases e;trivial
 |tree n z tr=>
  simp only[CT.write,jC]at e;obtain⟨_,e⟩:=e;cases e;intro i hi;rw[Zo];by_cases hj:off≤i∧i<off+xs.length
  ·rw[iJ hj];exact⟨_,iW omQ⟩
  ·rw[iQ hj];exact hc i hi
theorem CT.oN {c:CT} (ho:off+xs.length≤c.toList.length):∃c',c.write off xs=some c':=by
 cases c with
 |fj ys=>exact⟨_,by simp only[CT.write];rw[U2 (show off+xs.length≤ys.length from ho)];rfl⟩
 |tree n z tr=>simp_all[CT.write,iY,CT.toList,cond_true]
theorem CT.sU {c:CT} (hc:c.full) (xs:List AV):(c.lf xs).full:=by
 cases c with
 |fj ys=>exact CT.bI _
 |tree n z tr=>
  intro i hi;rw[Zo];by_cases hj:n≤i∧i<n+xs.length
  ·rw[iJ hj];exact⟨_,iW omQ⟩
  ·rw[iQ hj];exact hc i omQ
theorem CT.sV {c:CT} (hc:c.full) (hn:n≤c.toList.length):∃c',c.pre n=some c'∧c'.toList=c.toList.take n∧c'.full:=by
 have key:∃c',c.pre n=some c'∧c'.full:=by
  cases c with
  |fj ys=>exact⟨.fj (ys.take n),by simp only[CT.pre];rw[w6 (show n≤ys.length from hn)];rfl,trivial⟩
  |tree m z tr=>
   have hm:n≤m:=by grind[CT.toList]
   exact⟨.tree n z tr,by simp_all[CT.pre,iY,cond_true],λi hi=>hc i omQ⟩
 obtain⟨c',h1,h2⟩:=key;have h3:=CT.oC h1;grind[w6,Option.some.inj]
def Jz (xs:List AV) (off:Nat) (ys:List AV):List AV:=xs.take off++ys++xs.drop (off+ys.length)
theorem Ux (ho:off+ys.length≤xs.length):(Jz xs off ys).length=xs.length:=by grind[Jz]
theorem qz8 (ho:off+ys.length≤xs.length) (i:Nat):(Jz xs off ys)[i]? =if off≤i∧i<off+ys.length then ys[i-off]? else xs[i]?:=by
 unfold Jz;by_cases h1:i<off
 ·grind
 grind
theorem UA {y:AV} (ho:off<xs.length):Jz xs off [y]=xs.set off y:=by
 apply List.ext_getElem?;intro i;rw[qz8 (by grind),List.getElem?_set];grind
theorem Vk (A:Row h b xs e o) (ho:off+ys.length≤xs.length) (h1:qt ys=true):∃h',kX h b off ys=some h'∧Row h' b (Jz xs off ys) e o∧Fr (λa=>a=b) h h'∧h'.nx=h.nx:=by obtain⟨c,g1,rfl,g3⟩:=A.bG;obtain⟨c',bH⟩:=CT.oN (c:=c) ho;have h2:=CT.nz bH;rw[U2 ho]at h2;refine⟨h.put b (.cells c' e o),?_,⟨A.lt,c',AH.bi ..,(Option.some.inj h2).symm,CT.oM g3 bH⟩,⟨Nat.le_refl _,λa _ hn=>AH.bE h _ (λe=>hn e.symm)⟩,rfl⟩;simp_all[kX,cond_true,Option.bind_some]
theorem qX2 (A:Row h b xs e o) (hn:x.cells.length=n) (ho:off+n≤xs.length) (h1:qt x.cells=true)
  (w:∀h',Row h' b (Jz xs off x.cells) e o→Fr (λa=>a=b) h h'→h'.nx=h.nx→wp (K1 h') Q):wp (zV h (.ptr b off) x n K1) Q:=by
 subst hn;obtain⟨h',g1,g2,g3,g4⟩:=Vk A ho h1;rw[Ut];simp only[Nat.beq_refl,cond_true,g1,ob];exact w h' g2 g3 g4
theorem Row.new {c:CT} (hc:c.full):Row (h.new (.cells c e o)) h.nx c.toList e o∧Fr (λ_=>False) h (h.new (.cells c e o)) :=
 ⟨⟨by simp,c,AH.bF ..,rfl,hc⟩,⟨by simp,λb hb _=>AH.cg h _ omQ⟩⟩
theorem jKS (h1:qt x.cells=true) (w:∀b h',h.nx≤b→Row h' b x.cells e false→Fr (λ_=>False) h h'→wp (K2 (.ptr b 0) h') Q):wp (w5 h e x K2) Q:=by unfold w5;rw[h1,cond_true];obtain⟨a1,a2⟩:=Row.new (h:=h) (e:=e) (o:=false) (CT.bI x.cells);rw[CT.aP]at a1;exact w h.nx _ (Nat.le_refl _) a1 a2
theorem qI {z:List AV} {vs:List (Nat×Nat×AV)} (hf:vL z vs=some l) (w:wp (K (.agg l)) Q):wp (yi z vs K) Q:=by unfold yi;rw[hf];exact w
theorem qqr {z:List AV} {vs:List (Nat×Nat×AV)} (hf:vL (gH z n) vs=some l) (h1:qt l=true)
  (w:∀b h',h.nx≤b→Row h' b l e false→Fr (λ_=>False) h h'→wp (K2 (.slice b 0 n n false) h') Q):wp (xL h e z n vs K2) Q:=by
 unfold xL;simp only[hf,ob,h1,cond_true];obtain⟨a1,a2⟩:=Row.new (h:=h) (e:=e) (o:=false) (CT.bI l);rw[CT.aP]at a1;exact w h.nx _ (Nat.le_refl _) a1 a2
theorem qZS (z:AV):∀n,gH [z] n=List.replicate n z:=by
 intro n
 induction n with
 |zero=>rfl
 |succ n ih=>rw[gH,ih,List.replicate_succ];rfl
theorem qYF {z:List AV} {ln cp:Nat} {k1 k2:IntKind} (h1:ln≤cp) (h2:cp≤1073741824)
  (w:∀b h',h.nx≤b→Row h' b (gH z cp) e false→Fr (λ_=>False) h h'→wp (K2 (.slice b 0 ln cp false) h') Q):wp (JY h e z (.int k1 (ln:Int)) (.int k2 (cp:Int)) K2) Q:=by
 show wp (bif Nat.ble ln cp&&Nat.ble cp 1073741824 then K2 (.slice h.nx 0 ln cp false) (h.new (.cells (CT.CN z cp) e false))else none) Q;rw[iY h1,iY h2];obtain⟨a1,a2⟩:=Row.new (h:=h) (e:=e) (o:=false) (CT.sS z cp);rw[CT.oB]at a1;exact w h.nx _ (Nat.le_refl _) a1 a2
theorem qo {f:Nat} (w:wp (K (.ptr b (off+f))) Q):wp (jJ (.ptr b off) f K) Q:=w
theorem UM {cp i:Nat} (hi:i<n) (w:wp (K (.ptr b (off+i*sz))) Q):wp (w4 (.slice b off n cp o) (.int k (i:Int)) sz K) Q:=by rw[Mj];show wp (bif Nat.ble (i+1) n then K (.ptr b (off+i*sz))else none) Q;rw[iY hi,cond_true];exact w
theorem qy {i:Nat} (hx:l[i]? =some x) (w:wp (K x) Q):wp (xC (.cn l) i K) Q:=by rw[YY];simp only[ya,hx,ob];exact w
def AH.rd (h:AH) (b:Nat):Prop:=match h.get b with
 |some (.cells _ _ _)=>True
 |some (.dv _)=>True
 |_=>False
theorem jXo {fp:Nat→Prop} (F:Fr fp h h') (hb:b<h.nx) (hf:¬fp b) (hr:h.rd b):h'.rd b:=by unfold AH.rd at*;rw[F.get b hb hf];grind
theorem Row.rd (A:Row h b xs e o):h.rd b:=by obtain⟨c,h1,_⟩:=A.bG;grind[AH.rd]
inductive Sl (D:Nat→Prop) (h:AH) (sz:Nat):Nat→AV→List AV→Prop
  |ap:Sl D h sz 0 .ap []
  |cA (a:Addr):Sl D h sz 0 (.cA a) []
  |tail (b off pO i1:Nat):Sl D h sz 0 (.tail b off pO i1) []
  |mk {b off n cp:Nat} {o:Bool} {xs:List AV} (hd:D b) (hb:b<h.nx) (hr:h.rd b) (hl:xs.length=n*sz) (ha:∀i,i<n*sz→h.at b (off+i)=xs[i]?):Sl D h sz n (.slice b off n cp o) xs
theorem Sl.len {D:Nat→Prop} (S:Sl D h sz n v xs):xs.length=n*sz:=by
 cases S with
 |ap=>simp
 |cA a=>simp
 |tail b o o' i=>simp
 |mk hd hb hr hl ha=>grind
theorem Sl.fr {D fp:Nat→Prop} (S:Sl D h sz n v xs) (F:Fr fp h h') (hD:∀b,D b→¬fp b):Sl D h' sz n v xs:=by
 cases S with
 |ap=>exact .ap
 |cA a=>exact .cA a
 |tail b o o' i=>exact .tail b o o' i
 |mk hd hb hr hl ha=>exact .mk hd (Nat.lt_of_lt_of_le hb F.nx) (jXo F hb (hD _ hd) hr) hl λi hi=>by grind[jX5]
theorem Sl.mono {D D':Nat→Prop} (S:Sl D h sz n v xs) (hD:∀b,D b→D' b):Sl D' h sz n v xs:=by
 cases S with
 |ap=>exact .ap
 |cA a=>exact .cA a
 |tail b o o' i=>exact .tail b o o' i
 |mk hd hb hr hl ha=>exact .mk (hD _ hd) hb hr hl ha
theorem Sl.cD {D:Nat→Prop} (S:Sl D h sz n v xs) (F:rM h.nx h h'):Sl D h' sz n v xs:=by
 cases S with
 |ap=>exact .ap
 |cA a=>exact .cA a
 |tail b o o' i=>exact .tail b o o' i
 |mk hd hb hr hl ha=>exact .mk hd (Nat.lt_of_lt_of_le hb F.nx) (jXo F hb omQ hr) hl λi hi=>by rw[jX5 F hb omQ];grind
theorem Row.cD {N:Nat} (A:Row h b xs e o) (F:rM N h h') (hb:b<N):Row h' b xs e o:=A.fr F omQ
theorem yy {D:Nat→Prop} (S:Sl D h sz n v xs) (w:wp (K (.int .i64 (n:Int))) Q):wp (Qb v K) Q:=by
 cases S<;>exact w
theorem I6 {D:Nat→Prop} {i:Nat} (S:Sl D h sz n v xs) (hi:i<n) (w:∀b off,b<h.nx→D b→(∀j,j<sz→h.at b (off+j)=xs[i*sz+j]?)→wp (K (.ptr b off)) Q):wp (w4 v (.int k (i:Int)) sz K) Q:=by
 cases S with
 |ap=>omega
 |cA a=>omega
 |tail b o o' i=>omega
 |mk hd hb hr hl ha=>
  refine UM hi (w _ _ hb hd λj hj=>?_)
  rw[Nat.add_assoc,ha _ (by
   have:i*sz+sz≤n*sz:=by rw[← Nat.succ_mul];exact Nat.mul_le_mul_right sz hi
   omega)]
theorem Sl.uF {D:Nat→Prop} {cp:Nat} (A:Row h b xs e o) (hd:D b) (ho:xs.length=n*sz):Sl D h sz n (.slice b 0 n cp o) xs :=
 .mk hd A.lt A.rd ho λi _=>by rw[A.at,Nat.zero_add]
theorem gO {y d i:Nat} (hi:i≤y):gQ (some (.int k (i:Int))) y d=some i:=by show(bif Nat.ble i y then some i else none)=some i;rw[iY hi];rfl
theorem RC {el cp lo hi:Nat} {EZ E0:Option AV} (hh:gQ E0 cp n=some hi) (hl:gQ EZ hi 0=some lo) (w:wp (K (.slice b (bif Nat.beq cp lo then off else off+lo*sz) (hi-lo) (cp-lo) false)) Q):wp (yh h el sz (.slice b off n cp false) EZ E0 K) Q:=by unfold yh;simp only[hh,hl,ob];exact w
theorem RD {i0 lo hi:Nat} {EZ E0:Option AV} (A:Row h b xs e true) (bP:0<sz) (ho:off=i0*sz) (hx:off+n*sz≤xs.length) (hh:gQ E0 n n=some hi) (hl:gQ EZ hi 0=some lo) (ax:lo<n∨lo=0)
  (w:wp (K (.slice b (off+lo*sz) (hi-lo) (i0+lo) true)) Q):wp (yh h e sz (.slice b off n i0 true) EZ E0 K) Q:=by
 obtain⟨c,g1,g2,g3⟩:=A.bG;unfold yh;have hf:vo h e b off sz i0 n=true:=by unfold vo;rw[g1];simp only[Nat.beq_refl,Bool.true_and,Bool.and_eq_true];refine⟨iY bP,by simp_all,iY ?_⟩;grind[CT.dR]
 simp only[hf,cond_true,hh,hl,ob];by_cases h0:lo=0
 ·subst h0;simpa using w
 ·rw[show Nat.beq lo 0=false from vC h0,cond_false,iY (show lo+1≤n by omega),cond_true];exact w
def shut:AV→Bool
 | .slice _ _ _ _ o=>!o
 | .tail _ _ _ _=>false
 |_=>true
theorem qw0 {D:Nat→Prop} (S:Sl D h sz n v xs):Ue v=some n:=by cases S<;>rfl
theorem CT.BR {c:CT} {ys:List AV} (H:∀i,i<ys.length→c.fk i=ys[i]?):∃c',c.pre ys.length=some c'∧c'.toList=ys∧c'.full:=by
 by_cases h0:ys.length=0
 ·have:=iA h0;subst this;cases c with
  |fj xs=>exact⟨.fj [],rfl,rfl,trivial⟩
  |tree m z tr=>exact⟨.tree 0 z tr,by rfl,rfl,λi hi=>by omega⟩
 ·have cu:=H (ys.length-1) omQ;rw[iW omQ]at cu;cases c with
  |fj xs=>simp only[CT.fk,ya]at H cu;have hl:=(List.getElem?_eq_some_iff.1 cu).1;refine⟨.fj (xs.take ys.length),by simp only[CT.pre];rw[w6 omQ];rfl,?_,trivial⟩;have:=Ga (xs:=xs) (l:=ys) (off:=0) (λi hi=>by grind);trivial
  |tree m z tr=>
   simp only[CT.fk]at H cu;have hm:ys.length≤m:=by
    grind[Nat.ble,wA]
   have ht:∀i,i<ys.length→Ji z tr i=ys[i]?:=λi hi=>by
    grind
   refine⟨.tree ys.length z tr,by simp_all[CT.pre,iY,cond_true],?_,λi hi=>⟨_,(ht i hi).trans (iW hi)⟩⟩;apply List.ext_getElem?;intro i;simp only[CT.toList,List.getElem?_map];by_cases hi:i<ys.length
   all_goals simp_all[Option.map_some,Gz]
theorem qzU {D:Nat→Prop} (S:Sl D h sz n v ys):∃nc,Nb h sz n v=some nc∧nc.toList=ys∧nc.full:=by
 cases S with
 |ap=>exact⟨_,rfl,rfl,trivial⟩
 |cA a=>exact⟨_,rfl,rfl,trivial⟩
 |tail b o o' i=>exact⟨_,rfl,rfl,trivial⟩
 |mk hd hb hr hl ha=>
  rename_i b off cp o;have nO:0<ys.length→vv h b off ys.length=some ys:=λh0=>Gq h0 λi hi=>ha i omQ;unfold Nb;simp only[← hl];unfold AH.rd at hr;unfold AH.at at ha;unfold vv at nO
  split at hr
  ·rename_i c e' o' hg;simp only[hg]at ha nO ⊢;unfold CT.Il;by_cases h0:off=0
   ·subst h0;rw[Nat.beq_refl,cond_true];obtain⟨c',h1,h2,h3⟩:=CT.BR (c:=c) (ys:=ys) λi hi=>by grind
    grind
   ·rw[show Nat.beq off 0=false from vC h0,cond_false];by_cases hy:0<ys.length
    ·rw[nO hy];exact⟨_,rfl,CT.aP ys,CT.bI ys⟩
    ·have:=iA (show ys.length=0 by omega);subst this;refine⟨CT.ofList [],?_,CT.aP [],CT.bI []⟩;cases c<;>rfl
  ·rename_i t hg;simp only[hg]at nO ⊢;by_cases hy:0<ys.length
   ·rw[nO hy];exact⟨_,rfl,CT.aP ys,CT.bI ys⟩
   ·have:=iA (show ys.length=0 by omega);subst this;exact⟨CT.ofList [],rfl,CT.aP [],CT.bI []⟩
  grind
def Acc (D:Nat→Prop) (h:AH) (e:TypeId) (sz n:Nat) (v:AV) (xs:List AV):Prop :=
 xs.length=n*sz∧(v=.ap∧n=0∨∃b,v=.slice b 0 n 0 true∧D b∧Row h b xs e true)
theorem Acc.ap {D:Nat→Prop}:Acc D h e sz 0 .ap []:=⟨by simp,.inl ⟨rfl,rfl⟩⟩
theorem Acc.sl {D:Nat→Prop} (A:Acc D h e sz n v xs):Sl D h sz n v xs:=by
 obtain⟨h1,⟨rfl,rfl⟩ |⟨b,rfl,h2,h3⟩⟩:=A
 ·obtain rfl:xs=[]:=iA (by grind);exact .ap
 ·exact .uF h3 h2 h1
theorem Acc.fr {D fp:Nat→Prop} (A:Acc D h e sz n v xs) (F:Fr fp h h') (hD:∀b,D b→¬fp b):Acc D h' e sz n v xs:=by
 obtain⟨h1,h2 |⟨b,rfl,h2,h3⟩⟩:=A
 ·exact⟨h1,.inl h2⟩
 ·exact⟨h1,.inr ⟨b,rfl,h2,h3.fr F (hD b h2)⟩⟩
theorem Acc.mono {D D':Nat→Prop} (A:Acc D h e sz n v xs) (hD:∀b,D b→D' b):Acc D' h e sz n v xs:=by
 obtain⟨h1,h2 |⟨b,rfl,h2,h3⟩⟩:=A
 ·exact⟨h1,.inl h2⟩
 ·exact⟨h1,.inr ⟨b,rfl,hD b h2,h3⟩⟩
end Go.Ae
namespace Go.Ae
open Go
variable {h:AH} {n sz:Nat} {xs:List AV}
theorem qG {b o:Nat} {K:AV→R} {Q:AV→AH→Prop} (w:wp (K (.ptr b o)) Q):wp (yB (.ptr b o) K) Q:=w
theorem zY {D:Nat→Prop} {v x:AV} {i:Nat} {k:IntKind} {K:AV→R} {Q:AV→AH→Prop} (S:Sl D h 1 n v xs) (hx:xs[i]? =some x) (w:wp (K x) Q):wp (w4 v (.int k (i:Int)) 1 λp=>ji h p K) Q:=by
 have hi:i<n:=by have:=(List.getElem?_eq_some_iff.1 hx).1;have:=S.len;omega
 refine I6 S hi λb off _ _ H=>Xy ?_ w;grind
theorem yo {D:Nat→Prop} {v x:AV} {i f:Nat} {k:IntKind} {K:AV→R} {Q:AV→AH→Prop} (S:Sl D h sz n v xs) (hf:f<sz) (hi:i<n) (hx:xs[i*sz+f]? =some x) (w:wp (K x) Q):wp (w4 v (.int k (i:Int)) sz λp=>jJ p f λq=>ji h q K) Q:=by refine I6 S hi λb off _ _ H=>qo (Xy ?_ w);grind
theorem xQ {D:Nat→Prop} {v:AV} {i:Nat} {l:List AV} {k:IntKind} {K:AV→R} {Q:AV→AH→Prop} (S:Sl D h sz n v xs) (hi:i<n) (h0:0<sz) (hl:(xs.drop (i*sz)).take sz=l) (w:wp (K (.agg l)) Q):wp (w4 v (.int k (i:Int)) sz λp=>zp h p sz K) Q:=by
 have hle:i*sz+sz≤n*sz:=by rw[← Nat.succ_mul];exact Nat.mul_le_mul_right sz hi
 have uu:=S.len;refine I6 S hi λb off _ _ H=>qZc (l:=l) (by grind) h0 (λj hj=>?_) w;grind
theorem qxp (a:Int):nr a a=true:=by simp[Nk]
theorem qwc (a:List UInt8):lu a a=true:=by simp[li]
mutual
theorem Q9:∀v:AV,gM v v=true
 | .bool b=>by simp[gM]
 | .int k n=>by simp[gM,qxp]
 | .str s=>by simp[gM,qwc]
 | .ptr b o=>by simp[gM,Nat.beq_refl]
 | .ba=>rfl
 | .slice b o l c p=>by simp[gM,Nat.beq_refl]
 | .ap=>rfl
 | .fn f a c=>by simp[gM,Nat.beq_refl,JW a,JW c]
 | .yield l=>by simp[gM,Nat.beq_refl]
 | .eG=>rfl
 | .iface t v=>by simp[gM,Nat.beq_refl,Q9 v]
 | .dt=>rfl
 | .agg l=>by simp[gM,JW l]
 | .cn l=>by simp[gM,JW l]
 | .cA a=>by simp[gM]
 | .eV _=>by simp[gM]
 | .tail b o o' i=>by simp[gM,Nat.beq_refl]
theorem JW:∀l:List AV,K7 l l=true
 |[]=>rfl
 |a::r=>by simp[K7,Q9 a,JW r]
end
theorem qxU {b off:Nat} {x:AV} (hx:h.at b off=some x):xv (.ptr b off) none x h=true:=by
 grind[AH.at,xv,Q9]
theorem qxm {b off n:Nat} {l:List AV} (hl:l.length=n) (h0:0<n) (H:∀i,i<n→h.at b (off+i)=l[i]?):xv (.ptr b off) (some n) (.agg l) h=true:=by
 subst hl;have:=Gq h0 H;grind[vv,xv,Q9]
theorem qkT {a v:AV} {N nx:Nat} {hb ha:AH}:rY a (some N) v hb ha nx=(xv a (some N) v hb&&(xv a (some N) v ha&&DU a nx)):=by cases a<;>rfl
theorem qYL {hb ha:AH} {b off nx:Nat} {x:AV} {K:R} {Q:AV→AH→Prop} (h1:hb.at b off=some x) (h2:ha.at b off=some x) (ax:b<nx) (w:wp K Q):wp (Xz (.ptr b off) none x hb ha nx K) Q:=by unfold Xz rY;dsimp only;rw[qxU h1,qxU h2,show DU (.ptr b off) nx=true from iY ax];exact w
theorem jQa {hb ha:AH} {b off n nx:Nat} {l:List AV} {K:R} {Q:AV→AH→Prop} (hl:l.length=n) (h0:0<n) (h1:∀i,i<n→hb.at b (off+i)=l[i]?) (h2:∀i,i<n→ha.at b (off+i)=l[i]?) (ax:b<nx) (w:wp K Q) :
  wp (Xz (.ptr b off) (some n) (.agg l) hb ha nx K) Q:=by
 unfold Xz rY;dsimp only;rw[qxm hl h0 h1,qxm hl h0 h2,show DU (.ptr b off) nx=true from iY ax];exact w
def E3 (v:AV) (n:Nat):Prop:=Ue v=some n∧∀s,v≠.str s
theorem Sl.uG {D:Nat→Prop} {v:AV} (S:Sl D h sz n v xs):E3 v n:=by cases S<;>exact⟨rfl,λs hs=>by grind⟩
theorem vG {v:AV} {K:AV→R} {Q:AV→AH→Prop} (H:E3 v n) (w:wp (K (.int .i64 (n:Int))) Q):wp (Qb v K) Q:=by obtain⟨h1,h2⟩:=H;cases v<;>simp only[Ue,reduceCtorEq,Option.some.injEq]at h1<;>subst h1<;>first |exact w |exact absurd rfl (h2 _)
theorem Kn {α:Type} (enc:α→List AV) (he:∀a,(enc a).length=sz):∀l:List α,(l.flatMap enc).length=l.length*sz:=by
 intro l
 induction l with
 |nil=>simp
 |cons a l ih=>grind
theorem Y4 {α:Type} (enc:α→List AV) (he:∀a,(enc a).length=sz):∀(l:List α) (i:Nat),(l.flatMap enc).drop (i*sz)=(l.drop i).flatMap enc:=by
 intro l
 induction l with
 |nil=>simp
 |cons a l ih=>
  intro i;cases i with
  |zero=>simp
  |succ i=>
   rw[List.flatMap_cons,List.drop_succ_cons,← ih i,Nat.add_mul,Nat.one_mul,Nat.add_comm,← List.drop_drop]
   grind
theorem Yf {α:Type} (enc:α→List AV) (he:∀a,(enc a).length=sz) (l:List α) (i j:Nat) (hj:j<sz):(l.flatMap enc)[i*sz+j]? =(l[i]?).bind λa=>(enc a)[j]?:=by
 rw[← List.getElem?_drop,Y4 enc he];cases hl:l[i]? with
 |none=>grind[List.drop_eq_nil_of_le,List.getElem?_eq_none_iff]
 |some a=>obtain⟨hi,e⟩:=List.getElem?_eq_some_iff.1 hl;simp_all[List.drop_eq_getElem_cons,List.flatMap_cons,List.getElem?_append_left]
theorem qXd {α:Type} {Pr:α→Prop} (enc:α→List AV):∀{n:Nat} {xs:List AV},xs.length=n*sz→(∀i,i<n→∃a,Pr a∧(xs.drop (i*sz)).take sz=enc a)→
  ∃l:List α,l.length=n∧(∀a∈l,Pr a)∧xs=l.flatMap enc:=by
 intro n
 induction n with
 |zero=>simp
 |succ n ih=>
  intro xs hl H;obtain⟨a,ha,e⟩:=H 0 omQ;rw[Nat.zero_mul,List.drop_zero]at e;rw[Nat.add_mul,Nat.one_mul]at hl
  obtain⟨l,h1,h2,h3⟩:=ih (xs:=xs.drop sz) (by grind) (λi hi=>by
   obtain⟨b,hb,e⟩:=H (i+1) omQ;refine⟨b,hb,?_⟩
   rw[List.drop_drop,← e,Nat.add_mul,Nat.one_mul,Nat.add_comm])
  refine⟨a::l,by grind,λb hb=>?_,?_⟩
  ·grind
  ·rw[List.flatMap_cons,← e,← h3,List.take_append_drop]
theorem Kf {P:Program} {d:Nat} {t e:TypeId} {v:AV} (hu:P.underlying t=some (.slice e)) (hs:P.cellsOf e=sz) (bP:0<sz) (H:WT P h (d+1) t [v]) :
  ∃n xs,Sl (λb=>b<h.nx) h sz n v xs∧n≤maxLen∧∀i,i<n→WT P h d e ((xs.drop (i*sz)).take sz):=by
 unfold WT at H;simp only[hu]at H;rcases H with h1 |⟨a,h1⟩ |h1 |⟨b,off,len,cap,h1,h2,h3,h4,⟨tt,h5⟩,h6⟩
 ·cases h1;exact⟨0,[],.ap,Nat.zero_le _,λi hi=>by omega⟩
 ·cases h1;exact⟨0,[],.cA a,Nat.zero_le _,λi hi=>by omega⟩
 ·omega
 ·cases h1;rw[hs]at h6;have key:∀k,k<len*sz→∃u,h.at b (off+k)=some u:=by
   intro k hk;have hm:=Nat.mod_lt k bP;obtain⟨row,r1,r2,_⟩:=h6 (k/sz) ((Nat.div_lt_iff_lt_mul bP).2 hk);have:=r2 (k%sz) hm;rw[iW omQ,Nat.add_assoc,Nat.mul_comm,Nat.div_add_mod]at this;grind
  refine⟨len,(List.range (len*sz)).map λk=>(h.at b (off+k)).getD .undef,.mk h4 h4 (by grind[AH.rd]) aW ?_,by omega,?_⟩
  ·grind
  ·intro i hi;obtain⟨row,r1,r2,r3⟩:=h6 i hi;have hle:i*sz+sz≤len*sz:=by rw[← Nat.succ_mul];exact Nat.mul_le_mul_right sz hi
   have:(((List.range (len*sz)).map λk=>(h.at b (off+k)).getD .undef).drop (i*sz)).take sz=row:=by
    apply List.ext_getElem?;intro j;by_cases hj:j<sz
    ·rw[List.getElem?_take_of_lt hj,List.getElem?_drop,List.getElem?_map,List.getElem?_range omQ,Option.map_some,← Nat.add_assoc,r2 j hj,iW omQ];rfl
    grind
   grind
end Go.Ae
namespace Go.Ae
open Go
structure SP where
  p:(Nat→Prop)→AH→Prop
  loc:∀{D:Nat→Prop} {h h':AH},p D h→h.nx≤h'.nx→(∀b,D b→h'.get b=h.get b)→p D h'
def nl:List SP→(Nat→Prop)→AH→Prop
 |[],D,_=>∀b,¬D b
 |P::L,D,h=>∃D1 D2:Nat→Prop,(∀b,D b↔D1 b∨D2 b)∧(∀b,D1 b→¬D2 b)∧P.p D1 h∧nl L D2 h
theorem nl.loc {L:List SP}:∀{D:Nat→Prop} {h h':AH},nl L D h→h.nx≤h'.nx→(∀b,D b→h'.get b=h.get b)→nl L D h':=by
 induction L with
 |nil=>intro D h h' H _ _;exact H
 |cons P L ih=>intro D h h' ⟨D1,D2,e,d,p,r⟩ hn hg;exact⟨D1,D2,e,d,P.loc p hn λb hb=>hg b ((e b).2 (.inl hb)),ih r hn λb hb=>hg b ((e b).2 (.inr hb))⟩
structure HS (g h:AH) (L:List SP):Prop where
  cD:rM g.nx g h
  own:∃D:Nat→Prop,(∀b,D b→g.nx≤b∧b<h.nx)∧nl L D h
variable {g h h':AH} {P P':SP} {L R:List SP}
theorem HS.nx (H:HS g h L):g.nx≤h.nx:=H.cD.nx
theorem HS.act (H:HS g h (P::R)):∃D:Nat→Prop,P.p D h∧(∀b,D b→g.nx≤b∧b<h.nx)∧
  ∀(h':AH) (P':SP) (D':Nat→Prop),Fr D h h'→P'.p D' h'→(∀b,D' b→(D b∨h.nx≤b)∧b<h'.nx)→HS g h' (P'::R):=by
 obtain⟨ho,D0,hb,D1,D2,he,hd,p,r⟩:=H;refine⟨D1,p,λb h1=>hb b ((he b).2 (.inl h1)),λh' P' D' F p' hD'=>?_⟩;have hn:=ho.nx;refine⟨ho.step F λb h1=>(hb b ((he b).2 (.inl h1))).1,λb=>D' b∨D2 b,?_,D',D2,λb=>Iff.rfl,?_,p',?_⟩
 ·rintro b (h1 |h1)
  ·grind
  ·have:=hb b ((he b).2 (.inr h1));have h4:=F.nx;grind
 ·grind
 ·exact r.loc F.nx λb h2=>F.get b (hb b ((he b).2 (.inr h2))).2 λh1=>hd b h1 h2
inductive bp:List SP→SP→List SP→Prop
  |here {P:SP} {R:List SP}:bp (P::R) P R
  |there {Q P:SP} {L R:List SP} (s:bp L P R):bp (Q::L) P (Q::R)
theorem bp.C8 (s:bp L P R):∀{D:Nat→Prop} {h:AH},nl L D h→∃D1 D2:Nat→Prop,(∀b,D b↔D1 b∨D2 b)∧(∀b,D1 b→¬D2 b)∧P.p D1 h∧nl R D2 h:=by
 induction s with
 |here=>exact λH=>H
 |there s ih=>
  rintro D h ⟨D1,D2,e,d,q,r⟩;obtain⟨E1,E2,e',d',p,r'⟩:=ih r;refine⟨E1,λb=>D1 b∨E2 b,λb=>?_,λb h1 h2=>?_,p,D1,E2,λb=>Iff.rfl,λb h1 h2=>d b h1 ((e' b).2 (.inr h2)),q,r'⟩
  all_goals grind
theorem HS.aM (H:HS g h L) (s:bp L P R):HS g h (P::R):=⟨H.cD,H.own.imp λ_ h1=>⟨h1.1,s.C8 h1.2⟩⟩
theorem bp.gib (s:bp L P R):∀{D1 D2:Nat→Prop} {h:AH},(∀b,D1 b→¬D2 b)→P.p D1 h→nl R D2 h→nl L (λb=>D1 b∨D2 b) h:=by
 induction s with
 |here=>exact λ{D1 D2 h} d p r=>⟨D1,D2,λ_=>Iff.rfl,d,p,r⟩
 |there s ih=>
  rintro D1 D2 h d p ⟨E1,E2,e,d',q,r⟩;refine⟨E1,λb=>D1 b∨E2 b,λb=>?_,λb h1 h2=>?_,q,ih (λb h1 h2=>d b h1 ((e b).2 (.inr h2))) p r⟩
  all_goals grind
theorem HS.cG (s:bp L P R) (H:HS g h (P::R)):HS g h L:=by obtain⟨ho,D,hb,D1,D2,e,d,p,r⟩:=H;refine⟨ho,λb=>D1 b∨D2 b,λb h1=>hb b ((e b).2 h1),s.gib d p r⟩
theorem HS.drop (H:HS g h (P::R)):HS g h R:=by obtain⟨ho,D,hb,D1,D2,e,d,p,r⟩:=H;exact⟨ho,D2,λb h2=>hb b ((e b).2 (.inr h2)),r⟩
theorem bp.skip (A:List SP) (s:bp L P R):bp (A++L) P (A++R):=by
 induction A with
 |nil=>grind
 |cons Q A ih=>exact .there ih
theorem HS.back {A:List SP} (H:HS g h (P::(A++R))):HS g h (A++P::R):=HS.cG (bp.skip A .here) H
inductive Sub:List SP→List SP→Prop
  |refl {L:List SP}:Sub L L
  |cons {L L1 L':List SP} {P:SP} (s:bp L P L1) (t:Sub L1 L'):Sub L (P::L')
  |drop {Q:SP} {L L':List SP} (t:Sub L L'):Sub (Q::L) L'
theorem Sub.C8 {L L':List SP} (t:Sub L L'):∀{D:Nat→Prop} {h:AH},nl L D h→∃D':Nat→Prop,(∀b,D' b→D b)∧nl L' D' h:=by
 induction t with
 |refl=>grind
 |cons s t ih=>intro D h H;obtain⟨D1,D2,e,d,p,r⟩:=s.C8 H;obtain⟨D',h1,h2⟩:=ih r;exact⟨λb=>D1 b∨D' b,λb hb=>(e b).2 (hb.imp id (h1 b)),D1,D',λ_=>Iff.rfl,λb hb h3=>d b hb (h1 b h3),p,h2⟩
 |drop t ih=>intro D h ⟨D1,D2,e,d,p,r⟩;grind
theorem HS.sub {L L':List SP} (H:HS g h L) (t:Sub L L'):HS g h L':=by obtain⟨ho,D,hb,r⟩:=H;obtain⟨D',h1,h2⟩:=t.C8 r;exact⟨ho,D',λb h=>hb b (h1 b h),h2⟩
def I7:Nat→List SP→Option (SP×List SP)
 | 0,P::L=>some (P,L)
 |i+1,P::L=>match I7 i L with
  |some x=>some (x.1,P::x.2)
  |none=>none
 |_,[]=>none
def C9:Nat→List SP→List SP
 | 0,L=>L
 |k+1,_::L=>C9 k L
 |_+1,[]=>[]
def I8:List Nat→Nat→List SP→List SP
 |[],k,L=>C9 k L
 |i::is,k,L=>match I7 i L with
  |some x=>x.1::I8 is k x.2
  |none=>L
theorem jKl:∀{i:Nat} {L:List SP} {x:SP×List SP},I7 i L=some x→bp L x.1 x.2:=by
 intro i
 induction i with
 |zero=>
  intro L x h;cases L with
  |nil=>cases h
  |cons P L=>cases h;exact .here
 |succ i ih=>
  intro L x h;cases L with
  |nil=>cases h
  |cons P L=>
   unfold I7 at h
   split at h
   ·rename_i y hy;cases h;exact .there (ih hy)
   grind
theorem Sub.C9:∀(k:Nat) (L:List SP),Sub L (C9 k L)
 | 0,_=>.refl
 |k+1,_::L=>.drop (Sub.C9 k L)
 |_+1,[]=>.refl
theorem Sub.pk:∀(is:List Nat) (k:Nat) (L:List SP),Sub L (I8 is k L)
 |[],k,L=>Sub.C9 k L
 |i::is,k,L=>by
  unfold I8
  split
  ·rename_i x hx;exact .cons (jKl hx) (Sub.pk is k x.2)
  ·exact .refl
theorem HS.pk {L:List SP} (H:HS g h L) (is:List Nat) (k:Nat):HS g h (I8 is k L):=H.sub (Sub.pk is k L)
def SP.emp:SP:=⟨λD _=>∀b,¬D b,λH _ _=>H⟩
def SP.iq (φ:Prop):SP:=⟨λD _=>(∀b,¬D b)∧φ,λH _ _=>H⟩
def SP.ex {α:Type} (f:α→SP):SP:=⟨λD h=>∃a,(f a).p D h,λ⟨a,H⟩ h1 h2=>⟨a,(f a).loc H h1 h2⟩⟩
def SP.all (A:List SP):SP:=⟨nl A,λH h1 h2=>H.loc h1 h2⟩
theorem HS.put (H:HS g h R) (hp:P.p (λ_=>False) h):HS g h (P::R):=by obtain⟨ho,D,hb,r⟩:=H;exact⟨ho,D,hb,λ_=>False,D,λb=>⟨.inr,λh=>h.elim False.elim id⟩,λ_ h=>h.elim,hp,r⟩
theorem HS.fh {α:Type} {f:α→SP} (H:HS g h (.ex f::R)):∃a,HS g h (f a::R):=by obtain⟨ho,D,hb,D1,D2,e,d,⟨a,p⟩,r⟩:=H;exact⟨a,ho,D,hb,D1,D2,e,d,p,r⟩
theorem HS.fH {α:Type} {f:α→SP} (a:α) (H:HS g h (f a::R)):HS g h (.ex f::R):=by obtain⟨ho,D,hb,D1,D2,e,d,p,r⟩:=H;exact⟨ho,D,hb,D1,D2,e,d,⟨a,p⟩,r⟩
theorem HS.fo {φ:Prop} (H:HS g h (.iq φ::R)):φ∧HS g h R:=by refine⟨?_,H.drop⟩;obtain⟨ho,D,hb,D1,D2,e,d,p,r⟩:=H;exact p.2
theorem HS.fR {φ:Prop} (hφ:φ) (H:HS g h R):HS g h (.iq φ::R):=H.put ⟨λ_ h=>h,hφ⟩
theorem jXd {A:List SP}:∀{D1 D2:Nat→Prop} {h:AH},(∀b,D1 b→¬D2 b)→nl A D1 h→nl R D2 h→nl (A++R) (λb=>D1 b∨D2 b) h:=by
 induction A with
 |nil=>intro D1 D2 h _ H1 H2;rw[List.nil_append,show(λb=>D1 b∨D2 b)=D2 from funext λb=>propext ⟨λh=>h.elim (λh=>(H1 b h).elim) id,.inr⟩];grind
 |cons P A ih=>
  rintro D1 D2 h hd ⟨E1,E2,e,d,p,r⟩ H2;refine⟨E1,λb=>E2 b∨D2 b,λb=>?_,λb h1 h2=>?_,p,ih (λb h1=>hd b ((e b).2 (.inr h1))) r H2⟩
  all_goals grind
theorem jQu {A:List SP}:∀{D:Nat→Prop} {h:AH},nl (A++R) D h→∃D1 D2:Nat→Prop,(∀b,D b↔D1 b∨D2 b)∧(∀b,D1 b→¬D2 b)∧nl A D1 h∧nl R D2 h:=by
 induction A with
 |nil=>intro D h H;exact⟨λ_=>False,D,λb=>⟨.inr,λh=>h.elim False.elim id⟩,λ_ h=>h.elim,λ_ h=>h,H⟩
 |cons P A ih=>
  rintro D h ⟨E1,E2,e,d,p,r⟩;obtain⟨F1,F2,f,d',r1,r2⟩:=ih r;refine⟨λb=>E1 b∨F1 b,F2,λb=>?_,λb h1 h2=>?_,⟨E1,F1,λb=>Iff.rfl,λb h1 h2=>d b h1 ((f b).2 (.inl h2)),p,r1⟩,r2⟩
  all_goals grind
theorem HS.cI {A:List SP} (H:HS g h (.all A::R)):HS g h (A++R):=by obtain⟨ho,D,hb,D1,D2,e,d,p,r⟩:=H;refine⟨ho,D,hb,?_⟩;rw[show D=(λb=>D1 b∨D2 b)from funext λb=>propext (e b)];exact jXd d p r
theorem HS.allI {A:List SP} (H:HS g h (A++R)):HS g h (.all A::R):=by obtain⟨ho,D,hb,r⟩:=H;exact⟨ho,D,hb,jQu r⟩
theorem HS.nil (g:AH):HS g g []:=⟨rM.refl _ _,λ_=>False,λ_ h=>h.elim,λ_ h=>h⟩
theorem HS.add {D':Nat→Prop} (H:HS g h R) (F:rM h.nx h h') (p:P.p D' h') (hD:∀b,D' b→h.nx≤b∧b<h'.nx):HS g h' (P::R):=by
 obtain⟨D,_,hb,k⟩:=(H.put (P:=.emp) λ_ h=>h).act;obtain⟨ho,D0,I9,r⟩:=H;have hn:=ho.nx;refine⟨⟨Nat.le_trans hn F.nx,λb h1 h2=>(F.get b omQ omQ).trans (ho.get b h1 h2)⟩,λb=>D' b∨D0 b,?_,D',D0,λb=>Iff.rfl,?_,p,r.loc F.nx λb h1=>F.get b (I9 b h1).2 (by grind)⟩
 ·have:=F.nx;grind
 grind
theorem Fr.none (F:Fr (λ_=>False) h h'):rM h.nx h h':=F.mono λ_ _ h=>h.elim
variable {b off n m sz:Nat} {xs ys l:List AV} {e:TypeId} {o:Bool} {x v:AV} {k:IntKind} {Q:AV→AH→Prop} {i:Nat}
def Cell (b:Nat) (xs:List AV) (e:TypeId) (o:Bool):SP:=⟨λD h=>(∀a,D a↔a=b)∧Row h b xs e o,λ{D h h'} H h1 h2=>⟨H.1,Nat.lt_of_lt_of_le H.2.lt h1,by rw[h2 b ((H.1 b).2 rfl)];exact H.2.bG⟩⟩
def qk (b:Nat) (xs:List AV):SP:=⟨λD h=>(∀a,D a↔a=b)∧∃e,Row h b xs e false,λ{D h h'} H h1 h2=>⟨H.1,H.2.imp λ_ A=>⟨Nat.lt_of_lt_of_le A.lt h1,by rw[h2 b ((H.1 b).2 rfl)];exact A.bG⟩⟩⟩
def Qe (b:Nat) (x:dh):SP:=⟨λD h=>(∀a,D a↔a=b)∧b<h.nx∧h.get b=some x,λ{D h h'} H h1 h2=>⟨H.1,by grind,by grind⟩⟩
def aa (e:TypeId) (sz n:Nat) (v:AV) (xs:List AV):SP :=
  ⟨λD h=>xs.length=n*sz∧((v=.ap∧n=0∧∀b,¬D b)∨∃b cp o ys,v=.slice b 0 n cp o∧(∀a,D a↔a=b)∧Row h b ys e o∧n*sz≤ys.length∧ys.take (n*sz)=xs∧(if o=true then cp=0 else ys.length=cp*sz∧n≤cp)),
   λ{D h h'} H h1 h2=>⟨H.1,H.2.imp id λ⟨b,cp,o,ys,q1,q2,q3,q4⟩=>⟨b,cp,o,ys,q1,q2,⟨Nat.lt_of_lt_of_le q3.lt h1,by rw[h2 b ((q2 b).2 rfl)];exact q3.bG⟩,q4⟩⟩⟩
theorem HS.p (H:HS g h L) (s:bp L P R):∃D,P.p D h:=by obtain⟨D,p,_⟩:=(H.aM s).act;grind
theorem HS.obj (H:HS g h L) (s:bp L (qk b xs) R):∃e,Row h b xs e false:=by obtain⟨D,_,p⟩:=H.p s;grind
theorem HS.sl (H:HS g h L) (s:bp L (aa e sz n v xs) R):Sl (λ_=>True) h sz n v xs:=by
 obtain⟨D,h1,⟨rfl,rfl,_⟩ |⟨b,cp,o,ys,rfl,_,A,h2,h3,_⟩⟩:=H.p s
 ·obtain rfl:xs=[]:=iA (by grind);exact .ap
 ·exact .mk trivial A.lt A.rd h1 λi hi=>by rw[A.at,Nat.zero_add,← h3,List.getElem?_take_of_lt hi]
theorem HS.ed (H:HS g h L) (s:bp L (aa e sz n v xs) R):xs.length=n*sz:=(H.sl s).len
def One (v:AV):Prop:=v.cells=[v]∧v.one=true
theorem HS.one (H:HS g h L) (s:bp L (aa e sz n v xs) R):One v:=by obtain⟨D,h1,⟨rfl,rfl,_⟩ |⟨b,cp,o,ys,rfl,_⟩⟩:=H.p s<;>exact⟨rfl,rfl⟩
variable {K:AV→Go.Ae.R} {K2:AV→AH→Go.Ae.R} {K1:AH→Go.Ae.R}
theorem qK (H:HS g h L) (s:bp L (qk b xs) R) (hx:xs[off]? =some x) (w:wp (K x) Q):wp (ji h (.ptr b off) K) Q:=by obtain⟨e,A⟩:=H.obj s;exact Xy ((A.at _).trans hx) w
theorem HS.lt (H:HS g h L) (s:bp L (qk b xs) R):b<h.nx:=by obtain⟨e,A⟩:=H.obj s;exact A.lt
theorem qT {g' ha:AH} {L2 R2:List SP} {nx:Nat} {K0:Go.Ae.R} (H:HS g h L) (s:bp L (qk b xs) R) (hx:xs[off]? =some x) (H2:HS g' ha L2) (s2:bp L2 (qk b ys) R2) (tV:ys[off]? =some x) (ax:b<nx) (w:wp K0 Q):wp (Xz (.ptr b off) none x h ha nx K0) Q:=by obtain⟨e,A⟩:=H.obj s;obtain⟨e2,A2⟩:=H2.obj s2;exact qYL ((A.at _).trans hx) ((A2.at _).trans tV) ax w
theorem qD (H:HS g h L) (s:bp L (qk b xs) R) (hl:l.length=n) (hn:0<n) (hx:(xs.drop off).take n=l) (w:wp (K (.agg l)) Q):wp (zp h (.ptr b off) n K) Q:=by obtain⟨e,A⟩:=H.obj s;exact qZc hl hn (λi hi=>by rw[A.at,← hx,List.getElem?_take_of_lt hi,List.getElem?_drop]) w
theorem qe (H:HS g h L) (s:bp L (qk b xs) R) (hc:x.cells.length=n) (ho:off+n≤xs.length) (h1:qt x.cells=true) (w:∀h',HS g h' (qk b (Jz xs off x.cells)::R)→wp (K1 h') Q):wp (zV h (.ptr b off) x n K1) Q:=by obtain⟨D,⟨hD,e,A⟩,hb,k⟩:=(H.aM s).act;refine qX2 A hc ho h1 λh' A' F hx=>w h' (k h' _ D (F.mono λa _ ha=>(hD a).2 ha) ⟨hD,e,A'⟩ λa ha=>⟨.inl ha,?_⟩);grind
theorem qw (H:HS g h L) (s:bp L (qk b xs) R) (h1:One x) (ho:off<xs.length) (w:∀h',HS g h' (qk b (xs.set off x)::R)→wp (K1 h') Q):wp (zV h (.ptr b off) x 1 K1) Q:=by refine qe H s (by rw[h1.1];rfl) omQ (by rw[h1.1];simp[qt,h1.2]) λh' H'=>w h' ?_;rw[h1.1,UA ho]at H';grind
theorem qQ {f:Nat} (w:wp (K (.ptr b f)) Q):wp (jJ (.ptr b 0) f K) Q:=qo (by rw[Nat.zero_add];exact w)
theorem HS.mO (H:HS g h L) (x:dh):HS g (h.new x) (Qe h.nx x::L) :=
 H.add (D':=λa=>a=h.nx) ⟨by simp,λa _ h2=>AH.cg h _ omQ⟩ ⟨λa=>Iff.rfl,by simp,AH.bF ..⟩ (by simp)
theorem HS.lK {x y:dh} (H:HS g h L) (s:bp L (Qe b x) R):HS g (h.put b y) (Qe b y::R):=by obtain⟨D,⟨hD,hb,_⟩,fb,k⟩:=(H.aM s).act;exact k _ _ D ⟨Nat.le_refl _,λa _ hn=>AH.bE h _ λe=>hn ((hD a).2 e.symm)⟩ ⟨hD,hb,AH.bi ..⟩ λa ha=>⟨.inl ha,(fb a ha).2⟩
theorem HS.bG {x:dh} (H:HS g h L) (s:bp L (Qe b x) R):h.get b=some x:=by obtain⟨D,_,_,p⟩:=H.p s;grind
theorem qWt (H:HS g h L) (h1:qt x.cells=true) (w:∀b h',HS g h' (qk b x.cells::L)→wp (K2 (.ptr b 0) h') Q):wp (w5 h e x K2) Q:=by refine jKS h1 λb h' hb A F=>w b h' (H.add (D':=λa=>a=b) F.none ⟨λa=>Iff.rfl,e,A⟩ ?_);rintro a rfl;exact⟨hb,A.lt⟩
theorem qM (H:HS g h L) (h1:qt l=true) (w:∀b h',HS g h' (qk b l::L)→wp (K2 (.ptr b 0) h') Q):wp (w5 h e (.agg l) K2) Q:=qWt (x:=.agg l) H h1 w
theorem GX (H:HS g h L) (h1:One x) (w:∀b h',HS g h' (qk b [x]::L)→wp (K2 (.ptr b 0) h') Q):wp (w5 h e x K2) Q :=
 qWt H (by rw[h1.1];simp[qt,h1.2]) (by rw[h1.1];exact w)
theorem Km {z:List AV} {ln cp:Nat} {k1 k2:IntKind} (H:HS g h L) (hz:z.length=sz) (h1:ln≤cp) (h2:cp≤1073741824)
  (w:∀v h',HS g h' (aa e sz ln v ((gH z cp).take (ln*sz))::L)→wp (K2 v h') Q):wp (JY h e z (.int k1 (ln:Int)) (.int k2 (cp:Int)) K2) Q:=by
 refine qYF h1 h2 λb h' hb A F=>w _ h' (H.add (D':=λa=>a=b) F.none ⟨?_,.inr ⟨b,cp,false,_,rfl,λa=>Iff.rfl,A,?_,rfl,?_⟩⟩ ?_)
 ·grind[Nat.mul_le_mul_right,List.length_take,Qg]
 ·simp_all[Qg,Nat.mul_le_mul_right]
 ·simp_all[aW,Qg]
 ·rintro a rfl;exact⟨hb,A.lt⟩
theorem Ye {z:AV} {k1 k2:IntKind} (H:HS g h L) (h2:n≤1073741824)
  (w:∀v h',HS g h' (aa e 1 n v (List.replicate n z)::L)→wp (K2 v h') Q):wp (JY h e [z] (.int k1 (n:Int)) (.int k2 (n:Int)) K2) Q:=by
 refine Km (sz:=1) H rfl (Nat.le_refl _) h2 λv h' H'=>w v h' ?_;simp_all[qZS,Nat.mul_one,List.take_of_length_le,aW]
theorem qh {z:List AV} {vs:List (Nat×Nat×AV)} (H:HS g h L) (_:z.length=sz) (hl:l.length=n*sz) (hf:vL (gH z n) vs=some l) (h1:qt l=true)
  (w:∀v h',HS g h' (aa e sz n v l::L)→wp (K2 v h') Q):wp (xL h e z n vs K2) Q:=by
 refine qqr hf h1 λb h' hb A F=>w _ h' (H.add (D':=λa=>a=b) F.none ⟨hl,.inr ⟨b,n,false,_,rfl,λa=>Iff.rfl,A,by omega,by grind,?_⟩⟩ ?_)
 ·grind
 ·rintro a rfl;exact⟨hb,A.lt⟩
theorem HS.ap (H:HS g h L):HS g h (aa e sz 0 .ap []::L):=H.put ⟨by simp,.inl ⟨rfl,rfl,λ_ h=>h⟩⟩
theorem NY (A:Row h b xs e o) (ho:off+n≤xs.length):vv h b off n=some ((xs.drop off).take n):=by
 by_cases h0:n=0
 ·subst h0;obtain⟨c,c1,c2,c3⟩:=A.bG;unfold vv;rw[c1,List.take_zero];cases c<;>rfl
 ·have hl:((xs.drop off).take n).length=n:=by grind
  have:=Gq (h:=h) (b:=b) (off:=off) (l:=(xs.drop off).take n) omQ (λi hi=>by rw[A.at,List.getElem?_take_of_lt omQ,List.getElem?_drop])
  grind
theorem qqe (ho:off+ys.length≤xs.length):(Jz xs off ys).take (off+ys.length)=xs.take off++ys:=by
 unfold Jz;have:(xs.take off++ys).length=off+ys.length:=by grind
 grind
theorem zX {D':Nat→Prop} (H:HS g h (aa e sz n v xs::R)) (S:Sl D' h sz m x ys) (bP:0<sz) (E4:n+m≤67108864) (h1:qt ys=true)
  (w:∀v' h',HS g h' (aa e sz (n+m) v' (xs++ys)::R)→wp (K2 v' h') Q):wp (xk h e sz v x K2) Q:=by
 obtain⟨nc,g1,g2,g3⟩:=qzU S;have lU:=S.len;unfold xk;simp only[qw0 S,g1,ob];rw[CT.dR,g2,lU,Nat.beq_refl,cond_true];by_cases h0:m=0
 ·subst h0;obtain rfl:ys=[]:=iA (by grind);have wH:=w v h (by grind);obtain⟨D,⟨hl,⟨rfl,rfl,hD⟩ |⟨b,cp,o,zs,rfl,hD,A,q1,q2,q3⟩⟩,hb,k⟩:=H.act
  ·exact wH
  ·unfold vw;cases o with
   |false=>rw[iQ aW]at q3;simp only;rw[iY (show n+0≤cp from q3.2),cond_true,show Nat.beq 0 0=true from rfl,cond_true];exact wH
   |true=>
    rw[iJ rfl]at q3;subst q3;obtain⟨c,c1,c2,c3⟩:=A.bG;simp only[c1];have fF:c.len=zs.length:=by rw[CT.dR,c2]
    rw[fF];have nB:(Nat.ble 1 sz&&(Nat.beq 0 (0*sz)&&(Nat.beq e e&&Nat.ble (0+n*sz) zs.length)))=true:=by simp;omega
    rw[nB,cond_true,show Nat.beq 0 0=true from rfl,cond_true];exact wH
 ·have RE:Nat.beq m 0=false:=vC h0;have hmul:(n+m)*sz=n*sz+m*sz:=Nat.add_mul ..;have hmp:0<m*sz:=Nat.mul_pos omQ bP;have hns:h.nx<(h.new (.cells nc e true)).nx:=by simp
  obtain⟨D,⟨hl,⟨rfl,rfl,hD⟩ |⟨b,cp,o,zs,rfl,hD,A,q1,q2,q3⟩⟩,hb,k⟩:=H.act
  ·obtain rfl:xs=[]:=iA (by grind);unfold vw;simp only;rw[RE,cond_false,iY omQ,cond_true];obtain⟨b1,b2⟩:=Row.new (h:=h) (e:=e) (o:=true) g3;rw[g2]at b1;refine w _ _ (k _ _ (λa=>a=h.nx) (b2.mono λ_ _ hf=>hf.elim) ⟨by grind,.inr ⟨h.nx,0,true,ys,by simp,λ_=>Iff.rfl,b1,by omega,?_,by rfl⟩⟩ ?_)
   all_goals grind
  ·have PE:=A.lt;have pE:∀AR,(n+m)*sz≤zs.length→(if o=true then AR=0 else zs.length=AR*sz∧n+m≤AR)→
     wp (ob (kX h b (0+n*sz) nc.toList) λh'=>K2 (.slice b 0 (n+m) AR o) h') Q:=by
    intro AR hz BS;obtain⟨h',f1,f2,f3,f4⟩:=Vk (ys:=nc.toList) (off:=0+n*sz) A (by grind) (by grind);simp only[f1,ob];rw[g2,Nat.zero_add]at f2;refine w _ _ (k h' _ D (f3.mono λa _ ha=>(hD a).2 ha) ⟨by grind,.inr ⟨b,AR,o,_,rfl,hD,f2,?_,?_,?_⟩⟩ λa ha=>⟨.inl ha,by grind⟩)
    ·rw[Ux omQ];grind
    ·rw[hmul,← lU,qqe omQ,q2]
    ·rw[Ux omQ];grind
   unfold vw;cases o with
   |false=>
    rw[iQ aW]at q3;simp only;by_cases hc:n+m≤cp
    ·rw[iY hc,cond_true,RE,cond_false];exact pE cp (by grind[Nat.mul_le_mul_right]) (by grind)
    ·rw[show Nat.ble (n+m) cp=false by
      cases hb:Nat.ble (n+m) cp
      all_goals simp_all[wA],cond_false,iY E4,cond_true]
     rw[NY A (show 0+n*sz≤zs.length by omega),List.drop_zero,q2];simp only[ob];have key:∀c:CT,c.toList=xs++ys→c.full→wp (K2 (.slice h.nx 0 (n+m) 0 true) (h.new (.cells c e true))) Q:=by
      intro c d1 d2;obtain⟨b1,b2⟩:=Row.new (h:=h) (e:=e) (o:=true) d2;rw[d1]at b1;refine w _ _ (k _ _ (λa=>a=h.nx) (b2.mono λ_ _ hf=>hf.elim) ⟨by grind,.inr ⟨h.nx,0,true,xs++ys,rfl,λ_=>Iff.rfl,b1,by grind,?_,by rfl⟩⟩ ?_)
      ·grind
      simp
     by_cases lW:n=0
     ·subst lW;rw[show Nat.beq 0 0=true from rfl,cond_true];obtain rfl:xs=[]:=iA (by grind);exact key nc (by grind) g3
     ·rw[show Nat.beq n 0=false from vC lW,cond_false];exact key _ (by rw[CT.aP,g2]) (CT.bI _)
   |true=>
    rw[iJ rfl]at q3;subst q3;obtain⟨c,c1,c2,c3⟩:=A.bG;simp only[c1];have fF:c.len=zs.length:=by rw[CT.dR,c2]
    rw[fF];have nB:(Nat.ble 1 sz&&(Nat.beq 0 (0*sz)&&(Nat.beq e e&&Nat.ble (0+n*sz) zs.length)))=true:=by simp;omega
    rw[nB,cond_true,RE,cond_false];by_cases hc:0+(n+m)*sz≤zs.length
    ·rw[iY hc,cond_true];exact pE 0 omQ (by rfl)
    ·rw[show Nat.ble (0+(n+m)*sz) zs.length=false by
      grind[Nat.ble,absurd,wA],cond_false]
     have nD:(Nat.beq 0 0&&(Nat.ble (n+m) 67108864&&qt nc.toList))=true:=by simp_all
     rw[nD,cond_true];obtain⟨c',p1,p2,p3⟩:=CT.sV (c:=c) c3 (n:=n*sz) (by grind);simp only[p1];have RF:(c'.lf nc.toList).toList=xs++ys:=by grind[CT.r8]
     refine w _ _ (k _ _ (λa=>a=h.nx) ⟨by simp,λa ha hn=>?_⟩ ⟨by grind,.inr ⟨(h.put b .dead).nx,0,true,xs++ys,rfl,λ_=>Iff.rfl,⟨by simp,c'.lf nc.toList,AH.bF (h.put b .dead) _,RF,CT.sU p3 _⟩,by grind,?_,by rfl⟩⟩ ?_)
     ·rw[AH.cg _ _ (by simp;omega),AH.bE h _ (λLa:b=a=>hn ((hD a).2 La.symm))]
     ·grind
     simp
theorem HS.E5 (H:HS g h (aa e sz n v xs::R)) (hn:0<n):∃b cp o ys,v=.slice b 0 n cp o∧HS g h (Cell b ys e o::R)∧n*sz≤ys.length∧ys.take (n*sz)=xs∧(if o=true then cp=0 else ys.length=cp*sz∧n≤cp):=by
 obtain⟨D,⟨hl,⟨rfl,rfl,hD⟩ |⟨b,cp,o,zs,rfl,hD,A,q1,q2,q3⟩⟩,hb,k⟩:=H.act
 ·omega
 ·exact⟨b,cp,o,zs,rfl,k h _ D (Fr.refl _ _) ⟨hD,A⟩ λa ha=>⟨.inl ha,(hb a ha).2⟩,q1,q2,q3⟩
theorem HS.E6 {cp:Nat} (H:HS g h (Cell b ys e o::R)) (h1:n*sz≤ys.length) (h2:if o=true then cp=0 else ys.length=cp*sz∧n≤cp):HS g h (aa e sz n (.slice b 0 n cp o) (ys.take (n*sz))::R):=by obtain⟨D,⟨hD,A⟩,hb,k⟩:=H.act;exact k h _ D (Fr.refl _ _) ⟨by grind,.inr ⟨b,cp,o,ys,rfl,hD,A,h1,rfl,h2⟩⟩ λa ha=>⟨.inl ha,(hb a ha).2⟩
theorem qva (H:HS g h (Cell b xs e o::R)) (hc:x.cells.length=n) (ho:off+n≤xs.length) (h1:qt x.cells=true) (w:∀h',HS g h' (Cell b (Jz xs off x.cells) e o::R)→wp (K1 h') Q):wp (zV h (.ptr b off) x n K1) Q:=by obtain⟨D,⟨hD,A⟩,hb,k⟩:=H.act;refine qX2 A hc ho h1 λh' A' F hx=>w h' (k h' _ D (F.mono λa _ ha=>(hD a).2 ha) ⟨hD,A'⟩ λa ha=>⟨.inl ha,?_⟩);grind
theorem BU {j:Nat} (H:HS g h (aa e sz n v xs::R)) (hi:i<n) (hj:j+m≤sz) (hc:x.cells.length=m) (h1:qt x.cells=true) (w:∀h',HS g h' (aa e sz n v (Jz xs (i*sz+j) x.cells)::R)→wp (K1 h') Q) :
  ∃b cp o,v=.slice b 0 n cp o∧wp (zV h (.ptr b (0+i*sz+j)) x m K1) Q:=by
 obtain⟨b,cp,o,ys,rfl,H',q1,q2,q3⟩:=H.E5 omQ;have hle:i*sz+sz≤n*sz:=by rw[← Nat.succ_mul];exact Nat.mul_le_mul_right sz hi
 refine⟨b,cp,o,rfl,qva H' hc omQ h1 λh' H''=>w h' ?_⟩;have:=H''.E6 (n:=n) (sz:=sz) (cp:=cp) (by rw[Ux omQ];grind) (by rw[Ux omQ];grind);have e1:(Jz ys (0+i*sz+j) x.cells).take (n*sz)=Jz xs (i*sz+j) x.cells:=by
  rw[← q2,Nat.zero_add];unfold Jz;rw[List.take_append,List.take_append,List.take_take,List.take_take,List.drop_take];have t1:min (n*sz) (i*sz+j)=min (i*sz+j) (n*sz):=Nat.min_comm ..;rw[t1,show(List.take (i*sz+j) ys).length=i*sz+j by grind];rw[List.take_of_length_le (show x.cells.length≤n*sz-(i*sz+j) by omega)];grind
 grind
theorem jVu {f:Nat} (H:HS g h (aa e sz n v xs::R)) (hi:i<n) (hf:f<sz) (h1:One x) (w:∀h',HS g h' (aa e sz n v (xs.set (i*sz+f) x)::R)→wp (K1 h') Q) :
  wp (w4 v (.int k (i:Int)) sz λp=>jJ p f λq=>zV h q x 1 K1) Q:=by
 have hl:=H.ed .here;have hle:i*sz+sz≤n*sz:=by rw[← Nat.succ_mul];exact Nat.mul_le_mul_right sz hi
 obtain⟨b,cp,o,rfl,w'⟩:=BU (x:=x) (m:=1) (j:=f) H hi omQ (by rw[h1.1];rfl) (by rw[h1.1];simp[qt,h1.2]) (λh' H'=>w h' (by rw[h1.1,UA omQ]at H';grind));exact UM hi (qo w')
theorem G5 (H:HS g h (aa e 1 n v xs::R)) (hi:i<n) (h1:One x) (w:∀h',HS g h' (aa e 1 n v (xs.set i x)::R)→wp (K1 h') Q) :
  wp (w4 v (.int k (i:Int)) 1 λp=>zV h p x 1 K1) Q:=by
 have hl:=H.ed .here;obtain⟨b,cp,o,rfl,w'⟩:=BU (x:=x) (m:=1) (j:=0) H hi omQ (by rw[h1.1];rfl) (by rw[h1.1];simp[qt,h1.2]) (λh' H'=>w h' (by rw[h1.1,UA omQ,Nat.mul_one,Nat.add_zero]at H';grind));exact UM hi w'
theorem RG (H:HS g h (aa e sz n v xs::R)) (hi:i<n) (hl:l.length=sz) (h1:qt l=true) (w:∀h',HS g h' (aa e sz n v (Jz xs (i*sz) l)::R)→wp (K1 h') Q) :
  wp (w4 v (.int k (i:Int)) sz λp=>zV h p (.agg l) sz K1) Q:=by
 obtain⟨b,cp,o,rfl,w'⟩:=BU (x:=.agg l) (m:=sz) (j:=0) H hi omQ hl h1 (λh' H'=>w h' H');exact UM hi w'
theorem Y8 {hi:Nat} (H:HS g h (aa e sz n v xs::R)) (bP:0<sz) (hle:hi≤n) (w:∀v',HS g h (aa e sz hi v' (xs.take (hi*sz))::R)→wp (K v') Q):wp (yh h e sz v none (some (.int k (hi:Int))) K) Q:=by
  by_cases hn:n=0
  · subst hn;obtain rfl:hi=0:=by omega
    have hH:=H;obtain⟨D,⟨hl,⟨rfl,_,hD⟩ |⟨b,cp,o,zs,rfl,hD,A,q1,q2,q3⟩⟩,hb,k⟩:=H.act
    · exact w .ap (by grind)
    · cases o with
      |false=>
        rw[iQ aW]at q3;refine RC (hi:=0) (lo:=0) (gO (Nat.zero_le _)) rfl ?_
        have := w (.slice b 0 0 cp false) (by grind)
        have e0:(bif Nat.beq cp 0 then 0 else 0+0*sz)=0:=by simp
        rw[e0];exact this
      |true=>
        rw[iJ rfl]at q3;subst q3;refine RD (i0:=0) (hi:=0) (lo:=0) A bP omQ omQ (gO (Nat.zero_le _)) rfl (.inr rfl) ?_
        have := w (.slice b 0 0 0 true) (by grind)
        simpa using this
  · obtain⟨b,cp,o,zs,rfl,H',q1,q2,q3⟩:=H.E5 omQ;have RH:=Nat.mul_le_mul_right sz hle;have e1:zs.take (hi*sz)=xs.take (hi*sz):=by grind
    cases o with
    |false=>
      rw[iQ aW]at q3;refine RC (hi:=hi) (lo:=0) (gO omQ) rfl ?_;have:=w (.slice b 0 hi cp false) (by rw[← e1];exact H'.E6 omQ (by grind));have e0:(bif Nat.beq cp 0 then 0 else 0+0*sz)=0:=by simp
      rw[e0];exact this
    |true=>rw[iJ rfl]at q3;subst q3;obtain⟨D,_,A⟩:=H'.p .here;refine RD (i0:=0) (hi:=hi) (lo:=0) A bP omQ omQ (gO hle) rfl (.inr rfl) ?_;have:=w (.slice b 0 hi 0 true) (by rw[← e1];exact H'.E6 omQ (by rfl));simpa using this
theorem K8 (H:HS g h L) (s:bp L (aa e sz n v xs) R) (h1:v=.ap→n=0→wp (K (.bool true)) Q) (h2:wp (K (.bool false)) Q):wp (n8 .CO false v .ap K) Q:=by
 obtain⟨D,hl,⟨rfl,rfl,hD⟩ |⟨b,cp,o,zs,rfl,_⟩⟩:=H.p s
 ·exact h1 rfl rfl
 ·exact h2
theorem qu (H:HS g h L) (s:bp L (aa e sz n v xs) R) (w:wp (K (.int .i64 (n:Int))) Q):wp (Qb v K) Q:=yy (H.sl s) w
def Rd (g:AH) (R:List SP) (sz n:Nat) (v:AV) (xs:List AV):Prop:=∀h,HS g h R→Sl (λ_=>True) h sz n v xs
theorem Rd.sl (S:Rd g L sz n v xs) (H:HS g h L):Sl (λ_=>True) h sz n v xs:=S h H
theorem Rd.more (S:Rd g R sz n v xs):Rd g (P::R) sz n v xs:=λh H=>S h H.drop
theorem Rd.own (s:bp L (aa e sz n v xs) R):Rd g L sz n v xs:=λ_ H=>H.sl s
theorem HS.rd (_:HS g h L) (s:bp L (aa e sz n v xs) R):Rd g L sz n v xs:=.own s
theorem Rd.arg {D:Nat→Prop} (S:Sl D g sz n v xs):Rd g L sz n v xs:=λ_ H=>(S.cD H.cD).mono λ_ _=>trivial
theorem Rd.len (S:Rd g L sz n v xs) (H:HS g h L):xs.length=n*sz:=(S h H).len
variable {c d:Int}
theorem qz (hc:c=d) (w:wp (K (.bool true)) Q):wp (zB .eql (.int k c) (.int k d) K) Q:=Yi (by rw[iG hc];exact w)
theorem qV (hc:¬c=d) (w:wp (K (.bool false)) Q):wp (zB .eql (.int k c) (.int k d) K) Q:=Yi (by rw[iV hc];exact w)
theorem jg (hc:¬c=d) (w:wp (K (.bool true)) Q):wp (zB .neq (.int k c) (.int k d) K) Q:=NR (by rw[iG hc];exact w)
theorem jB (hc:c=d) (w:wp (K (.bool false)) Q):wp (zB .neq (.int k c) (.int k d) K) Q:=NR (by rw[iV (not_not_intro hc)];exact w)
theorem jc (hc:c<d) (w:wp (K (.bool true)) Q):wp (zB .lss (.int k c) (.int k d) K) Q:=JQ (by rw[iG hc];exact w)
theorem jH (hc:¬c<d) (w:wp (K (.bool false)) Q):wp (zB .lss (.int k c) (.int k d) K) Q:=JQ (by rw[iV hc];exact w)
theorem Jr (hc:c≤d) (w:wp (K (.bool true)) Q):wp (zB .leq (.int k c) (.int k d) K) Q:=Zt (by rw[iG hc];exact w)
theorem Xc (hc:¬c≤d) (w:wp (K (.bool false)) Q):wp (zB .leq (.int k c) (.int k d) K) Q:=Zt (by rw[iV hc];exact w)
theorem yc (hc:d<c) (w:wp (K (.bool true)) Q):wp (zB .gtr (.int k c) (.int k d) K) Q:=Rv (by rw[iG hc];exact w)
theorem yj (hc:¬d<c) (w:wp (K (.bool false)) Q):wp (zB .gtr (.int k c) (.int k d) K) Q:=Rv (by rw[iV hc];exact w)
theorem z8 (hc:d≤c) (w:wp (K (.bool true)) Q):wp (zB .geq (.int k c) (.int k d) K) Q:=Rw (by rw[iG hc];exact w)
theorem z7 (hc:¬d≤c) (w:wp (K (.bool false)) Q):wp (zB .geq (.int k c) (.int k d) K) Q:=Rw (by rw[iV hc];exact w)
theorem qXN {tab:BT} {rt:List RT} {N l:Nat} {as:List AV} {cx:Option AX} {f:Nat} {pos Ls:List Nat} {vs:List AV} {d:Nat} {w:VF} (hb:h.get l=some (.loop .ready cx f pos Ls vs d)) (hr:KQ rt f pos Ls=some w) (hn:1≤N)
  (W:∀k,N=k+1→wp (w (callT tab rt k) l vs as h) Q):wp (callT tab rt N (.yield l) as h) Q:=by
 obtain⟨k,rfl⟩:∃k,N=k+1:=⟨N-1,by omega⟩
 show wp (match h.get l with
   |some (.loop .ready _ f pos L vs _)=>(match KQ rt f pos L with |some g=>g (callT tab rt k) l vs as h |none=>none)
   |_=>none) Q
 rw[hb];simp only[hr];exact W k rfl
theorem qZo {l:Nat} {cx:Option AX} {f:Nat} {pos Ls:List Nat} {vs:List AV} {d:Nat} (H:HS g h L) (s:bp L (Qe l (.loop .ready cx f pos Ls vs d)) R) (w:∀h',HS g h' (Qe l (.loop .busy cx f pos Ls vs d)::R)→wp (K1 h') Q):wp (Xh h l K1) Q:=by unfold Xh;rw[H.bG s];exact w _ (H.lK s)
theorem qW9 {l:Nat} {st:LoopState} {cx:Option AX} {f:Nat} {pos Ls:List Nat} {vs:List AV} {d:Nat} (H:HS g h L) (s:bp L (Qe l (.loop st cx f pos Ls vs d)) R) (w:∀h',HS g h' (Qe l (.loop .ready none f pos Ls vs d)::R)→Q (.bool true) h'):wp (yx h l none) Q:=by unfold yx;rw[H.bG s];exact⟨_,_,rfl,w _ (H.lK s)⟩
theorem jZr {l:Nat} {j:AX} {st:LoopState} {cx:Option AX} {f:Nat} {pos Ls:List Nat} {vs:List AV} {d:Nat} (H:HS g h L) (s:bp L (Qe l (.loop st cx f pos Ls vs d)) R) (w:∀h',HS g h' (Qe l (.loop .done (some j) f pos Ls vs d)::R)→Q (.bool false) h'):wp (yx h l (some j)) Q:=by unfold yx;rw[H.bG s];exact⟨_,_,rfl,w _ (H.lK s)⟩
theorem RI {l:Nat} {K':Option AX→AH→Go.Ae.R} {st:LoopState} {cx:Option AX} {f:Nat} {pos Ls:List Nat} {vs:List AV} {d:Nat} (H:HS g h L) (s:bp L (Qe l (.loop st cx f pos Ls vs d)) R) (cd:st≠.busy) (w:∀h',HS g h' (Qe l (.loop .exhausted cx f pos Ls vs d)::R)→wp (K' cx h') Q):wp (gE h l K') Q:=by
 unfold gE;rw[H.bG s];cases st with
 |busy=>exact absurd rfl cd
 |_=>exact w _ (H.lK s)
theorem UU {d:Nat} (H:HS g h L) (s:bp L (Qe d .lT) R) (w:∀h',HS g h' (Qe d .pP::R)→wp (K1 h') Q):wp (xB [d] h K1) Q:=by unfold xB;rw[H.bG s];unfold xB;exact w _ (H.lK s)
theorem qZl {a b:Go.Ae.R} (w:wp a Q):wp (Yv none a b) Q:=w
theorem qwa {p:AX} {a b:Go.Ae.R} (w:wp b Q):wp (Yv (some p) a b) Q:=w
theorem jVa {x:AX} {a b:Go.Ae.R} (hx:CS x x=true) (w:wp a Q):wp (Bp (some x) x a b) Q:=by show wp (bif CS x x then a else b) Q;rw[hx];exact w
theorem qXT {c:CV} {f:FuncId} {a1 a2 as:List AV} {Q':AV→AH→Prop} (w:wp (c (.fn f a1 a2) as h) Q') (hk:∀v h',Q' v h'→wp (K2 v h') Q):wp (X5 c (.fn f a1 a2) as h K2) Q:=qW w hk
theorem HS.fits (H:HS g h L) (s:bp L (aa e sz n v xs) R) (bP:0<sz) (h1:sz<65536) {N:Nat} (hN:N=e*65536+sz) {u:AV}:xv v (some N) u h=true:=by
 obtain⟨D,hl,⟨rfl,rfl,hD⟩ |⟨b,cp,o,zs,rfl,hD,A,q1,q2,q3⟩⟩:=H.p s
 ·rfl
 ·cases o with
  |false=>rfl
  |true=>
   rw[iJ rfl]at q3;subst q3;obtain⟨c,c1,c2,c3⟩:=A.bG;show vo h (N/65536) b 0 (N%65536) 0 n=true;rw[hN,(IR e sz h1).1,(IR e sz h1).2];unfold vo;rw[c1];simp only[Bool.and_eq_true];have fF:c.len=zs.length:=by rw[CT.dR,c2]
   simp;omega
theorem HS.E7 (H:HS g h L) (s:bp L (aa e sz n v xs) R):DU v h.nx=true:=by
 obtain⟨D,hl,⟨rfl,rfl,hD⟩ |⟨b,cp,o,zs,rfl,hD,A,q1,q2,q3⟩⟩:=H.p s
 ·rfl
 ·cases o with
  |false=>rfl
  |true=>exact iY A.lt
theorem qv6 {g1 g2 ha h0:AH} {L1 R1 L2 R2:List SP} {n1 n2 N:Nat} {xs1 xs2:List AV} {u:AV} {K0:Go.Ae.R} (H:HS g h L) (s:bp L (aa e sz n v xs) R) (H1:HS g1 ha L1) (s1:bp L1 (aa e sz n1 v xs1) R1) (H2:HS g2 h0 L2) (s2:bp L2 (aa e sz n2 v xs2) R2)
  (bP:0<sz) (h1:sz<65536) (hN:N=e*65536+sz) (w:wp K0 Q):wp (Xz v (some N) u h ha h0.nx K0) Q:=by
 unfold Xz;rw[qkT,H.fits s bP h1 hN,H1.fits s1 bP h1 hN,H2.E7 s2];exact w
end Go.Ae
namespace Go.Ae
theorem e_1 {a0 P:SP} {R:List SP}:bp (a0::P::R) P (a0::R):=.there .here
theorem e_2 {a0 a1 P:SP} {R:List SP}:bp (a0::a1::P::R) P (a0::a1::R):=.there e_1
theorem e_3 {a0 a1 a2 P:SP} {R:List SP}:bp (a0::a1::a2::P::R) P (a0::a1::a2::R):=.there e_2
theorem e_4 {a0 a1 a2 a3 P:SP} {R:List SP}:bp (a0::a1::a2::a3::P::R) P (a0::a1::a2::a3::R):=.there e_3
theorem e_5 {a0 a1 a2 a3 a4 P:SP} {R:List SP}:bp (a0::a1::a2::a3::a4::P::R) P (a0::a1::a2::a3::a4::R):=.there e_4
theorem e_6 {a0 a1 a2 a3 a4 a5 P:SP} {R:List SP}:bp (a0::a1::a2::a3::a4::a5::P::R) P (a0::a1::a2::a3::a4::a5::R):=.there e_5
theorem e_7 {a0 a1 a2 a3 a4 a5 a6 P:SP} {R:List SP}:bp (a0::a1::a2::a3::a4::a5::a6::P::R) P (a0::a1::a2::a3::a4::a5::a6::R):=.there e_6
theorem e_8 {a0 a1 a2 a3 a4 a5 a6 a7 P:SP} {R:List SP}:bp (a0::a1::a2::a3::a4::a5::a6::a7::P::R) P (a0::a1::a2::a3::a4::a5::a6::a7::R):=.there e_7
theorem e_9 {a0 a1 a2 a3 a4 a5 a6 a7 a8 P:SP} {R:List SP}:bp (a0::a1::a2::a3::a4::a5::a6::a7::a8::P::R) P (a0::a1::a2::a3::a4::a5::a6::a7::a8::R):=.there e_8
theorem e_10 {a0 a1 a2 a3 a4 a5 a6 a7 a8 a9 P:SP} {R:List SP}:bp (a0::a1::a2::a3::a4::a5::a6::a7::a8::a9::P::R) P (a0::a1::a2::a3::a4::a5::a6::a7::a8::a9::R):=.there e_9
theorem e_11 {a0 a1 a2 a3 a4 a5 a6 a7 a8 a9 eo P:SP} {R:List SP}:bp (a0::a1::a2::a3::a4::a5::a6::a7::a8::a9::eo::P::R) P (a0::a1::a2::a3::a4::a5::a6::a7::a8::a9::eo::R):=.there e_10
theorem e_12 {a0 a1 a2 a3 a4 a5 a6 a7 a8 a9 eo eL P:SP} {R:List SP}:bp (a0::a1::a2::a3::a4::a5::a6::a7::a8::a9::eo::eL::P::R) P (a0::a1::a2::a3::a4::a5::a6::a7::a8::a9::eo::eL::R):=.there e_11
end Go.Ae
namespace Go.Ae
open Go
theorem BV {tab:BT} {rt:List RT} {n:Nat} {f:FuncId} {P:Program} {pl:Pl} {S:Bq P pl f}  {h:AH} {Q:AV→AH→Prop} (hg:tab.get f=some (rZ S)) (hn:1≤n) (w:∀k,n=k+1→wp (S (callT tab rt k)  h).1 Q):wp (callT tab rt n (.fn f [] []) [] h) Q:=qA hg hn w
theorem aG {tab:BT} {rt:List RT} {n:Nat} {f:FuncId} {P:Program} {pl:Pl} {S:aY P pl f} {a0:AV} {h:AH} {Q:AV→AH→Prop} (hg:tab.get f=some (aZ S)) (hn:1≤n) (w:∀k,n=k+1→wp (S (callT tab rt k) a0 h).1 Q):wp (callT tab rt n (.fn f [] []) [a0] h) Q:=qA hg hn w
theorem bw {tab:BT} {rt:List RT} {n:Nat} {f:FuncId} {P:Program} {pl:Pl} {S:bW P pl f} {a0 a1:AV} {h:AH} {Q:AV→AH→Prop} (hg:tab.get f=some (bU S)) (hn:1≤n) (w:∀k,n=k+1→wp (S (callT tab rt k) a0 a1 h).1 Q):wp (callT tab rt n (.fn f [] []) [a0,a1] h) Q:=qA hg hn w
theorem cY {tab:BT} {rt:List RT} {n:Nat} {f:FuncId} {P:Program} {pl:Pl} {S:dp P pl f} {a0 a1 a2:AV} {h:AH} {Q:AV→AH→Prop} (hg:tab.get f=some (dq S)) (hn:1≤n) (w:∀k,n=k+1→wp (S (callT tab rt k) a0 a1 a2 h).1 Q):wp (callT tab rt n (.fn f [] []) [a0,a1,a2] h) Q:=qA hg hn w
theorem sX {tab:BT} {rt:List RT} {n:Nat} {f:FuncId} {P:Program} {pl:Pl} {S:lZ P pl f} {a0 a1 a2 a3:AV} {h:AH} {Q:AV→AH→Prop} (hg:tab.get f=some (eh S)) (hn:1≤n) (w:∀k,n=k+1→wp (S (callT tab rt k) a0 a1 a2 a3 h).1 Q):wp (callT tab rt n (.fn f [] []) [a0,a1,a2,a3] h) Q:=qA hg hn w
theorem RJ {tab:BT} {rt:List RT} {n:Nat} {f:FuncId} {P:Program} {pl:Pl} {S:r4 P pl f} {a0 a1 a2 a3 a4:AV} {h:AH} {Q:AV→AH→Prop} (hg:tab.get f=some (r5 S)) (hn:1≤n) (w:∀k,n=k+1→wp (S (callT tab rt k) a0 a1 a2 a3 a4 h).1 Q):wp (callT tab rt n (.fn f [] []) [a0,a1,a2,a3,a4] h) Q:=qA hg hn w
theorem RK {tab:BT} {rt:List RT} {n:Nat} {f:FuncId} {P:Program} {pl:Pl} {S:IA P pl f} {a0 a1 a2 a3 a4 a5 a6:AV} {h:AH} {Q:AV→AH→Prop} (hg:tab.get f=some (IB S)) (hn:1≤n) (w:∀k,n=k+1→wp (S (callT tab rt k) a0 a1 a2 a3 a4 a5 a6 h).1 Q):wp (callT tab rt n (.fn f [] []) [a0,a1,a2,a3,a4,a5,a6] h) Q:=qA hg hn w
end Go.Ae
