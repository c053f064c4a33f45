/- The abstract executor of the program's form in Lean, shown sound: steps of a run; a law's run. -/
import Derived.Test.YtefichdddddacaaGreatDoorTopAgainAe6
namespace Go.Ae
open Go
def wp (r:R) (Q:AV→AH→Prop):Prop:=∃v h,r=some (v,h)∧Q v h
variable {Q Q':AV→AH→Prop} {h h':AH} {k:IntKind} {a b:Int} {K:AV→R}
theorem wp.mono {r:R} (w:wp r Q) (hq:∀v h,Q v h→Q' v h):wp r Q':=by obtain⟨v,h,e,q⟩:=w;exact⟨v,h,e,hq v h q⟩
theorem qG {v:AV} {g:AH} (q:Q v g):wp (some (v,g)) Q:=⟨_,_,rfl,q⟩
theorem Q9 (a b:Int):mP a b=decide (a<b):=UQ a b
theorem XU (a b:Int):lC a b=decide (a=b):=by
 rw[Ua];by_cases h:a=b
 ·subst h;simp
 ·simp[h]
theorem QX (op:BinOp) (a b:Int) (K:AV→R):jb op (.int k a) (.int k b) K=ob (QK op k a b) K:=by rw[Ny];simp
theorem Xt (w:wp (K (.bool (decide (a<b)))) Q):wp (jb .lss (.int k a) (.int k b) K) Q:=by rw[QX];simpa only[QK,Q9]using w
theorem Mu (w:wp (K (.bool (decide (a≤b)))) Q):wp (jb .leq (.int k a) (.int k b) K) Q:=by rw[QX];simp only[QK,Q9];rw[show(!decide (b<a))=decide (a≤b) by rw[← decide_not];exact decide_eq_decide.2 omQ];exact w
theorem Fm (w:wp (K (.bool (decide (b<a)))) Q):wp (jb .gtr (.int k a) (.int k b) K) Q:=by rw[QX];simpa only[QK,Q9]using w
theorem Fo (w:wp (K (.bool (decide (b≤a)))) Q):wp (jb .geq (.int k a) (.int k b) K) Q:=by rw[QX];simp only[QK,Q9];rw[show(!decide (a<b))=decide (b≤a) by rw[← decide_not];exact decide_eq_decide.2 omQ];exact w
theorem J7 (w:wp (K (.bool (decide (a=b)))) Q):wp (jb .eql (.int k a) (.int k b) K) Q:=by rw[QX];simpa only[QK,XU]using w
theorem U2 (w:wp (K (.bool (decide (¬a=b)))) Q):wp (jb .neq (.int k a) (.int k b) K) Q:=by rw[QX];simp only[QK,XU];rw[← decide_not];exact w
theorem V4 {n:Int} (h:-9223372036854775808≤n∧n≤9223372036854775807):zv .i64 n=n:=by
 rw[ka,Y7]
 split<;>omega
theorem Dz {n:Int} (h:0≤n∧n≤18446744073709551615):zv .u64 n=n:=by rw[ka,Ue];omega
theorem LL {n:Int} (h:0≤n∧n≤255):zv .u8 n=n:=by rw[ka,IT];omega
theorem OJ (w:wp (K (.int k (zv k (a+b)))) Q):wp (jb .add (.int k a) (.int k b) K) Q:=by rw[QX];exact w
theorem Fp (w:wp (K (.int k (zv k (a-b)))) Q):wp (jb .sub (.int k a) (.int k b) K) Q:=by rw[QX];exact w
theorem LM (w:wp (K (.int k (zv k (a*b)))) Q):wp (jb .mul (.int k a) (.int k b) K) Q:=by rw[QX];exact w
theorem qb (h:-9223372036854775808≤a+b∧a+b≤9223372036854775807) (w:wp (K (.int .i64 (a+b))) Q):wp (jb .add (.int .i64 a) (.int .i64 b) K) Q:=OJ (by rw[V4 h];exact w)
theorem zD (h:-9223372036854775808≤a-b∧a-b≤9223372036854775807) (w:wp (K (.int .i64 (a-b))) Q):wp (jb .sub (.int .i64 a) (.int .i64 b) K) Q:=Fp (by rw[V4 h];exact w)
theorem Nv (h:-9223372036854775808≤a*b∧a*b≤9223372036854775807) (w:wp (K (.int .i64 (a*b))) Q):wp (jb .mul (.int .i64 a) (.int .i64 b) K) Q:=LM (by rw[V4 h];exact w)
theorem yv (h:0≤a+b∧a+b≤18446744073709551615) (w:wp (K (.int .u64 (a+b))) Q):wp (jb .add (.int .u64 a) (.int .u64 b) K) Q:=OJ (by rw[Dz h];exact w)
theorem gV (h:0≤a-b∧a-b≤18446744073709551615) (w:wp (K (.int .u64 (a-b))) Q):wp (jb .sub (.int .u64 a) (.int .u64 b) K) Q:=Fp (by rw[Dz h];exact w)
theorem Ja (h:b≠0) (w:wp (K (.int k (a.tmod b))) Q):wp (jb .rem (.int k a) (.int k b) K) Q:=by rw[QX];simp only[QK,XU,iV h,cond_false];exact w
theorem Fq (h:b≠0) (w:wp (K (.int k (zv k (a.tdiv b)))) Q):wp (jb .quo (.int k a) (.int k b) K) Q:=by rw[QX];simp only[QK,XU,iV h,cond_false];exact w
theorem Ya {d:IntKind} (w:wp (K (.int d (zv d a))) Q):wp (vM d (.int k a) K) Q:=w
theorem xg (h:-9223372036854775808≤a∧a≤9223372036854775807) (w:wp (K (.int .i64 a)) Q):wp (vM .i64 (.int k a) K) Q:=Ya (by rw[V4 h];exact w)
theorem yM (h:0≤a∧a≤18446744073709551615) (w:wp (K (.int .u64 a)) Q):wp (vM .u64 (.int k a) K) Q:=Ya (by rw[Dz h];exact w)
theorem qg4 {q:IntKind} (h:0≤b) (w:wp (K (.int k (zv k (a*2 ^ (min b.toNat k.bits))))) Q):wp (wm .shl (.int k a) (.int q b) K) Q:=by unfold wm;simp only[Ng,Q9,iV (show¬b<0 by omega),cond_false];exact w
theorem jY (w:wp (K (.bool false)) Q):wp (pQ .not (.bool true) K) Q:=w
theorem jB (w:wp (K (.bool true)) Q):wp (pQ .not (.bool false) K) Q:=w
theorem zk (w:wp (K (.int k (min a b))) Q):wp (nq false [.int k a,.int k b] K) Q:=by unfold nq;simp only[UH,cond_true,te,AI,beq_self_eq_true,cond_false,Option.bind_some,Q9];rw[show(bif decide (b<a)then b else a)=min a b by by_cases h:b<a<;>simp[h]<;>omega];exact w
theorem zn (w:wp (K (.int k (max a b))) Q):wp (nq true [.int k a,.int k b] K) Q:=by unfold nq;simp only[UH,cond_true,te,AI,beq_self_eq_true,Option.bind_some,Q9];rw[show(bif decide (a<b)then b else a)=max a b by by_cases h:a<b<;>simp[h]<;>omega];exact w
theorem ww {p:Prop} [Decidable p] {K:AV→R} (h1:p→wp (K (.bool true)) Q) (h2:¬p→wp (K (.bool false)) Q):wp (K (.bool (decide p))) Q:=by
 by_cases hp:p
 ·rw[iG hp];exact h1 hp
 ·rw[iV hp];exact h2 hp
theorem xw (h1:a<b→wp (K (.bool true)) Q) (h2:¬a<b→wp (K (.bool false)) Q):wp (jb .lss (.int k a) (.int k b) K) Q:=Xt (ww h1 h2)
theorem kj (h1:a≤b→wp (K (.bool true)) Q) (h2:¬a≤b→wp (K (.bool false)) Q):wp (jb .leq (.int k a) (.int k b) K) Q:=Mu (ww h1 h2)
theorem QD (h1:b<a→wp (K (.bool true)) Q) (h2:¬b<a→wp (K (.bool false)) Q):wp (jb .gtr (.int k a) (.int k b) K) Q:=Fm (ww h1 h2)
theorem yg (h1:b≤a→wp (K (.bool true)) Q) (h2:¬b≤a→wp (K (.bool false)) Q):wp (jb .geq (.int k a) (.int k b) K) Q:=Fo (ww h1 h2)
theorem gw (h1:a=b→wp (K (.bool true)) Q) (h2:¬a=b→wp (K (.bool false)) Q):wp (jb .eql (.int k a) (.int k b) K) Q:=J7 (ww h1 h2)
theorem vA (h1:¬a=b→wp (K (.bool true)) Q) (h2:a=b→wp (K (.bool false)) Q):wp (jb .neq (.int k a) (.int k b) K) Q:=U2 (ww h1 λh=>h2 (Decidable.byContradiction h))
variable {x y:R} {p:Prop} [Decidable p] {u v:AV}
theorem qk0 (h1:p→wp x Q) (h2:¬p→wp y Q):wp (zH (.bool (decide p)) x y) Q:=by
 rw[O3];by_cases hp:p
 ·simpa[hp]using h1 hp
 ·simpa[hp]using h2 hp
theorem wa {t:Bool} (h1:t=true→wp x Q) (h2:t=false→wp y Q):wp (zH (.bool t) x y) Q:=by
 cases t
 ·exact h2 rfl
 ·exact h1 rfl
theorem qX (w:wp x Q):wp (zH (.bool true) x y) Q:=w
theorem qJ (w:wp y Q):wp (zH (.bool false) x y) Q:=w
theorem qxi (h1:p→wp x Q) (h2:¬p→wp y Q):wp (vp (.bool (decide p)) true x y) Q:=by
 rw[K9];by_cases hp:p
 ·simpa[hp]using h1 hp
 ·simpa[hp]using h2 hp
theorem qa (w:wp x Q):wp (vp (.bool true) true x y) Q:=w
theorem jJ (w:wp y Q):wp (vp (.bool true) false x y) Q:=w
theorem qU (w:wp y Q):wp (vp (.bool false) true x y) Q:=w
theorem qd (w:wp x Q):wp (vp (.bool false) false x y) Q:=w
theorem zF {s:Bool} (w:wp y Q):wp (vp .undef s x y) Q:=w
theorem qH (w:wp (K u) Q):wp (gG (.bool true) u v K) Q:=w
theorem qI (w:wp (K v) Q):wp (gG (.bool false) u v K) Q:=w
theorem qW {α:Type} {j:α} {f:α→R} (w:wp (f j) Q):wp (xd j f) Q:=w
theorem Ni {σ:Type} {j:σ→AH→R} {f:(σ→AH→R)→R} (Inv:σ→AH→Prop) (hf:∀j':σ→AH→R,(∀s h,Inv s h→wp (j' s h) Q)→wp (f j') Q) (hj:∀s h,Inv s h→wp (j s h) Q):wp (xd j f) Q:=hf j hj
theorem jo {σ:Type} {j:σ→AH→List Nat→R} {f:(σ→AH→List Nat→R)→R} (ds:List Nat) (Inv:σ→AH→Prop) (hf:∀j':σ→AH→List Nat→R,(∀s h,Inv s h→wp (j' s h ds) Q)→wp (f j') Q)
  (hj:∀s h,Inv s h→wp (j s h ds) Q):wp (xd j f) Q:=hf j hj
theorem qk {K:AH→R} (w:wp (K h) Q):wp (zl [] h K) Q:=w
theorem jL {σ:Type} {f:(σ→AH→List Nat→R)→σ→AH→List Nat→R} {d:List Nat} (Inv:Nat→σ→AH→Prop)
  (step:∀m ih s h,(∀m' s' h',m'<m→Inv m' s' h'→wp (ih s' h' d) Q)→Inv m s h→wp (f ih s h d) Q):∀{N m:Nat} {s:σ} {h:AH},m<N→Inv m s h→wp (Xi N f s h d) Q:=by
 intro N
 induction N with
 |zero=>intro m s h hm;omega
 |succ N ih=>intro m s h hm hi;show wp (f (Xi N f) s h d) Q;exact step m _ s h (λm' s' h' au l9=>ih omQ l9) hi
theorem qV {c:CV} {f:AV} {as:List AV} {K:AV→AH→R} (w:wp (c f as h) Q') (hk:∀v h',Q' v h'→wp (K v h') Q):wp (ju c f as h K) Q:=by obtain⟨v,h',e,q⟩:=w;rw[QQ,e];exact hk v h' q
theorem qjE {tab:BT} {rt:List RT} {n:Nat} {f:FuncId} {as:List AV} {g:WF} (hg:tab.get f=some g):callT tab rt (n+1) (.fn f [] []) as h=g (callT tab rt n) as h:=by show Option.rec (motive:=λ_=>R) none (λg=>g (callT tab rt n) ([]++as++[]) h) (tab.get f)=_;rw[hg,List.nil_append,List.append_nil]
theorem qYM {tab:BT} {rt:List RT} {n:Nat} {f:FuncId} {a1 a2 as:List AV} {g:WF} (hg:tab.get f=some g):callT tab rt (n+1) (.fn f a1 a2) as h=g (callT tab rt n) (a1++as++a2) h:=by show Option.rec (motive:=λ_=>R) none (λg=>g (callT tab rt n) (a1++as++a2) h) (tab.get f)=_;rw[hg]
end Go.Ae
namespace Go.Ae
open Go
def wC (z:Nat) (c:CV):CV:=λv as h=>match v,as with
 | .fn f [] [],[]=>if f=z then some (.bool true,h)else c v as h
 |_,_=>c v as h
theorem qGM {z:Nat} {c:CV} {h:AH}:wC z c (.fn z [] []) [] h=some (.bool true,h):=iJ rfl
theorem qQs {z f:Nat} {c:CV} {as:List AV} {h:AH} (hf:f≠z):wC z c (.fn f [] []) as h=c (.fn f [] []) as h:=by
 cases as with
 |nil=>exact iQ hf
 |cons a as=>rfl
theorem qy {tab:BT} {rt:List RT} {n:Nat} {f:FuncId} {as:List AV} {g:WF} {h:AH} {Q:AV→AH→Prop} (hg:tab.get f=some g) (hn:1≤n) (w:∀k,n=k+1→wp (g (callT tab rt k) as h) Q):wp (callT tab rt n (.fn f [] []) as h) Q:=by obtain⟨k,rfl⟩:∃k,n=k+1:=⟨n-1,by omega⟩;rw[qjE hg];exact w k rfl
theorem LN {tab:BT} {rt:List RT} {n:Nat} {f:FuncId} {a1 a2 as:List AV} {g:WF} {h:AH} {Q:AV→AH→Prop} (hg:tab.get f=some g) (hn:1≤n) (w:∀k,n=k+1→wp (g (callT tab rt k) (a1++as++a2) h) Q):wp (callT tab rt n (.fn f a1 a2) as h) Q:=by obtain⟨k,rfl⟩:∃k,n=k+1:=⟨n-1,by omega⟩;rw[qYM hg];exact w k rfl
theorem vj {z:Nat} {c:CV} {f:FuncId} {as:List AV} {h:AH} {Q Q':AV→AH→Prop} {K:AV→AH→R} (hf:f≠z) (w:wp (c (.fn f [] []) as h) Q') (hk:∀v h',Q' v h'→wp (K v h') Q):wp (ju (wC z c) (.fn f [] []) as h K) Q :=
 qV (by rw[qQs hf];exact w) hk
theorem qg3 {z:Nat} {c:CV} {h:AH} {Q:AV→AH→Prop} {K:AV→AH→R} (hk:wp (K (.bool true) h) Q):wp (ju (wC z c) (.fn z [] []) [] h K) Q :=
 qV (Q':=λv h'=>v=.bool true∧h'=h) ⟨_,_,qGM,rfl,rfl⟩ (by rintro v h' ⟨rfl,rfl⟩;exact hk)
theorem Xg {P:Program} {m:Mp} {D:Nat→Prop} {h:AH} {w w':World} (R:Rel P m D h w) (B:RowKit.Below w.heap.size w w'):Ext m D h w m D h w'∧Rel P m D h w':=by
 refine Ext.rel R ?_;refine⟨⟨λ_ x=>x,λ_ _=>rfl,B.size,λc hc hn=>⟨B.block c hc,hn⟩,Nat.le_refl _,λ_ _ hn=>⟨rfl,hn⟩,B.os,B.tape,B.output,λb=>⟨.inl,λhb=>hb.elim id λhb=>by omega⟩,λ_ _ h1 h2=>⟨h1,h2⟩⟩,?_,R.inj,R.lt,R.cI⟩;intro b hb;obtain⟨x,hx,hr,hd⟩:=R.bp b hb;refine⟨x,hx,?_,hd⟩;cases x with
 |dead=>trivial
 |cI t=>exact hr.congr (λ_ _=>rfl) hd (B.block _ hr.fG)
 |_=>exact hr.congr (λ_ _=>rfl) hd (B.block _ (cR.inside (by exact True.intro) hr))
theorem qQn {P:Program} {c:CV} (hc:xu P c) {z:Nat} (tW:∀(as:Array Value) (W:World),(callFunc z as).run P W=.ok (.enter z as) W)
  (cK:∀(w:World) (n:Nat),Gl P w→CallsIn Fence.wide n P z #[] w λe w'=>e=.returned (.bool true)∧RowKit.Below w.heap.size w w'):xu P (wC z c):=by
 intro vf as h r e m D w R hv ha;unfold wC at e
 split at e
 ·rename_i f
  split at e
  ·rename_i hf;subst hf;cases e;refine⟨tW,λn=>CallsIn.mono (cK w n R.gl.gl) ?_⟩;rintro ee w' ⟨rfl,B⟩;obtain⟨X,R'⟩:=Xg R B;exact⟨m,D,rfl,X,R',trivial⟩
  ·exact hc _ _ _ _ e m D w R hv ha
 ·exact hc _ _ _ _ e m D w R hv ha
theorem open_law {P:Program} {tab:BT} {rt:List RT} (hm:P.follows .mixedOrders=true) (ht:TabOk P tab rt) {z:Nat} {gz:WF} (hz:tab.get z=some gz)
  (cK:∀(w:World) (n:Nat),Gl P w→CallsIn Fence.wide n P z #[] w λe w'=>e=.returned (.bool true)∧RowKit.Below w.heap.size w w')
  {f:FuncId} {g:WF} (hg:tab.get f=some g) {k:Nat} {as:List AV} {w:World} {h:AH} (M:w7 w h) (tX:Gl P w) (ha:aW (y8 w) as)
  (e:wp (g (wC z (callT tab rt k)) as h) λv _=>v=.bool true) (n:Nat):CallsIn Fence.wide n P f (aS GQ as).toArray w λe w'=>e=.returned (.bool true)∧RowKit.Below w.heap.size w w':=by
 obtain⟨v,h',e,rfl⟩:=e;have hc:=qQn (OE hm ht k) (ht.enter z gz hz) cK;refine CallsIn.mono ((ht.w f g hg).call hc (LF hm hc) e (M.rel tX) ha n) ?_;rintro ee w' ⟨m',D',rfl,X,R',_⟩;exact⟨rfl,X.os,X.tape,X.output,X.size,λk hk=>(X.keep k hk (λ⟨b,hb,hl,_⟩=>M.iT hb hl)).1⟩
theorem Fs {P:Program} {h:AH} {d:Nat} {t0 t1 t2:TypeId} {l:List AV} (H:Dy P h d [t0,t1,t2] l):∃a0 a1 a2,l=[a0,a1,a2]∧tV P h d t0 a0∧tV P h d t1 a1∧tV P h d t2 a2:=by
 cases l with
 |nil=>exact H.elim
 |cons a0 l=>
 obtain⟨h0,H⟩:=H;cases l with
 |nil=>exact H.elim
 |cons a1 l=>
 obtain⟨h1,H⟩:=H;cases l with
 |nil=>exact H.elim
 |cons a2 l=>
 obtain⟨h2,H⟩:=H;cases l with
 |cons _ _=>exact H.elim
 |nil=>exact⟨a0,a1,a2,rfl,h0,h1,h2⟩
end Go.Ae
namespace Go.Ae
open Go
variable {Q:AV→AH→Prop} {h h' nu:AH} {K:AV→R} {K2:AV→AH→R} {K1:AH→R} {b off n sz:Nat} {xs ys l:List AV} {e:TypeId} {o:Bool} {x v:AV} {k:IntKind}
def CT.full:CT→Prop
 | .dW _=>True
 | .tree n z tr=>∀i,i<n→∃v,Qz z tr i=some v
theorem CT.nK {c:CT} (hc:c.full) (i:Nat):c.dX i=c.toList[i]?:=by
 cases c with
 |dW xs=>exact xR xs i
 |tree n z tr=>
  simp only[CT.dX,CT.toList,List.getElem?_map];cases hb:Nat.ble (i+1) n
  ·have:=Ga hb;rw[cond_false,List.getElem?_eq_none (by simp;omega)];rfl
  ·have:=vv hb;obtain⟨v,hv⟩:=hc i omQ;rw[cond_true,List.getElem?_range omQ,hv];simp only[Option.map_some,XF hv]
theorem LO {z:List AV} {t:aJ AV}:∀{l:List AV} {i:Nat},(∀k,k<l.length→Qz z t (i+k)=l[k]?)→Qs z t i l.length=some l:=by
 intro l
 induction l with
 |nil=>intro i _;rfl
 |cons a l ih=>intro i H;rw[List.length_cons,M7];have h0:=H 0 aN;simp only[Nat.add_zero,List.getElem?_cons_zero]at h0;rw[h0,Option.bind_some,ih (i:=i+1) (λk hk=>by have:=H (k+1) (by simp;omega);simp only[List.getElem?_cons_succ]at this;rw[← this];congr 1;omega)];rfl
theorem Uu {t:aJ AV} {i:Nat}:Qz [] t i=aJ.get t i:=by
 rw[yC]
 split
 ·rename_i h;rw[h]
 ·rename_i h;rw[Uz,h]
theorem Xf {α:Type} {xs l:List α} {off:Nat} (H:∀i,i<l.length→xs[off+i]? =l[i]?):(xs.drop off).take l.length=l:=by
 apply List.ext_getElem?;intro i;by_cases hi:i<l.length
 ·rw[List.getElem?_take_of_lt hi,List.getElem?_drop,H i hi]
 ·rw[List.getElem?_eq_none (by simp;omega),List.getElem?_eq_none omQ]
theorem XE (hl:0<l.length) (H:∀i,i<l.length→h.at b (off+i)=l[i]?):yK h b off l.length=some l:=by
 have hd:∀i,i<l.length→∃u,l[i]? =some u:=λi hi=>⟨_,iW hi⟩;have bP:=H (l.length-1) omQ;obtain⟨u,hu⟩:=hd (l.length-1) omQ;unfold AH.at at H bP;unfold yK;cases hg:h.get b with
 |none=>simp only[hg]at bP;rw[hu]at bP;cases bP
 |some x=>
  simp only[hg]at H bP;cases x with
  |cells c e o=>
   simp only at H bP ⊢;cases c with
   |dW ys=>simp only[CT.dX,xR]at H bP;simp only[CT.fM,wc];rw[hu]at bP;have:=(List.getElem?_eq_some_iff.1 bP).1;rw[gY (by simp;omega),Xf H]
   |tree m z tr=>
    simp only[CT.dX]at H bP;have hm:off+l.length≤m:=by
     rw[hu]at bP;cases hb:Nat.ble (off+(l.length-1)+1) m
     ·rw[hb]at bP;cases bP
     ·have:=vv hb;omega
    simp only[CT.fM];rw[show Nat.beq l.length 0=false from yG omQ,cond_false,iY hm,cond_true];refine LO λk hk=>?_;have:=H k hk;rw[iY (show off+k+1≤m by omega),cond_true]at this;exact this
  |cI t=>simp only at H ⊢;exact LO λk hk=>by rw[Uu];exact H k hk
  |_=>simp only at bP;rw[hu]at bP;cases bP
theorem Ql (hx:h.at b off=some x) (w:wp (K x) Q):wp (jj h (.ptr b off) K) Q:=by
 unfold AH.at at hx;rw[y7];simp only
 split at hx
 ·rename_i hg;rw[hg];simp only[hx,ob];exact w
 ·rename_i hg;rw[hg];simp only[hx,ob];exact w
 ·cases hx
theorem O1 (hl:l.length=n) (hn:0<n) (H:∀i,i<n→h.at b (off+i)=l[i]?) (w:wp (K (.agg l)) Q):wp (zi h (.ptr b off) n K) Q:=by subst hl;rw[wz];simp only[XE hn H,ob];exact w
structure Fr (fp:Nat→Prop) (h h':AH):Prop where
  nx:h.nx≤h'.nx
  get:∀b,b<h.nx→¬fp b→h'.get b=h.get b
theorem Fr.refl (fp:Nat→Prop) (h:AH):Fr fp h h:=⟨Nat.le_refl _,λ_ _ _=>rfl⟩
theorem Fr.mono {fp fq:Nat→Prop} (F:Fr fp h h') (H:∀b,b<h.nx→fp b→fq b):Fr fq h h':=⟨F.nx,λb hb hn=>F.get b hb λhf=>hn (H b hb hf)⟩
theorem Fr.trans {fp fq:Nat→Prop} (F:Fr fp h h') (G:Fr fq h' nu):Fr (λb=>fp b∨fq b) h nu :=
 ⟨Nat.le_trans F.nx G.nx,λb hb hn=>(G.get b (Nat.lt_of_lt_of_le hb F.nx) λhf=>hn (.inr hf)).trans (F.get b hb λhf=>hn (.inl hf))⟩
abbrev oa (N:Nat) (h h':AH):Prop:=Fr (λb=>N≤b) h h'
theorem oa.refl (N:Nat) (h:AH):oa N h h:=Fr.refl _ _
theorem oa.step {N:Nat} {fp:Nat→Prop} (F:oa N h h') (G:Fr fp h' nu) (H:∀b,fp b→N≤b):oa N h nu :=
 (F.trans G).mono λb _ hb=>hb.elim id (H b)
structure Row (h:AH) (b:Nat) (xs:List AV) (e:TypeId) (o:Bool):Prop where
  lt:b<h.nx
  bp:∃c,h.get b=some (.cells c e o)∧c.toList=xs∧c.full
theorem Row.fr {fp:Nat→Prop} (A:Row h b xs e o) (F:Fr fp h h') (hb:¬fp b):Row h' b xs e o :=
 ⟨Nat.lt_of_lt_of_le A.lt F.nx,by rw[F.get b A.lt hb];exact A.bp⟩
theorem Row.at (A:Row h b xs e o) (i:Nat):h.at b i=xs[i]?:=by
 obtain⟨c,h1,rfl,h3⟩:=A.bp;unfold AH.at
 rw[h1];exact CT.nK h3 i
theorem LQ {fp:Nat→Prop} {i:Nat} (F:Fr fp h h') (hb:b<h.nx) (hf:¬fp b):h'.at b i=h.at b i:=by unfold AH.at;rw[F.get b hb hf]
theorem CT.bt (xs:List AV):(CT.ofList xs).full:=by
 unfold CT.ofList;cases Nat.ble xs.length 16
 ·intro i hi;refine⟨xs[i],?_⟩;rw[Uu,wI,iJ omQ,Nat.sub_zero,iW hi]
 ·trivial
theorem CT.o8 (z:List AV) (n:Nat):(CT.uL z n).full:=by
 unfold CT.uL;cases hb:Nat.ble (z.length*n) 16
 ·intro i hi;have h1:=Ga hb;have hz:0<z.length:=Nat.pos_of_ne_zero λh0=>by rw[h0,Nat.zero_mul]at h1;omega
  have hm:=Nat.mod_lt i hz;refine⟨z[i%z.length],?_⟩;rw[yC,show aJ.get (PT.e:aJ AV) i=none from aJ.eo i];simp only;rw[xR,iW hm]
 ·trivial
theorem Mo {z:List AV} {t:aJ AV} {i:Nat} {xs:List AV} {j:Nat}:Qz z (ZV t i xs) j=if i≤j∧j<i+xs.length then xs[j-i]? else Qz z t j:=by
 rw[yC,yC,wI];by_cases hj:i≤j∧j<i+xs.length
 ·rw[iJ hj,iJ hj,iW omQ]
 ·rw[iQ hj,iQ hj]
theorem CT.mG {c c':CT} (hc:c.full) (e:c.write off xs=some c'):c'.full:=by
 cases c with
 |dW ys=>simp only[CT.write,Option.bind_eq_some_iff]at e;obtain⟨s,_,e⟩:=e;cases e;trivial
 |tree n z tr=>
  simp only[CT.write,jZ]at e;obtain⟨_,e⟩:=e;cases e;intro i hi;rw[Mo];by_cases hj:off≤i∧i<off+xs.length
  ·rw[iJ hj];exact⟨_,iW omQ⟩
  ·rw[iQ hj];exact hc i hi
theorem CT.mH {c:CT} (ho:off+xs.length≤c.toList.length):∃c',c.write off xs=some c':=by
 cases c with
 |dW ys=>exact⟨_,by simp only[CT.write];rw[GO (show off+xs.length≤ys.length from ho)];rfl⟩
 |tree n z tr=>exact⟨_,by simp only[CT.write];rw[iY (by simpa[CT.toList]using ho),cond_true]⟩
theorem CT.o9 {c:CT} (hc:c.full) (xs:List AV):(c.fb xs).full:=by
 cases c with
 |dW ys=>exact CT.bt _
 |tree n z tr=>
  intro i hi;rw[Mo];by_cases hj:n≤i∧i<n+xs.length
  ·rw[iJ hj];exact⟨_,iW omQ⟩
  ·rw[iQ hj];exact hc i omQ
theorem CT.pb {c:CT} (hc:c.full) (hn:n≤c.toList.length):∃c',c.pre n=some c'∧c'.toList=c.toList.take n∧c'.full:=by
 have key:∃c',c.pre n=some c'∧c'.full:=by
  cases c with
  |dW ys=>exact⟨.dW (ys.take n),by simp only[CT.pre];rw[gY (show n≤ys.length from hn)];rfl,trivial⟩
  |tree m z tr=>
   have hm:n≤m:=by simpa[CT.toList]using hn
   exact⟨.tree n z tr,by simp only[CT.pre];rw[iY hm,cond_true],λi hi=>hc i omQ⟩
 obtain⟨c',h1,h2⟩:=key;have h3:=CT.mu h1;rw[gY hn]at h3;exact⟨c',h1,(Option.some.inj h3).symm,h2⟩
def kT (xs:List AV) (off:Nat) (ys:List AV):List AV:=xs.take off++ys++xs.drop (off+ys.length)
theorem Y1 (ho:off+ys.length≤xs.length):(kT xs off ys).length=xs.length:=by simp[kT];omega
theorem qGt (ho:off+ys.length≤xs.length) (i:Nat):(kT xs off ys)[i]? =if off≤i∧i<off+ys.length then ys[i-off]? else xs[i]?:=by
 unfold kT;by_cases h1:i<off
 ·rw[iQ omQ,List.append_assoc,List.getElem?_append_left (by simp;omega),List.getElem?_take_of_lt h1]
 ·by_cases h2:i<off+ys.length
  ·rw[iJ omQ,List.getElem?_append_left (by simp;omega),List.getElem?_append_right (by simp;omega)]
   congr 1;simp;omega
  ·rw[iQ omQ,List.getElem?_append_right (by simp;omega),List.getElem?_drop]
   congr 1;simp;omega
theorem Y6 {y:AV} (ho:off<xs.length):kT xs off [y]=xs.set off y:=by
 apply List.ext_getElem?;intro i;rw[qGt (by simp;omega),List.getElem?_set];by_cases h1:off=i
 ·subst h1;rw[iJ aN,iJ rfl,iJ ho];simp
 ·rw[iQ (by simp;omega),iQ h1]
theorem G7 (A:Row h b xs e o) (ho:off+ys.length≤xs.length) (h1:qn ys=true):∃h',gC h b off ys=some h'∧Row h' b (kT xs off ys) e o∧Fr (λa=>a=b) h h'∧h'.nx=h.nx:=by obtain⟨c,g1,rfl,g3⟩:=A.bp;obtain⟨c',mw⟩:=CT.mH (c:=c) ho;have h2:=CT.lG mw;rw[GO ho]at h2;refine⟨h.put b (.cells c' e o),?_,⟨A.lt,c',AH.aQ ..,(Option.some.inj h2).symm,CT.mG g3 mw⟩,⟨Nat.le_refl _,λa _ hn=>AH.bn h _ (λe=>hn e.symm)⟩,rfl⟩;unfold gC;rw[g1];simp only[h1,cond_true,mw,Option.bind_some]
theorem Zh (A:Row h b xs e o) (hn:x.cells.length=n) (ho:off+n≤xs.length) (h1:qn x.cells=true)
  (w:∀h',Row h' b (kT xs off x.cells) e o→Fr (λa=>a=b) h h'→h'.nx=h.nx→wp (K1 h') Q):wp (jP h (.ptr b off) x n K1) Q:=by
 subst hn;obtain⟨h',g1,g2,g3,g4⟩:=G7 A ho h1;rw[GM];simp only[Nat.beq_refl,cond_true,g1,ob];exact w h' g2 g3 g4
theorem Row.new {c:CT} (hc:c.full):Row (h.new (.cells c e o)) h.nx c.toList e o∧Fr (λ_=>False) h (h.new (.cells c e o)) :=
 ⟨⟨by simp,c,AH.br ..,rfl,hc⟩,⟨by simp,λb hb _=>AH.bJ h _ omQ⟩⟩
theorem qgf (h1:qn x.cells=true) (w:∀b h',h.nx≤b→Row h' b x.cells e false→Fr (λ_=>False) h h'→wp (K2 (.ptr b 0) h') Q):wp (gc h e x K2) Q:=by unfold gc;rw[h1,cond_true];obtain⟨a1,a2⟩:=Row.new (h:=h) (e:=e) (o:=false) (CT.bt x.cells);rw[CT.aI]at a1;exact w h.nx _ (Nat.le_refl _) a1 a2
theorem qM {z:List AV} {vs:List (Nat×Nat×AV)} (hf:yV z vs=some l) (w:wp (K (.agg l)) Q):wp (yR z vs K) Q:=by unfold yR;rw[hf];exact w
theorem qKm {z:List AV} {vs:List (Nat×Nat×AV)} (hf:yV (yr z n) vs=some l) (h1:qn l=true)
  (w:∀b h',h.nx≤b→Row h' b l e false→Fr (λ_=>False) h h'→wp (K2 (.slice b 0 n n false) h') Q):wp (yZ h e z n vs K2) Q:=by
 unfold yZ;simp only[hf,ob,h1,cond_true];obtain⟨a1,a2⟩:=Row.new (h:=h) (e:=e) (o:=false) (CT.bt l);rw[CT.aI]at a1;exact w h.nx _ (Nat.le_refl _) a1 a2
theorem Oi (z:AV):∀n,yr [z] n=List.replicate n z:=by
 intro n
 induction n with
 |zero=>rfl
 |succ n ih=>rw[yr,ih,List.replicate_succ];rfl
theorem LR {z:List AV} {ln cp:Nat} {k1 k2:IntKind} (h1:ln≤cp) (h2:cp≤1073741824)
  (w:∀b h',h.nx≤b→Row h' b (yr z cp) e false→Fr (λ_=>False) h h'→wp (K2 (.slice b 0 ln cp false) h') Q):wp (Qv h e z (.int k1 (ln:Int)) (.int k2 (cp:Int)) K2) Q:=by
 show wp (bif Nat.ble ln cp&&Nat.ble cp 1073741824 then K2 (.slice h.nx 0 ln cp false) (h.new (.cells (CT.uL z cp) e false))else none) Q;rw[iY h1,iY h2];obtain⟨a1,a2⟩:=Row.new (h:=h) (e:=e) (o:=false) (CT.o8 z cp);rw[CT.mq]at a1;exact w h.nx _ (Nat.le_refl _) a1 a2
theorem qi {f:Nat} (w:wp (K (.ptr b (off+f))) Q):wp (qp (.ptr b off) f K) Q:=w
theorem XS {cp i:Nat} (hi:i<n) (w:wp (K (.ptr b (off+i*sz))) Q):wp (vG (.slice b off n cp o) (.int k (i:Int)) sz K) Q:=by rw[Kf];show wp (bif Nat.ble (i+1) n then K (.ptr b (off+i*sz))else none) Q;rw[iY hi,cond_true];exact w
theorem qD {i:Nat} (hx:l[i]? =some x) (w:wp (K x) Q):wp (xq (.bM l) i K) Q:=by rw[JN];simp only[xR,hx,ob];exact w
def AH.rd (h:AH) (b:Nat):Prop:=match h.get b with
 |some (.cells _ _ _)=>True
 |some (.cI _)=>True
 |_=>False
theorem LS {fp:Nat→Prop} (F:Fr fp h h') (hb:b<h.nx) (hf:¬fp b) (hr:h.rd b):h'.rd b:=by unfold AH.rd at*;rw[F.get b hb hf];exact hr
theorem Row.rd (A:Row h b xs e o):h.rd b:=by obtain⟨c,h1,_⟩:=A.bp;unfold AH.rd;rw[h1];trivial
inductive Sl (D:Nat→Prop) (h:AH) (sz:Nat):Nat→AV→List AV→Prop
  |ak:Sl D h sz 0 .ak []
  |bT (a:Addr):Sl D h sz 0 (.bT a) []
  |tail (b off nm i1:Nat):Sl D h sz 0 (.tail b off nm i1) []
  |mk {b off n cp:Nat} {o:Bool} {xs:List AV} (hd:D b) (hb:b<h.nx) (hr:h.rd b) (hl:xs.length=n*sz) (ha:∀i,i<n*sz→h.at b (off+i)=xs[i]?):Sl D h sz n (.slice b off n cp o) xs
theorem Sl.len {D:Nat→Prop} (S:Sl D h sz n v xs):xs.length=n*sz:=by
 cases S with
 |ak=>simp
 |bT a=>simp
 |tail b o o' i=>simp
 |mk hd hb hr hl ha=>exact hl
theorem Sl.fr {D fp:Nat→Prop} (S:Sl D h sz n v xs) (F:Fr fp h h') (hD:∀b,D b→¬fp b):Sl D h' sz n v xs:=by
 cases S with
 |ak=>exact .ak
 |bT a=>exact .bT a
 |tail b o o' i=>exact .tail b o o' i
 |mk hd hb hr hl ha=>exact .mk hd (Nat.lt_of_lt_of_le hb F.nx) (LS F hb (hD _ hd) hr) hl λi hi=>by rw[LQ F hb (hD _ hd)];exact ha i hi
theorem Sl.mono {D D':Nat→Prop} (S:Sl D h sz n v xs) (hD:∀b,D b→D' b):Sl D' h sz n v xs:=by
 cases S with
 |ak=>exact .ak
 |bT a=>exact .bT a
 |tail b o o' i=>exact .tail b o o' i
 |mk hd hb hr hl ha=>exact .mk (hD _ hd) hb hr hl ha
theorem Sl.cW {D:Nat→Prop} (S:Sl D h sz n v xs) (F:oa h.nx h h'):Sl D h' sz n v xs:=by
 cases S with
 |ak=>exact .ak
 |bT a=>exact .bT a
 |tail b o o' i=>exact .tail b o o' i
 |mk hd hb hr hl ha=>exact .mk hd (Nat.lt_of_lt_of_le hb F.nx) (LS F hb omQ hr) hl λi hi=>by rw[LQ F hb omQ];exact ha i hi
theorem Row.cW {N:Nat} (A:Row h b xs e o) (F:oa N h h') (hb:b<N):Row h' b xs e o:=A.fr F omQ
theorem x5 {D:Nat→Prop} (S:Sl D h sz n v xs) (w:wp (K (.int .i64 (n:Int))) Q):wp (kl v K) Q:=by
 cases S<;>exact w
theorem Ft {D:Nat→Prop} {i:Nat} (S:Sl D h sz n v xs) (hi:i<n) (w:∀b off,b<h.nx→D b→(∀j,j<sz→h.at b (off+j)=xs[i*sz+j]?)→wp (K (.ptr b off)) Q):wp (vG v (.int k (i:Int)) sz K) Q:=by
 cases S with
 |ak=>omega
 |bT a=>omega
 |tail b o o' i=>omega
 |mk hd hb hr hl ha=>
  refine XS hi (w _ _ hb hd λj hj=>?_)
  rw[Nat.add_assoc,ha _ (by
   have:i*sz+sz≤n*sz:=by rw[← Nat.succ_mul];exact Nat.mul_le_mul_right sz hi
   omega)]
theorem Sl.rH {D:Nat→Prop} {cp:Nat} (A:Row h b xs e o) (hd:D b) (ho:xs.length=n*sz):Sl D h sz n (.slice b 0 n cp o) xs :=
 .mk hd A.lt A.rd ho λi _=>by rw[A.at,Nat.zero_add]
theorem y0 {y d i:Nat} (hi:i≤y):yO (some (.int k (i:Int))) y d=some i:=by show(bif Nat.ble i y then some i else none)=some i;rw[iY hi];rfl
theorem Fu {el cp lo hi:Nat} {BK BL:Option AV} (hh:yO BL cp n=some hi) (hl:yO BK hi 0=some lo) (w:wp (K (.slice b (bif Nat.beq cp lo then off else off+lo*sz) (hi-lo) (cp-lo) false)) Q):wp (yX h el sz (.slice b off n cp false) BK BL K) Q:=by unfold yX;simp only[hh,hl,ob];exact w
theorem NL {i0 lo hi:Nat} {BK BL:Option AV} (A:Row h b xs e true) (bx:0<sz) (ho:off=i0*sz) (hx:off+n*sz≤xs.length) (hh:yO BL n n=some hi) (hl:yO BK hi 0=some lo) (au:lo<n∨lo=0)
  (w:wp (K (.slice b (off+lo*sz) (hi-lo) (i0+lo) true)) Q):wp (yX h e sz (.slice b off n i0 true) BK BL K) Q:=by
 obtain⟨c,g1,g2,g3⟩:=A.bp;unfold yX;have hf:yE h e b off sz i0 n=true:=by unfold yE;rw[g1];simp only[Nat.beq_refl,Bool.true_and,Bool.and_eq_true];refine⟨iY bx,by rw[ho];exact Nat.beq_refl _,iY ?_⟩;rw[CT.dl,g2];exact hx
 simp only[hf,cond_true,hh,hl,ob];by_cases h0:lo=0
 ·subst h0;simpa using w
 ·rw[show Nat.beq lo 0=false from yG h0,cond_false,iY (show lo+1≤n by omega),cond_true];exact w
def shut:AV→Bool
 | .slice _ _ _ _ o=>!o
 | .tail _ _ _ _=>false
 |_=>true
theorem qj3 {D:Nat→Prop} (S:Sl D h sz n v xs):Gk v=some n:=by cases S<;>rfl
theorem CT.tY {c:CT} {ys:List AV} (H:∀i,i<ys.length→c.dX i=ys[i]?):∃c',c.pre ys.length=some c'∧c'.toList=ys∧c'.full:=by
 by_cases h0:ys.length=0
 ·have:=iA h0;subst this;cases c with
  |dW xs=>exact⟨.dW [],rfl,rfl,trivial⟩
  |tree m z tr=>exact⟨.tree 0 z tr,by simp only[CT.pre,List.length_nil];rw[iY (Nat.zero_le _),cond_true],rfl,λi hi=>by omega⟩
 ·have bP:=H (ys.length-1) omQ;rw[iW omQ]at bP;cases c with
  |dW xs=>simp only[CT.dX,xR]at H bP;have hl:=(List.getElem?_eq_some_iff.1 bP).1;refine⟨.dW (xs.take ys.length),by simp only[CT.pre];rw[gY omQ];rfl,?_,trivial⟩;have:=Xf (xs:=xs) (l:=ys) (off:=0) (λi hi=>by rw[Nat.zero_add];exact H i hi);simpa[CT.toList]using this
  |tree m z tr=>
   simp only[CT.dX]at H bP;have hm:ys.length≤m:=by
    cases hb:Nat.ble (ys.length-1+1) m
    ·rw[hb]at bP;cases bP
    ·have:=vv hb;omega
   have ht:∀i,i<ys.length→Qz z tr i=ys[i]?:=λi hi=>by
    have:=H i hi;rw[iY (show i+1≤m by omega),cond_true]at this;exact this
   refine⟨.tree ys.length z tr,by simp only[CT.pre];rw[iY hm,cond_true],?_,λi hi=>⟨_,(ht i hi).trans (iW hi)⟩⟩;apply List.ext_getElem?;intro i;simp only[CT.toList,List.getElem?_map];by_cases hi:i<ys.length
   ·rw[List.getElem?_range hi,Option.map_some,XF ((ht i hi).trans (iW hi)),iW hi]
   ·rw[List.getElem?_eq_none (by simp;omega),List.getElem?_eq_none omQ];rfl
theorem qGF {D:Nat→Prop} (S:Sl D h sz n v ys):∃nc,U6 h sz n v=some nc∧nc.toList=ys∧nc.full:=by
 cases S with
 |ak=>exact⟨_,rfl,rfl,trivial⟩
 |bT a=>exact⟨_,rfl,rfl,trivial⟩
 |tail b o o' i=>exact⟨_,rfl,rfl,trivial⟩
 |mk hd hb hr hl ha=>
  rename_i b off cp o;have lU:0<ys.length→yK h b off ys.length=some ys:=λh0=>XE h0 λi hi=>ha i omQ;unfold U6;simp only[← hl];unfold AH.rd at hr;unfold AH.at at ha;unfold yK at lU
  split at hr
  ·rename_i c e' o' hg;simp only[hg]at ha lU ⊢;unfold CT.C6;by_cases h0:off=0
   ·subst h0;rw[Nat.beq_refl,cond_true];obtain⟨c',h1,h2,h3⟩:=CT.tY (c:=c) (ys:=ys) λi hi=>by have:=ha i omQ;rw[Nat.zero_add]at this;exact this
    exact⟨c',h1,h2,h3⟩
   ·rw[show Nat.beq off 0=false from yG h0,cond_false];by_cases hy:0<ys.length
    ·rw[lU hy];exact⟨_,rfl,CT.aI ys,CT.bt ys⟩
    ·have:=iA (show ys.length=0 by omega);subst this;refine⟨CT.ofList [],?_,CT.aI [],CT.bt []⟩;cases c<;>rfl
  ·rename_i t hg;simp only[hg]at lU ⊢;by_cases hy:0<ys.length
   ·rw[lU hy];exact⟨_,rfl,CT.aI ys,CT.bt ys⟩
   ·have:=iA (show ys.length=0 by omega);subst this;exact⟨CT.ofList [],rfl,CT.aI [],CT.bt []⟩
  ·exact hr.elim
def Acc (D:Nat→Prop) (h:AH) (e:TypeId) (sz n:Nat) (v:AV) (xs:List AV):Prop :=
 xs.length=n*sz∧(v=.ak∧n=0∨∃b,v=.slice b 0 n 0 true∧D b∧Row h b xs e true)
theorem Acc.ak {D:Nat→Prop}:Acc D h e sz 0 .ak []:=⟨by simp,.inl ⟨rfl,rfl⟩⟩
theorem Acc.sl {D:Nat→Prop} (A:Acc D h e sz n v xs):Sl D h sz n v xs:=by
 obtain⟨h1,⟨rfl,rfl⟩ |⟨b,rfl,h2,h3⟩⟩:=A
 ·obtain rfl:xs=[]:=iA (by simpa using h1);exact .ak
 ·exact .rH h3 h2 h1
theorem Acc.fr {D fp:Nat→Prop} (A:Acc D h e sz n v xs) (F:Fr fp h h') (hD:∀b,D b→¬fp b):Acc D h' e sz n v xs:=by
 obtain⟨h1,h2 |⟨b,rfl,h2,h3⟩⟩:=A
 ·exact⟨h1,.inl h2⟩
 ·exact⟨h1,.inr ⟨b,rfl,h2,h3.fr F (hD b h2)⟩⟩
theorem Acc.mono {D D':Nat→Prop} (A:Acc D h e sz n v xs) (hD:∀b,D b→D' b):Acc D' h e sz n v xs:=by
 obtain⟨h1,h2 |⟨b,rfl,h2,h3⟩⟩:=A
 ·exact⟨h1,.inl h2⟩
 ·exact⟨h1,.inr ⟨b,rfl,hD b h2,h3⟩⟩
end Go.Ae
namespace Go.Ae
open Go
variable {h:AH} {n sz:Nat} {xs:List AV}
theorem qK {b o:Nat} {K:AV→R} {Q:AV→AH→Prop} (w:wp (K (.ptr b o)) Q):wp (xE (.ptr b o) K) Q:=w
theorem jd {D:Nat→Prop} {v x:AV} {i:Nat} {k:IntKind} {K:AV→R} {Q:AV→AH→Prop} (S:Sl D h 1 n v xs) (hx:xs[i]? =some x) (w:wp (K x) Q):wp (vG v (.int k (i:Int)) 1 λp=>jj h p K) Q:=by
 have hi:i<n:=by have:=(List.getElem?_eq_some_iff.1 hx).1;have:=S.len;omega
 refine Ft S hi λb off _ _ H=>Ql ?_ w;have:=H 0 omQ;rw[Nat.mul_one]at this;exact this.trans hx
theorem y4 {D:Nat→Prop} {v x:AV} {i f:Nat} {k:IntKind} {K:AV→R} {Q:AV→AH→Prop} (S:Sl D h sz n v xs) (hf:f<sz) (hi:i<n) (hx:xs[i*sz+f]? =some x) (w:wp (K x) Q):wp (vG v (.int k (i:Int)) sz λp=>qp p f λq=>jj h q K) Q:=by refine Ft S hi λb off _ _ H=>qi (Ql ?_ w);exact(H f hf).trans hx
theorem zd {D:Nat→Prop} {v:AV} {i:Nat} {l:List AV} {k:IntKind} {K:AV→R} {Q:AV→AH→Prop} (S:Sl D h sz n v xs) (hi:i<n) (h0:0<sz) (hl:(xs.drop (i*sz)).take sz=l) (w:wp (K (.agg l)) Q):wp (vG v (.int k (i:Int)) sz λp=>zi h p sz K) Q:=by
 have hle:i*sz+sz≤n*sz:=by rw[← Nat.succ_mul];exact Nat.mul_le_mul_right sz hi
 have rA:=S.len;refine Ft S hi λb off _ _ H=>O1 (l:=l) (by rw[← hl];simp;omega) h0 (λj hj=>?_) w;rw[H j hj,← hl,List.getElem?_take_of_lt hj,List.getElem?_drop]
theorem qWb (a:Int):lC a a=true:=by rw[Ua];simp
theorem Zm (a:List UInt8):ft a a=true:=by rw[fJ];simp
mutual
theorem kD:∀v:AV,yu v v=true
 | .bool b=>by simp[yu]
 | .int k n=>by simp[yu,qWb]
 | .str s=>by simp[yu,Zm]
 | .ptr b o=>by simp[yu,Nat.beq_refl]
 | .aO=>rfl
 | .slice b o l c p=>by simp[yu,Nat.beq_refl]
 | .ak=>rfl
 | .fn f a c=>by simp[yu,Nat.beq_refl,kO a,kO c]
 | .yield l=>by simp[yu,Nat.beq_refl]
 | .dC=>rfl
 | .iface t v=>by simp[yu,Nat.beq_refl,kD v]
 | .cH=>rfl
 | .agg l=>by simp[yu,kO l]
 | .bM l=>by simp[yu,kO l]
 | .bT a=>by simp[yu]
 | .dN _=>by simp[yu]
 | .tail b o o' i=>by simp[yu,Nat.beq_refl]
theorem kO:∀l:List AV,Yn l l=true
 |[]=>rfl
 |a::r=>by simp[Yn,kD a,kO r]
end
theorem LU {b off:Nat} {x:AV} (hx:h.at b off=some x):zp (.ptr b off) none x h=true:=by
 unfold AH.at at hx;unfold zp;simp only
 split at hx
 ·rename_i hg;rw[hg];simp only[hx,kD]
 ·rename_i hg;rw[hg];simp only[hx,kD]
 ·cases hx
theorem LV {b off n:Nat} {l:List AV} (hl:l.length=n) (h0:0<n) (H:∀i,i<n→h.at b (off+i)=l[i]?):zp (.ptr b off) (some n) (.agg l) h=true:=by
 subst hl;have:=XE h0 H;unfold yK at this;unfold zp;simp only
 split at this
 ·simp only[this,kD]
 ·simp only[this,kD]
 ·cases this
theorem LW {hb ha:AH} {b off nx:Nat} {x:AV} {K:R} {Q:AV→AH→Prop} (h1:hb.at b off=some x) (h2:ha.at b off=some x) (au:b<nx) (w:wp K Q):wp (Ys (.ptr b off) none x hb ha nx K) Q:=by unfold Ys pS;dsimp only;rw[LU h1,LU h2,show Ef (.ptr b off) nx=true from iY au];exact w
theorem qxB {hb ha:AH} {b off n nx:Nat} {l:List AV} {K:R} {Q:AV→AH→Prop} (hl:l.length=n) (h0:0<n) (h1:∀i,i<n→hb.at b (off+i)=l[i]?) (h2:∀i,i<n→ha.at b (off+i)=l[i]?) (au:b<nx) (w:wp K Q) :
  wp (Ys (.ptr b off) (some n) (.agg l) hb ha nx K) Q:=by
 unfold Ys pS;dsimp only;rw[LV hl h0 h1,LV hl h0 h2,show Ef (.ptr b off) nx=true from iY au];exact w
def BM (v:AV) (n:Nat):Prop:=Gk v=some n∧∀s,v≠.str s
theorem Sl.pd {D:Nat→Prop} {v:AV} (S:Sl D h sz n v xs):BM v n:=by cases S<;>exact⟨rfl,λs hs=>by cases hs⟩
theorem xo {v:AV} {K:AV→R} {Q:AV→AH→Prop} (H:BM v n) (w:wp (K (.int .i64 (n:Int))) Q):wp (kl v K) Q:=by obtain⟨h1,h2⟩:=H;cases v<;>simp only[Gk,reduceCtorEq,Option.some.injEq]at h1<;>subst h1<;>first |exact w |exact absurd rfl (h2 _)
theorem Ye {α:Type} (enc:α→List AV) (he:∀a,(enc a).length=sz):∀l:List α,(l.flatMap enc).length=l.length*sz:=by
 intro l
 induction l with
 |nil=>simp
 |cons a l ih=>simp only[List.flatMap_cons,List.length_append,he,ih,List.length_cons,Nat.add_mul,Nat.one_mul];omega
theorem XW {α:Type} (enc:α→List AV) (he:∀a,(enc a).length=sz):∀(l:List α) (i:Nat),(l.flatMap enc).drop (i*sz)=(l.drop i).flatMap enc:=by
 intro l
 induction l with
 |nil=>simp
 |cons a l ih=>
  intro i;cases i with
  |zero=>simp
  |succ i=>
   rw[List.flatMap_cons,List.drop_succ_cons,← ih i,Nat.add_mul,Nat.one_mul,Nat.add_comm,← List.drop_drop]
   congr 1
   rw[← he a,List.drop_left]
theorem J6 {α:Type} (enc:α→List AV) (he:∀a,(enc a).length=sz) (l:List α) (i j:Nat) (hj:j<sz):(l.flatMap enc)[i*sz+j]? =(l[i]?).bind λa=>(enc a)[j]?:=by
 rw[← List.getElem?_drop,XW enc he];cases hl:l[i]? with
 |none=>rw[List.drop_eq_nil_of_le (List.getElem?_eq_none_iff.1 hl)];rfl
 |some a=>obtain⟨hi,e⟩:=List.getElem?_eq_some_iff.1 hl;rw[List.drop_eq_getElem_cons hi,List.flatMap_cons,List.getElem?_append_left (by rw[he];exact hj),e];rfl
theorem qqt {α:Type} {Pr:α→Prop} (enc:α→List AV):∀{n:Nat} {xs:List AV},xs.length=n*sz→(∀i,i<n→∃a,Pr a∧(xs.drop (i*sz)).take sz=enc a)→
  ∃l:List α,l.length=n∧(∀a∈l,Pr a)∧xs=l.flatMap enc:=by
 intro n
 induction n with
 |zero=>intro xs hl _;exact⟨[],rfl,λa h=>(by cases h),iA (by simpa using hl)⟩
 |succ n ih=>
  intro xs hl H;obtain⟨a,ha,e⟩:=H 0 omQ;rw[Nat.zero_mul,List.drop_zero]at e;rw[Nat.add_mul,Nat.one_mul]at hl
  obtain⟨l,h1,h2,h3⟩:=ih (xs:=xs.drop sz) (by simp;omega) (λi hi=>by
   obtain⟨b,hb,e⟩:=H (i+1) omQ;refine⟨b,hb,?_⟩
   rw[List.drop_drop,← e,Nat.add_mul,Nat.one_mul,Nat.add_comm])
  refine⟨a::l,by simp[h1],λb hb=>?_,?_⟩
  ·rcases List.mem_cons.1 hb with rfl |hb
   ·exact ha
   ·exact h2 b hb
  ·rw[List.flatMap_cons,← e,← h3,List.take_append_drop]
theorem qG5 {P:Program} {d:Nat} {t e:TypeId} {v:AV} (hu:P.underlying t=some (.slice e)) (hs:P.cellsOf e=sz) (bx:0<sz) (H:WT P h (d+1) t [v]) :
  ∃n xs,Sl (λb=>b<h.nx) h sz n v xs∧n≤maxLen∧∀i,i<n→WT P h d e ((xs.drop (i*sz)).take sz):=by
 unfold WT at H;simp only[hu]at H;rcases H with h1 |⟨a,h1⟩ |h1 |⟨b,off,len,cap,h1,h2,h3,h4,⟨tt,h5⟩,h6⟩
 ·cases h1;exact⟨0,[],.ak,Nat.zero_le _,λi hi=>by omega⟩
 ·cases h1;exact⟨0,[],.bT a,Nat.zero_le _,λi hi=>by omega⟩
 ·omega
 ·cases h1;rw[hs]at h6;have key:∀k,k<len*sz→∃u,h.at b (off+k)=some u:=by
   intro k hk;have hm:=Nat.mod_lt k bx;obtain⟨row,r1,r2,_⟩:=h6 (k/sz) ((Nat.div_lt_iff_lt_mul bx).2 hk);have:=r2 (k%sz) hm;rw[iW omQ,Nat.add_assoc,Nat.mul_comm,Nat.div_add_mod]at this;exact⟨_,this⟩
  refine⟨len,(List.range (len*sz)).map λk=>(h.at b (off+k)).getD .undef,.mk h4 h4 (by unfold AH.rd;rw[h5];trivial) aN ?_,by omega,?_⟩
  ·intro i hi;obtain⟨u,hu⟩:=key i hi;rw[List.getElem?_map,List.getElem?_range hi,Option.map_some,hu];rfl
  ·intro i hi;obtain⟨row,r1,r2,r3⟩:=h6 i hi;have hle:i*sz+sz≤len*sz:=by rw[← Nat.succ_mul];exact Nat.mul_le_mul_right sz hi
   have:(((List.range (len*sz)).map λk=>(h.at b (off+k)).getD .undef).drop (i*sz)).take sz=row:=by
    apply List.ext_getElem?;intro j;by_cases hj:j<sz
    ·rw[List.getElem?_take_of_lt hj,List.getElem?_drop,List.getElem?_map,List.getElem?_range omQ,Option.map_some,← Nat.add_assoc,r2 j hj,iW omQ];rfl
    ·rw[List.getElem?_eq_none (by simp;omega),List.getElem?_eq_none omQ]
   rw[this];exact r3
theorem qzl {P:Program} {d:Nat} {t e:TypeId} {v:AV} {k:IntKind} (hu:P.underlying t=some (.slice e)) (he:P.underlying e=some (.int k)) (hs:P.cellsOf e=1) (H:WT P h (d+2) t [v]) :
  ∃zs:List Int,Sl (λb=>b<h.nx) h 1 zs.length v (zs.map (.int k))∧∀z∈zs,k.min≤z∧z≤k.max:=by
 obtain⟨n,xs,S,_,H⟩:=qG5 hu hs omQ H
 obtain⟨zs,h1,h2,h3⟩:=qqt (α:=Int) (Pr:=λz=>k.min≤z∧z≤k.max) (λz=>[.int k z]) S.len (λi hi=>by
  have:=H i hi;unfold WT at this;simp only[he]at this;obtain⟨z,g1,g2⟩:=this
  exact⟨z,g2,g1⟩)
 refine⟨zs,?_,h2⟩;rw[h1];have:xs=zs.map (.int k):=by rw[h3];clear h1 h2 h3 S;induction zs with |nil=>rfl |cons a l ih=>rw[List.flatMap_cons,ih];rfl
 rw[← this];exact S
end Go.Ae
namespace Go.Ae
open Go
structure SP where
  p:(Nat→Prop)→AH→Prop
  loc:∀{D:Nat→Prop} {h h':AH},p D h→h.nx≤h'.nx→(∀b,D b→h'.get b=h.get b)→p D h'
def lz:List SP→(Nat→Prop)→AH→Prop
 |[],D,_=>∀b,¬D b
 |P::L,D,h=>∃D1 D2:Nat→Prop,(∀b,D b↔D1 b∨D2 b)∧(∀b,D1 b→¬D2 b)∧P.p D1 h∧lz L D2 h
theorem lz.loc {L:List SP}:∀{D:Nat→Prop} {h h':AH},lz L D h→h.nx≤h'.nx→(∀b,D b→h'.get b=h.get b)→lz L D h':=by
 induction L with
 |nil=>intro D h h' H _ _;exact H
 |cons P L ih=>intro D h h' ⟨D1,D2,e,d,p,r⟩ hn hg;exact⟨D1,D2,e,d,P.loc p hn λb hb=>hg b ((e b).2 (.inl hb)),ih r hn λb hb=>hg b ((e b).2 (.inr hb))⟩
structure HS (g h:AH) (L:List SP):Prop where
  cW:oa g.nx g h
  own:∃D:Nat→Prop,(∀b,D b→g.nx≤b∧b<h.nx)∧lz L D h
variable {g h h':AH} {P P':SP} {L R:List SP}
theorem HS.nx (H:HS g h L):g.nx≤h.nx:=H.cW.nx
theorem HS.act (H:HS g h (P::R)):∃D:Nat→Prop,P.p D h∧(∀b,D b→g.nx≤b∧b<h.nx)∧
  ∀(h':AH) (P':SP) (D':Nat→Prop),Fr D h h'→P'.p D' h'→(∀b,D' b→(D b∨h.nx≤b)∧b<h'.nx)→HS g h' (P'::R):=by
 obtain⟨ho,D0,hb,D1,D2,he,hd,p,r⟩:=H;refine⟨D1,p,λb h1=>hb b ((he b).2 (.inl h1)),λh' P' D' F p' LX=>?_⟩;have hn:=ho.nx;refine⟨ho.step F λb h1=>(hb b ((he b).2 (.inl h1))).1,λb=>D' b∨D2 b,?_,D',D2,λb=>Iff.rfl,?_,p',?_⟩
 ·rintro b (h1 |h1)
  ·obtain⟨h2 |h2,h3⟩:=LX b h1
   ·exact⟨(hb b ((he b).2 (.inl h2))).1,h3⟩
   ·exact⟨by omega,h3⟩
  ·have:=hb b ((he b).2 (.inr h1));have h4:=F.nx;exact⟨this.1,by omega⟩
 ·intro b h1 h2;obtain⟨h3 |h3,_⟩:=LX b h1
  ·exact hd b h3 h2
  ·have:=hb b ((he b).2 (.inr h2));omega
 ·exact r.loc F.nx λb h2=>F.get b (hb b ((he b).2 (.inr h2))).2 λh1=>hd b h1 h2
inductive aZ:List SP→SP→List SP→Prop
  |here {P:SP} {R:List SP}:aZ (P::R) P R
  |there {Q P:SP} {L R:List SP} (s:aZ L P R):aZ (Q::L) P (Q::R)
theorem aZ.DA (s:aZ L P R):∀{D:Nat→Prop} {h:AH},lz L D h→∃D1 D2:Nat→Prop,(∀b,D b↔D1 b∨D2 b)∧(∀b,D1 b→¬D2 b)∧P.p D1 h∧lz R D2 h:=by
 induction s with
 |here=>exact λH=>H
 |there s ih=>
  rintro D h ⟨D1,D2,e,d,q,r⟩;obtain⟨E1,E2,e',d',p,r'⟩:=ih r;refine⟨E1,λb=>D1 b∨E2 b,λb=>?_,λb h1 h2=>?_,p,D1,E2,λb=>Iff.rfl,λb h1 h2=>d b h1 ((e' b).2 (.inr h2)),q,r'⟩
  ·rw[e,e'];constructor
   ·rintro(h1 |h1 |h1)
    ·exact .inr (.inl h1)
    ·exact .inl h1
    ·exact .inr (.inr h1)
   ·rintro(h1 |h1 |h1)
    ·exact .inr (.inl h1)
    ·exact .inl h1
    ·exact .inr (.inr h1)
  ·rcases h2 with h2 |h2
   ·exact d b h2 ((e' b).2 (.inl h1))
   ·exact d' b h1 h2
theorem HS.aG (H:HS g h L) (s:aZ L P R):HS g h (P::R):=⟨H.cW,H.own.imp λ_ h1=>⟨h1.1,s.DA h1.2⟩⟩
theorem aZ.gib (s:aZ L P R):∀{D1 D2:Nat→Prop} {h:AH},(∀b,D1 b→¬D2 b)→P.p D1 h→lz R D2 h→lz L (λb=>D1 b∨D2 b) h:=by
 induction s with
 |here=>exact λ{D1 D2 h} d p r=>⟨D1,D2,λ_=>Iff.rfl,d,p,r⟩
 |there s ih=>
  rintro D1 D2 h d p ⟨E1,E2,e,d',q,r⟩;refine⟨E1,λb=>D1 b∨E2 b,λb=>?_,λb h1 h2=>?_,q,ih (λb h1 h2=>d b h1 ((e b).2 (.inr h2))) p r⟩
  ·simp only[e];constructor
   ·rintro(h1 |h1 |h1)
    ·exact .inr (.inl h1)
    ·exact .inl h1
    ·exact .inr (.inr h1)
   ·rintro(h1 |h1 |h1)
    ·exact .inr (.inl h1)
    ·exact .inl h1
    ·exact .inr (.inr h1)
  ·rcases h2 with h2 |h2
   ·exact d b h2 ((e b).2 (.inl h1))
   ·exact d' b h1 h2
theorem HS.bZ (s:aZ L P R) (H:HS g h (P::R)):HS g h L:=by obtain⟨ho,D,hb,D1,D2,e,d,p,r⟩:=H;refine⟨ho,λb=>D1 b∨D2 b,λb h1=>hb b ((e b).2 h1),s.gib d p r⟩
theorem HS.drop (H:HS g h (P::R)):HS g h R:=by obtain⟨ho,D,hb,D1,D2,e,d,p,r⟩:=H;exact⟨ho,D2,λb h2=>hb b ((e b).2 (.inr h2)),r⟩
theorem aZ.skip (A:List SP) (s:aZ L P R):aZ (A++L) P (A++R):=by
 induction A with
 |nil=>exact s
 |cons Q A ih=>exact .there ih
theorem HS.back {A:List SP} (H:HS g h (P::(A++R))):HS g h (A++P::R):=HS.bZ (aZ.skip A .here) H
inductive Sub:List SP→List SP→Prop
  |refl {L:List SP}:Sub L L
  |cons {L L1 L':List SP} {P:SP} (s:aZ L P L1) (t:Sub L1 L'):Sub L (P::L')
  |drop {Q:SP} {L L':List SP} (t:Sub L L'):Sub (Q::L) L'
theorem Sub.DA {L L':List SP} (t:Sub L L'):∀{D:Nat→Prop} {h:AH},lz L D h→∃D':Nat→Prop,(∀b,D' b→D b)∧lz L' D' h:=by
 induction t with
 |refl=>exact λ{D h} H=>⟨D,λ_ h=>h,H⟩
 |cons s t ih=>intro D h H;obtain⟨D1,D2,e,d,p,r⟩:=s.DA H;obtain⟨D',h1,h2⟩:=ih r;exact⟨λb=>D1 b∨D' b,λb hb=>(e b).2 (hb.imp id (h1 b)),D1,D',λ_=>Iff.rfl,λb hb h3=>d b hb (h1 b h3),p,h2⟩
 |drop t ih=>intro D h ⟨D1,D2,e,d,p,r⟩;obtain⟨D',h1,h2⟩:=ih r;exact⟨D',λb hb=>(e b).2 (.inr (h1 b hb)),h2⟩
theorem HS.sub {L L':List SP} (H:HS g h L) (t:Sub L L'):HS g h L':=by obtain⟨ho,D,hb,r⟩:=H;obtain⟨D',h1,h2⟩:=t.DA r;exact⟨ho,D',λb h=>hb b (h1 b h),h2⟩
def DB:Nat→List SP→Option (SP×List SP)
 | 0,P::L=>some (P,L)
 |i+1,P::L=>match DB i L with
  |some x=>some (x.1,P::x.2)
  |none=>none
 |_,[]=>none
def u9:Nat→List SP→List SP
 | 0,L=>L
 |k+1,_::L=>u9 k L
 |_+1,[]=>[]
def DC:List Nat→Nat→List SP→List SP
 |[],k,L=>u9 k L
 |i::is,k,L=>match DB i L with
  |some x=>x.1::DC is k x.2
  |none=>L
theorem qgp:∀{i:Nat} {L:List SP} {x:SP×List SP},DB i L=some x→aZ L x.1 x.2:=by
 intro i
 induction i with
 |zero=>
  intro L x h;cases L with
  |nil=>cases h
  |cons P L=>cases h;exact .here
 |succ i ih=>
  intro L x h;cases L with
  |nil=>cases h
  |cons P L=>
   unfold DB at h
   split at h
   ·rename_i y hy;cases h;exact .there (ih hy)
   ·cases h
theorem Sub.u9:∀(k:Nat) (L:List SP),Sub L (u9 k L)
 | 0,_=>.refl
 |k+1,_::L=>.drop (Sub.u9 k L)
 |_+1,[]=>.refl
theorem Sub.pk:∀(is:List Nat) (k:Nat) (L:List SP),Sub L (DC is k L)
 |[],k,L=>Sub.u9 k L
 |i::is,k,L=>by
  unfold DC
  split
  ·rename_i x hx;exact .cons (qgp hx) (Sub.pk is k x.2)
  ·exact .refl
theorem HS.pk {L:List SP} (H:HS g h L) (is:List Nat) (k:Nat):HS g h (DC is k L):=H.sub (Sub.pk is k L)
def SP.LY:SP:=⟨λD _=>∀b,¬D b,λH _ _=>H⟩
def SP.fg (φ:Prop):SP:=⟨λD _=>(∀b,¬D b)∧φ,λH _ _=>H⟩
def SP.ex {α:Type} (f:α→SP):SP:=⟨λD h=>∃a,(f a).p D h,λ⟨a,H⟩ h1 h2=>⟨a,(f a).loc H h1 h2⟩⟩
def SP.all (A:List SP):SP:=⟨lz A,λH h1 h2=>H.loc h1 h2⟩
theorem HS.put (H:HS g h R) (hp:P.p (λ_=>False) h):HS g h (P::R):=by obtain⟨ho,D,hb,r⟩:=H;exact⟨ho,D,hb,λ_=>False,D,λb=>⟨.inr,λh=>h.elim False.elim id⟩,λ_ h=>h.elim,hp,r⟩
theorem HS.dU {α:Type} {f:α→SP} (H:HS g h (.ex f::R)):∃a,HS g h (f a::R):=by obtain⟨ho,D,hb,D1,D2,e,d,⟨a,p⟩,r⟩:=H;exact⟨a,ho,D,hb,D1,D2,e,d,p,r⟩
theorem HS.ei {α:Type} {f:α→SP} (a:α) (H:HS g h (f a::R)):HS g h (.ex f::R):=by obtain⟨ho,D,hb,D1,D2,e,d,p,r⟩:=H;exact⟨ho,D,hb,D1,D2,e,d,⟨a,p⟩,r⟩
theorem HS.dZ {φ:Prop} (H:HS g h (.fg φ::R)):φ∧HS g h R:=by refine⟨?_,H.drop⟩;obtain⟨ho,D,hb,D1,D2,e,d,p,r⟩:=H;exact p.2
theorem HS.eH {φ:Prop} (hφ:φ) (H:HS g h R):HS g h (.fg φ::R):=H.put ⟨λ_ h=>h,hφ⟩
theorem qv3 {A:List SP}:∀{D1 D2:Nat→Prop} {h:AH},(∀b,D1 b→¬D2 b)→lz A D1 h→lz R D2 h→lz (A++R) (λb=>D1 b∨D2 b) h:=by
 induction A with
 |nil=>intro D1 D2 h _ H1 H2;rw[List.nil_append,show(λb=>D1 b∨D2 b)=D2 from funext λb=>propext ⟨λh=>h.elim (λh=>(H1 b h).elim) id,.inr⟩];exact H2
 |cons P A ih=>
  rintro D1 D2 h hd ⟨E1,E2,e,d,p,r⟩ H2;refine⟨E1,λb=>E2 b∨D2 b,λb=>?_,λb h1 h2=>?_,p,ih (λb h1=>hd b ((e b).2 (.inr h1))) r H2⟩
  ·simp only[e,or_assoc]
  ·rcases h2 with h2 |h2
   ·exact d b h1 h2
   ·exact hd b ((e b).2 (.inl h1)) h2
theorem qxU {A:List SP}:∀{D:Nat→Prop} {h:AH},lz (A++R) D h→∃D1 D2:Nat→Prop,(∀b,D b↔D1 b∨D2 b)∧(∀b,D1 b→¬D2 b)∧lz A D1 h∧lz R D2 h:=by
 induction A with
 |nil=>intro D h H;exact⟨λ_=>False,D,λb=>⟨.inr,λh=>h.elim False.elim id⟩,λ_ h=>h.elim,λ_ h=>h,H⟩
 |cons P A ih=>
  rintro D h ⟨E1,E2,e,d,p,r⟩;obtain⟨F1,F2,f,d',r1,r2⟩:=ih r;refine⟨λb=>E1 b∨F1 b,F2,λb=>?_,λb h1 h2=>?_,⟨E1,F1,λb=>Iff.rfl,λb h1 h2=>d b h1 ((f b).2 (.inl h2)),p,r1⟩,r2⟩
  ·rw[e,f,or_assoc]
  ·rcases h1 with h1 |h1
   ·exact d b h1 ((f b).2 (.inr h2))
   ·exact d' b h1 h2
theorem HS.b9 {A:List SP} (H:HS g h (.all A::R)):HS g h (A++R):=by obtain⟨ho,D,hb,D1,D2,e,d,p,r⟩:=H;refine⟨ho,D,hb,?_⟩;rw[show D=(λb=>D1 b∨D2 b)from funext λb=>propext (e b)];exact qv3 d p r
theorem HS.allI {A:List SP} (H:HS g h (A++R)):HS g h (.all A::R):=by obtain⟨ho,D,hb,r⟩:=H;exact⟨ho,D,hb,qxU r⟩
theorem HS.nil (g:AH):HS g g []:=⟨oa.refl _ _,λ_=>False,λ_ h=>h.elim,λ_ h=>h⟩
theorem HS.add {D':Nat→Prop} (H:HS g h R) (F:oa h.nx h h') (p:P.p D' h') (hD:∀b,D' b→h.nx≤b∧b<h'.nx):HS g h' (P::R):=by
 obtain⟨D,_,hb,k⟩:=(H.put (P:=.LY) λ_ h=>h).act;obtain⟨ho,D0,DD,r⟩:=H;have hn:=ho.nx;refine⟨⟨Nat.le_trans hn F.nx,λb h1 h2=>(F.get b omQ omQ).trans (ho.get b h1 h2)⟩,λb=>D' b∨D0 b,?_,D',D0,λb=>Iff.rfl,?_,p,r.loc F.nx λb h1=>F.get b (DD b h1).2 (by have:=DD b h1;omega)⟩
 ·have:=F.nx;rintro b (h1 |h1)
  ·have:=hD b h1;exact⟨by omega,this.2⟩
  ·have:=DD b h1;exact⟨this.1,by omega⟩
 ·intro b h1 h2;have:=hD b h1;have:=DD b h2;omega
theorem HS.keep (H:HS g h R) (F:oa h.nx h h'):HS g h' R:=(H.add (P:=.LY) (D':=λ_=>False) F (λ_ h=>h) λ_ h=>h.elim).drop
theorem Fr.none (F:Fr (λ_=>False) h h'):oa h.nx h h':=F.mono λ_ _ h=>h.elim
variable {b off n m sz:Nat} {xs ys l:List AV} {e:TypeId} {o:Bool} {x v:AV} {k:IntKind} {Q:AV→AH→Prop} {i:Nat}
def Cell (b:Nat) (xs:List AV) (e:TypeId) (o:Bool):SP:=⟨λD h=>(∀a,D a↔a=b)∧Row h b xs e o,λ{D h h'} H h1 h2=>⟨H.1,Nat.lt_of_lt_of_le H.2.lt h1,by rw[h2 b ((H.1 b).2 rfl)];exact H.2.bp⟩⟩
def qA (b:Nat) (xs:List AV):SP:=⟨λD h=>(∀a,D a↔a=b)∧∃e,Row h b xs e false,λ{D h h'} H h1 h2=>⟨H.1,H.2.imp λ_ A=>⟨Nat.lt_of_lt_of_le A.lt h1,by rw[h2 b ((H.1 b).2 rfl)];exact A.bp⟩⟩⟩
def kX (b:Nat) (x:cy):SP:=⟨λD h=>(∀a,D a↔a=b)∧b<h.nx∧h.get b=some x,λ{D h h'} H h1 h2=>⟨H.1,by have:=H.2.1;omega,by rw[h2 b ((H.1 b).2 rfl)];exact H.2.2⟩⟩
def qB (e:TypeId) (sz n:Nat) (v:AV) (xs:List AV):SP :=
  ⟨λD h=>xs.length=n*sz∧((v=.ak∧n=0∧∀b,¬D b)∨∃b cp o ys,v=.slice b 0 n cp o∧(∀a,D a↔a=b)∧Row h b ys e o∧n*sz≤ys.length∧ys.take (n*sz)=xs∧(if o=true then cp=0 else ys.length=cp*sz∧n≤cp)),
   λ{D h h'} H h1 h2=>⟨H.1,H.2.imp id λ⟨b,cp,o,ys,q1,q2,q3,q4⟩=>⟨b,cp,o,ys,q1,q2,⟨Nat.lt_of_lt_of_le q3.lt h1,by rw[h2 b ((q2 b).2 rfl)];exact q3.bp⟩,q4⟩⟩⟩
theorem HS.p (H:HS g h L) (s:aZ L P R):∃D,P.p D h:=by obtain⟨D,p,_⟩:=(H.aG s).act;exact⟨D,p⟩
theorem HS.obj (H:HS g h L) (s:aZ L (qA b xs) R):∃e,Row h b xs e false:=by obtain⟨D,_,p⟩:=H.p s;exact p
theorem HS.sl (H:HS g h L) (s:aZ L (qB e sz n v xs) R):Sl (λ_=>True) h sz n v xs:=by
 obtain⟨D,h1,⟨rfl,rfl,_⟩ |⟨b,cp,o,ys,rfl,_,A,h2,h3,_⟩⟩:=H.p s
 ·obtain rfl:xs=[]:=iA (by simpa using h1);exact .ak
 ·exact .mk trivial A.lt A.rd h1 λi hi=>by rw[A.at,Nat.zero_add,← h3,List.getElem?_take_of_lt hi]
theorem HS.cT (H:HS g h L) (s:aZ L (qB e sz n v xs) R):xs.length=n*sz:=(H.sl s).len
def One (v:AV):Prop:=v.cells=[v]∧v.one=true
theorem HS.one (H:HS g h L) (s:aZ L (qB e sz n v xs) R):One v:=by obtain⟨D,h1,⟨rfl,rfl,_⟩ |⟨b,cp,o,ys,rfl,_⟩⟩:=H.p s<;>exact⟨rfl,rfl⟩
variable {K:AV→Go.Ae.R} {K2:AV→AH→Go.Ae.R} {K1:AH→Go.Ae.R}
theorem qZ (H:HS g h L) (s:aZ L (qA b xs) R) (hx:xs[off]? =some x) (w:wp (K x) Q):wp (jj h (.ptr b off) K) Q:=by obtain⟨e,A⟩:=H.obj s;exact Ql ((A.at _).trans hx) w
theorem HS.lt (H:HS g h L) (s:aZ L (qA b xs) R):b<h.nx:=by obtain⟨e,A⟩:=H.obj s;exact A.lt
theorem qc {g' ha:AH} {L2 R2:List SP} {nx:Nat} {K0:Go.Ae.R} (H:HS g h L) (s:aZ L (qA b xs) R) (hx:xs[off]? =some x) (H2:HS g' ha L2) (s2:aZ L2 (qA b ys) R2) (pZ:ys[off]? =some x) (au:b<nx) (w:wp K0 Q):wp (Ys (.ptr b off) none x h ha nx K0) Q:=by obtain⟨e,A⟩:=H.obj s;obtain⟨e2,A2⟩:=H2.obj s2;exact LW ((A.at _).trans hx) ((A2.at _).trans pZ) au w
theorem qF (H:HS g h L) (s:aZ L (qA b xs) R) (hl:l.length=n) (hn:0<n) (hx:(xs.drop off).take n=l) (w:wp (K (.agg l)) Q):wp (zi h (.ptr b off) n K) Q:=by obtain⟨e,A⟩:=H.obj s;exact O1 hl hn (λi hi=>by rw[A.at,← hx,List.getElem?_take_of_lt hi,List.getElem?_drop]) w
theorem qh (H:HS g h L) (s:aZ L (qA b xs) R) (hc:x.cells.length=n) (ho:off+n≤xs.length) (h1:qn x.cells=true) (w:∀h',HS g h' (qA b (kT xs off x.cells)::R)→wp (K1 h') Q):wp (jP h (.ptr b off) x n K1) Q:=by obtain⟨D,⟨hD,e,A⟩,hb,k⟩:=(H.aG s).act;refine Zh A hc ho h1 λh' A' F hx=>w h' (k h' _ D (F.mono λa _ ha=>(hD a).2 ha) ⟨hD,e,A'⟩ λa ha=>⟨.inl ha,?_⟩);have:=(hb a ha).2;omega
theorem qw (H:HS g h L) (s:aZ L (qA b xs) R) (h1:One x) (ho:off<xs.length) (w:∀h',HS g h' (qA b (xs.set off x)::R)→wp (K1 h') Q):wp (jP h (.ptr b off) x 1 K1) Q:=by refine qh H s (by rw[h1.1];rfl) omQ (by rw[h1.1];simp[qn,h1.2]) λh' H'=>w h' ?_;rw[h1.1,Y6 ho]at H';exact H'
theorem qQ {f:Nat} (w:wp (K (.ptr b f)) Q):wp (qp (.ptr b 0) f K) Q:=qi (by rw[Nat.zero_add];exact w)
theorem HS.iU (H:HS g h L) (x:cy):HS g (h.new x) (kX h.nx x::L) :=
 H.add (D':=λa=>a=h.nx) ⟨by simp,λa _ h2=>AH.bJ h _ omQ⟩ ⟨λa=>Iff.rfl,by simp,AH.br ..⟩ (by rintro a rfl;simp)
theorem HS.fY {x y:cy} (H:HS g h L) (s:aZ L (kX b x) R):HS g (h.put b y) (kX b y::R):=by obtain⟨D,⟨hD,hb,_⟩,dS,k⟩:=(H.aG s).act;exact k _ _ D ⟨Nat.le_refl _,λa _ hn=>AH.bn h _ λe=>hn ((hD a).2 e.symm)⟩ ⟨hD,hb,AH.aQ ..⟩ λa ha=>⟨.inl ha,(dS a ha).2⟩
theorem HS.bp {x:cy} (H:HS g h L) (s:aZ L (kX b x) R):h.get b=some x:=by obtain⟨D,_,_,p⟩:=H.p s;exact p
theorem LZ (H:HS g h L) (h1:qn x.cells=true) (w:∀b h',HS g h' (qA b x.cells::L)→wp (K2 (.ptr b 0) h') Q):wp (gc h e x K2) Q:=by refine qgf h1 λb h' hb A F=>w b h' (H.add (D':=λa=>a=b) F.none ⟨λa=>Iff.rfl,e,A⟩ ?_);rintro a rfl;exact⟨hb,A.lt⟩
theorem qO (H:HS g h L) (h1:qn l=true) (w:∀b h',HS g h' (qA b l::L)→wp (K2 (.ptr b 0) h') Q):wp (gc h e (.agg l) K2) Q:=LZ (x:=.agg l) H h1 w
theorem XB (H:HS g h L) (h1:One x) (w:∀b h',HS g h' (qA b [x]::L)→wp (K2 (.ptr b 0) h') Q):wp (gc h e x K2) Q :=
 LZ H (by rw[h1.1];simp[qn,h1.2]) (by rw[h1.1];exact w)
theorem Yd {z:List AV} {ln cp:Nat} {k1 k2:IntKind} (H:HS g h L) (hz:z.length=sz) (h1:ln≤cp) (h2:cp≤1073741824)
  (w:∀v h',HS g h' (qB e sz ln v ((yr z cp).take (ln*sz))::L)→wp (K2 v h') Q):wp (Qv h e z (.int k1 (ln:Int)) (.int k2 (cp:Int)) K2) Q:=by
 refine LR h1 h2 λb h' hb A F=>w _ h' (H.add (D':=λa=>a=b) F.none ⟨?_,.inr ⟨b,cp,false,_,rfl,λa=>Iff.rfl,A,?_,rfl,?_⟩⟩ ?_)
 ·have:=Nat.mul_le_mul_right sz h1;rw[List.length_take,wb,hz];omega
 ·rw[wb,hz];exact Nat.mul_le_mul_right sz h1
 ·rw[iQ aN];exact⟨by rw[wb,hz],h1⟩
 ·rintro a rfl;exact⟨hb,A.lt⟩
theorem J5 {z:AV} {k1 k2:IntKind} (H:HS g h L) (h2:n≤1073741824)
  (w:∀v h',HS g h' (qB e 1 n v (List.replicate n z)::L)→wp (K2 v h') Q):wp (Qv h e [z] (.int k1 (n:Int)) (.int k2 (n:Int)) K2) Q:=by
 refine Yd (sz:=1) H rfl (Nat.le_refl _) h2 λv h' H'=>w v h' ?_;rw[Oi,Nat.mul_one,List.take_of_length_le aN]at H';exact H'
theorem qm {z:List AV} {vs:List (Nat×Nat×AV)} (H:HS g h L) (_:z.length=sz) (hl:l.length=n*sz) (hf:yV (yr z n) vs=some l) (h1:qn l=true)
  (w:∀v h',HS g h' (qB e sz n v l::L)→wp (K2 v h') Q):wp (yZ h e z n vs K2) Q:=by
 refine qKm hf h1 λb h' hb A F=>w _ h' (H.add (D':=λa=>a=b) F.none ⟨hl,.inr ⟨b,n,false,_,rfl,λa=>Iff.rfl,A,by omega,by rw[← hl,List.take_length],?_⟩⟩ ?_)
 ·rw[iQ aN];exact⟨hl,Nat.le_refl _⟩
 ·rintro a rfl;exact⟨hb,A.lt⟩
theorem HS.ak (H:HS g h L):HS g h (qB e sz 0 .ak []::L):=H.put ⟨by simp,.inl ⟨rfl,rfl,λ_ h=>h⟩⟩
theorem Yz (A:Row h b xs e o) (ho:off+n≤xs.length):yK h b off n=some ((xs.drop off).take n):=by
 by_cases h0:n=0
 ·subst h0;obtain⟨c,c1,c2,c3⟩:=A.bp;unfold yK;rw[c1,List.take_zero];cases c<;>rfl
 ·have hl:((xs.drop off).take n).length=n:=by simp;omega
  have:=XE (h:=h) (b:=b) (off:=off) (l:=(xs.drop off).take n) omQ (λi hi=>by rw[A.at,List.getElem?_take_of_lt omQ,List.getElem?_drop])
  rwa [hl]at this
theorem qKd (ho:off+ys.length≤xs.length):(kT xs off ys).take (off+ys.length)=xs.take off++ys:=by
 unfold kT;have:(xs.take off++ys).length=off+ys.length:=by simp;omega
 rw[← this,List.take_left]
theorem ja {D':Nat→Prop} (H:HS g h (qB e sz n v xs::R)) (S:Sl D' h sz m x ys) (bx:0<sz) (BN:n+m≤67108864) (h1:qn ys=true)
  (w:∀v' h',HS g h' (qB e sz (n+m) v' (xs++ys)::R)→wp (K2 v' h') Q):wp (vC h e sz v x K2) Q:=by
 obtain⟨nc,g1,g2,g3⟩:=qGF S;have ia:=S.len;unfold vC;simp only[qj3 S,g1,ob];rw[CT.dl,g2,ia,Nat.beq_refl,cond_true];by_cases h0:m=0
 ·subst h0;obtain rfl:ys=[]:=iA (by simpa using ia);have wH:=w v h (by rw[Nat.add_zero,List.append_nil];exact H);obtain⟨D,⟨hl,⟨rfl,rfl,hD⟩ |⟨b,cp,o,zs,rfl,hD,A,q1,q2,q3⟩⟩,hb,k⟩:=H.act
  ·exact wH
  ·unfold yN;cases o with
   |false=>rw[iQ aN]at q3;simp only;rw[iY (show n+0≤cp from q3.2),cond_true,show Nat.beq 0 0=true from rfl,cond_true];exact wH
   |true=>
    rw[iJ rfl]at q3;subst q3;obtain⟨c,c1,c2,c3⟩:=A.bp;simp only[c1];have dQ:c.len=zs.length:=by rw[CT.dl,c2]
    rw[dQ];have lJ:(Nat.ble 1 sz&&(Nat.beq 0 (0*sz)&&(Nat.beq e e&&Nat.ble (0+n*sz) zs.length)))=true:=by simp only[Bool.and_eq_true];exact⟨iY bx,by rw[Nat.zero_mul];rfl,Nat.beq_refl _,iY omQ⟩
    rw[lJ,cond_true,show Nat.beq 0 0=true from rfl,cond_true];exact wH
 ·have Fv:Nat.beq m 0=false:=yG h0;have hmul:(n+m)*sz=n*sz+m*sz:=Nat.add_mul ..;have hmp:0<m*sz:=Nat.mul_pos omQ bx;have Aa:h.nx<(h.new (.cells nc e true)).nx:=by simp
  obtain⟨D,⟨hl,⟨rfl,rfl,hD⟩ |⟨b,cp,o,zs,rfl,hD,A,q1,q2,q3⟩⟩,hb,k⟩:=H.act
  ·obtain rfl:xs=[]:=iA (by simpa using hl);unfold yN;simp only;rw[Fv,cond_false,iY omQ,cond_true];obtain⟨b1,b2⟩:=Row.new (h:=h) (e:=e) (o:=true) g3;rw[g2]at b1;refine w _ _ (k _ _ (λa=>a=h.nx) (b2.mono λ_ _ hf=>hf.elim) ⟨by simp[ia],.inr ⟨h.nx,0,true,ys,by rw[Nat.zero_add],λ_=>Iff.rfl,b1,by omega,?_,by rw[iJ rfl]⟩⟩ ?_)
   ·rw[List.nil_append,Nat.zero_add,← ia,List.take_length]
   ·rintro a rfl;exact⟨.inr (Nat.le_refl _),Aa⟩
  ·have EA:=A.lt;have nb:∀sP,(n+m)*sz≤zs.length→(if o=true then sP=0 else zs.length=sP*sz∧n+m≤sP)→
     wp (ob (gC h b (0+n*sz) nc.toList) λh'=>K2 (.slice b 0 (n+m) sP o) h') Q:=by
    intro sP hz tZ;obtain⟨h',f1,f2,f3,f4⟩:=G7 (ys:=nc.toList) (off:=0+n*sz) A (by rw[g2];omega) (by rw[g2];exact h1);simp only[f1,ob];rw[g2,Nat.zero_add]at f2;refine w _ _ (k h' _ D (f3.mono λa _ ha=>(hD a).2 ha) ⟨by simp[hl,ia,hmul],.inr ⟨b,sP,o,_,rfl,hD,f2,?_,?_,?_⟩⟩ λa ha=>⟨.inl ha,by have:=hb a ha;omega⟩)
    ·rw[Y1 omQ];exact hz
    ·rw[hmul,← ia,qKd omQ,q2]
    ·rw[Y1 omQ];exact tZ
   unfold yN;cases o with
   |false=>
    rw[iQ aN]at q3;simp only;by_cases hc:n+m≤cp
    ·rw[iY hc,cond_true,Fv,cond_false];exact nb cp (by rw[q3.1];exact Nat.mul_le_mul_right sz hc) (by rw[iQ aN];exact⟨q3.1,hc⟩)
    ·rw[show Nat.ble (n+m) cp=false by
      cases hb:Nat.ble (n+m) cp
      ·rfl
      ·exact absurd (vv hb) hc,cond_false,iY BN,cond_true]
     rw[Yz A (show 0+n*sz≤zs.length by omega),List.drop_zero,q2];simp only[ob];have key:∀c:CT,c.toList=xs++ys→c.full→wp (K2 (.slice h.nx 0 (n+m) 0 true) (h.new (.cells c e true))) Q:=by
      intro c d1 d2;obtain⟨b1,b2⟩:=Row.new (h:=h) (e:=e) (o:=true) d2;rw[d1]at b1;refine w _ _ (k _ _ (λa=>a=h.nx) (b2.mono λ_ _ hf=>hf.elim) ⟨by simp[hl,ia,hmul],.inr ⟨h.nx,0,true,xs++ys,rfl,λ_=>Iff.rfl,b1,by simp[hl,ia,hmul],?_,by rw[iJ rfl]⟩⟩ ?_)
      ·rw[List.take_of_length_le (by simp[hl,ia,hmul])]
      ·rintro a rfl;exact⟨.inr (Nat.le_refl _),by simp⟩
     by_cases lu:n=0
     ·subst lu;rw[show Nat.beq 0 0=true from rfl,cond_true];obtain rfl:xs=[]:=iA (by simpa using hl);exact key nc (by rw[g2,List.nil_append]) g3
     ·rw[show Nat.beq n 0=false from yG lu,cond_false];exact key _ (by rw[CT.aI,g2]) (CT.bt _)
   |true=>
    rw[iJ rfl]at q3;subst q3;obtain⟨c,c1,c2,c3⟩:=A.bp;simp only[c1];have dQ:c.len=zs.length:=by rw[CT.dl,c2]
    rw[dQ];have lJ:(Nat.ble 1 sz&&(Nat.beq 0 (0*sz)&&(Nat.beq e e&&Nat.ble (0+n*sz) zs.length)))=true:=by simp only[Bool.and_eq_true];exact⟨iY bx,by rw[Nat.zero_mul];rfl,Nat.beq_refl _,iY omQ⟩
    rw[lJ,cond_true,Fv,cond_false];by_cases hc:0+(n+m)*sz≤zs.length
    ·rw[iY hc,cond_true];exact nb 0 omQ (by rw[iJ rfl])
    ·rw[show Nat.ble (0+(n+m)*sz) zs.length=false by
      cases hb:Nat.ble (0+(n+m)*sz) zs.length
      ·rfl
      ·exact absurd (vv hb) hc,cond_false]
     have oH:(Nat.beq 0 0&&(Nat.ble (n+m) 67108864&&qn nc.toList))=true:=by rw[g2,h1,iY BN];rfl
     rw[oH,cond_true];obtain⟨c',p1,p2,p3⟩:=CT.pb (c:=c) c3 (n:=n*sz) (by rw[c2];exact q1);simp only[p1];have Fw:(c'.fb nc.toList).toList=xs++ys:=by rw[CT.oy,p2,c2,g2,q2]
     refine w _ _ (k _ _ (λa=>a=h.nx) ⟨by simp,λa ha hn=>?_⟩ ⟨by simp[hl,ia,hmul],.inr ⟨(h.put b .dead).nx,0,true,xs++ys,rfl,λ_=>Iff.rfl,⟨by simp,c'.fb nc.toList,AH.br (h.put b .dead) _,Fw,CT.o9 p3 _⟩,by simp[hl,ia,hmul],?_,by rw[iJ rfl]⟩⟩ ?_)
     ·rw[AH.bJ _ _ (by simp;omega),AH.bn h _ (λFx:b=a=>hn ((hD a).2 Fx.symm))]
     ·rw[List.take_of_length_le (by simp[hl,ia,hmul])]
     ·rintro a rfl;exact⟨.inr aN,by simp⟩
theorem HS.BO (H:HS g h (qB e sz n v xs::R)) (hn:0<n):∃b cp o ys,v=.slice b 0 n cp o∧HS g h (Cell b ys e o::R)∧n*sz≤ys.length∧ys.take (n*sz)=xs∧(if o=true then cp=0 else ys.length=cp*sz∧n≤cp):=by
 obtain⟨D,⟨hl,⟨rfl,rfl,hD⟩ |⟨b,cp,o,zs,rfl,hD,A,q1,q2,q3⟩⟩,hb,k⟩:=H.act
 ·omega
 ·exact⟨b,cp,o,zs,rfl,k h _ D (Fr.refl _ _) ⟨hD,A⟩ λa ha=>⟨.inl ha,(hb a ha).2⟩,q1,q2,q3⟩
theorem HS.BP {cp:Nat} (H:HS g h (Cell b ys e o::R)) (h1:n*sz≤ys.length) (h2:if o=true then cp=0 else ys.length=cp*sz∧n≤cp):HS g h (qB e sz n (.slice b 0 n cp o) (ys.take (n*sz))::R):=by obtain⟨D,⟨hD,A⟩,hb,k⟩:=H.act;exact k h _ D (Fr.refl _ _) ⟨by simp;omega,.inr ⟨b,cp,o,ys,rfl,hD,A,h1,rfl,h2⟩⟩ λa ha=>⟨.inl ha,(hb a ha).2⟩
theorem L0 (H:HS g h (Cell b xs e o::R)) (hc:x.cells.length=n) (ho:off+n≤xs.length) (h1:qn x.cells=true) (w:∀h',HS g h' (Cell b (kT xs off x.cells) e o::R)→wp (K1 h') Q):wp (jP h (.ptr b off) x n K1) Q:=by obtain⟨D,⟨hD,A⟩,hb,k⟩:=H.act;refine Zh A hc ho h1 λh' A' F hx=>w h' (k h' _ D (F.mono λa _ ha=>(hD a).2 ha) ⟨hD,A'⟩ λa ha=>⟨.inl ha,?_⟩);have:=(hb a ha).2;omega
theorem ua {j:Nat} (H:HS g h (qB e sz n v xs::R)) (hi:i<n) (hj:j+m≤sz) (hc:x.cells.length=m) (h1:qn x.cells=true) (w:∀h',HS g h' (qB e sz n v (kT xs (i*sz+j) x.cells)::R)→wp (K1 h') Q) :
  ∃b cp o,v=.slice b 0 n cp o∧wp (jP h (.ptr b (0+i*sz+j)) x m K1) Q:=by
 obtain⟨b,cp,o,ys,rfl,H',q1,q2,q3⟩:=H.BO omQ;have hle:i*sz+sz≤n*sz:=by rw[← Nat.succ_mul];exact Nat.mul_le_mul_right sz hi
 refine⟨b,cp,o,rfl,L0 H' hc omQ h1 λh' H''=>w h' ?_⟩;have:=H''.BP (n:=n) (sz:=sz) (cp:=cp) (by rw[Y1 omQ];exact q1) (by rw[Y1 omQ];exact q3);have e1:(kT ys (0+i*sz+j) x.cells).take (n*sz)=kT xs (i*sz+j) x.cells:=by
  rw[← q2,Nat.zero_add];unfold kT;rw[List.take_append,List.take_append,List.take_take,List.take_take,List.drop_take];have t1:min (n*sz) (i*sz+j)=min (i*sz+j) (n*sz):=Nat.min_comm ..;rw[t1,show(List.take (i*sz+j) ys).length=i*sz+j by simp;omega];rw[List.take_of_length_le (show x.cells.length≤n*sz-(i*sz+j) by omega)];simp only[List.length_append,List.length_take,hc];have:min (i*sz+j) ys.length=i*sz+j:=by omega
  congr 2
  omega
 rw[e1]at this;exact this
theorem qwl {f:Nat} (H:HS g h (qB e sz n v xs::R)) (hi:i<n) (hf:f<sz) (h1:One x) (w:∀h',HS g h' (qB e sz n v (xs.set (i*sz+f) x)::R)→wp (K1 h') Q) :
  wp (vG v (.int k (i:Int)) sz λp=>qp p f λq=>jP h q x 1 K1) Q:=by
 have hl:=H.cT .here;have hle:i*sz+sz≤n*sz:=by rw[← Nat.succ_mul];exact Nat.mul_le_mul_right sz hi
 obtain⟨b,cp,o,rfl,w'⟩:=ua (x:=x) (m:=1) (j:=f) H hi omQ (by rw[h1.1];rfl) (by rw[h1.1];simp[qn,h1.2]) (λh' H'=>w h' (by rw[h1.1,Y6 omQ]at H';exact H'));exact XS hi (qi w')
theorem X5 (H:HS g h (qB e 1 n v xs::R)) (hi:i<n) (h1:One x) (w:∀h',HS g h' (qB e 1 n v (xs.set i x)::R)→wp (K1 h') Q) :
  wp (vG v (.int k (i:Int)) 1 λp=>jP h p x 1 K1) Q:=by
 have hl:=H.cT .here;obtain⟨b,cp,o,rfl,w'⟩:=ua (x:=x) (m:=1) (j:=0) H hi omQ (by rw[h1.1];rfl) (by rw[h1.1];simp[qn,h1.2]) (λh' H'=>w h' (by rw[h1.1,Y6 omQ,Nat.mul_one,Nat.add_zero]at H';exact H'));exact XS hi w'
theorem Fy (H:HS g h (qB e sz n v xs::R)) (hi:i<n) (hl:l.length=sz) (h1:qn l=true) (w:∀h',HS g h' (qB e sz n v (kT xs (i*sz) l)::R)→wp (K1 h') Q) :
  wp (vG v (.int k (i:Int)) sz λp=>jP h p (.agg l) sz K1) Q:=by
 obtain⟨b,cp,o,rfl,w'⟩:=ua (x:=.agg l) (m:=sz) (j:=0) H hi omQ hl h1 (λh' H'=>w h' H');exact XS hi w'
theorem Kk {hi:Nat} (H:HS g h (qB e sz n v xs::R)) (bx:0<sz) (hle:hi≤n) (w:∀v',HS g h (qB e sz hi v' (xs.take (hi*sz))::R)→wp (K v') Q):wp (yX h e sz v none (some (.int k (hi:Int))) K) Q:=by
  by_cases hn:n=0
  · subst hn;obtain rfl:hi=0:=by omega
    have hH:=H;obtain⟨D,⟨hl,⟨rfl,_,hD⟩ |⟨b,cp,o,zs,rfl,hD,A,q1,q2,q3⟩⟩,hb,k⟩:=H.act
    · exact w .ak (by obtain rfl : xs = [] := iA (by simpa using hl)
                      rw[List.take_nil];exact hH)
    · cases o with
      |false=>
        rw[iQ aN]at q3;refine Fu (hi:=0) (lo:=0) (y0 (Nat.zero_le _)) rfl ?_
        have := w (.slice b 0 0 cp false) (by rw [Nat.zero_mul, List.take_zero] ;obtain rfl : xs = [] := iA (by simpa using hl)
                                              exact hH)
        have e0:(bif Nat.beq cp 0 then 0 else 0+0*sz)=0:=by cases Nat.beq cp 0<;>simp
        rw[e0];exact this
      |true=>
        rw[iJ rfl]at q3;subst q3;refine NL (i0:=0) (hi:=0) (lo:=0) A bx omQ omQ (y0 (Nat.zero_le _)) rfl (.inr rfl) ?_
        have := w (.slice b 0 0 0 true) (by rw [Nat.zero_mul, List.take_zero] ;obtain rfl : xs = [] := iA (by simpa using hl)
                                            exact hH)
        simpa using this
  · obtain⟨b,cp,o,zs,rfl,H',q1,q2,q3⟩:=H.BO omQ;have Fz:=Nat.mul_le_mul_right sz hle;have e1:zs.take (hi*sz)=xs.take (hi*sz):=by rw[← q2,List.take_take,Nat.min_eq_left Fz]
    cases o with
    |false=>
      rw[iQ aN]at q3;refine Fu (hi:=hi) (lo:=0) (y0 omQ) rfl ?_;have:=w (.slice b 0 hi cp false) (by rw[← e1];exact H'.BP omQ (by rw[iQ aN];exact⟨q3.1,by omega⟩));have e0:(bif Nat.beq cp 0 then 0 else 0+0*sz)=0:=by cases Nat.beq cp 0<;>simp
      rw[e0];exact this
    |true=>rw[iJ rfl]at q3;subst q3;obtain⟨D,_,A⟩:=H'.p .here;refine NL (i0:=0) (hi:=hi) (lo:=0) A bx omQ omQ (y0 hle) rfl (.inr rfl) ?_;have:=w (.slice b 0 hi 0 true) (by rw[← e1];exact H'.BP omQ (by rw[iJ rfl]));simpa using this
theorem QY (H:HS g h L) (s:aZ L (qB e sz n v xs) R) (h1:v=.ak→n=0→wp (K (.bool true)) Q) (h2:wp (K (.bool false)) Q):wp (ml .AD false v .ak K) Q:=by
 obtain⟨D,hl,⟨rfl,rfl,hD⟩ |⟨b,cp,o,zs,rfl,_⟩⟩:=H.p s
 ·exact h1 rfl rfl
 ·exact h2
theorem qo (H:HS g h L) (s:aZ L (qB e sz n v xs) R) (w:wp (K (.int .i64 (n:Int))) Q):wp (kl v K) Q:=x5 (H.sl s) w
def Rd (g:AH) (R:List SP) (sz n:Nat) (v:AV) (xs:List AV):Prop:=∀h,HS g h R→Sl (λ_=>True) h sz n v xs
theorem Rd.sl (S:Rd g L sz n v xs) (H:HS g h L):Sl (λ_=>True) h sz n v xs:=S h H
theorem Rd.more (S:Rd g R sz n v xs):Rd g (P::R) sz n v xs:=λh H=>S h H.drop
theorem Rd.own (s:aZ L (qB e sz n v xs) R):Rd g L sz n v xs:=λ_ H=>H.sl s
theorem HS.rd (_:HS g h L) (s:aZ L (qB e sz n v xs) R):Rd g L sz n v xs:=.own s
theorem Rd.len (S:Rd g L sz n v xs) (H:HS g h L):xs.length=n*sz:=(S h H).len
variable {c d:Int}
theorem qg (hc:c=d) (w:wp (K (.bool true)) Q):wp (jb .eql (.int k c) (.int k d) K) Q:=J7 (by rw[iG hc];exact w)
theorem qj (hc:¬c=d) (w:wp (K (.bool false)) Q):wp (jb .eql (.int k c) (.int k d) K) Q:=J7 (by rw[iV hc];exact w)
theorem jQ (hc:¬c=d) (w:wp (K (.bool true)) Q):wp (jb .neq (.int k c) (.int k d) K) Q:=U2 (by rw[iG hc];exact w)
theorem qs (hc:c=d) (w:wp (K (.bool false)) Q):wp (jb .neq (.int k c) (.int k d) K) Q:=U2 (by rw[iV (not_not_intro hc)];exact w)
theorem jF (hc:c<d) (w:wp (K (.bool true)) Q):wp (jb .lss (.int k c) (.int k d) K) Q:=Xt (by rw[iG hc];exact w)
theorem jV (hc:¬c<d) (w:wp (K (.bool false)) Q):wp (jb .lss (.int k c) (.int k d) K) Q:=Xt (by rw[iV hc];exact w)
theorem JK (hc:c≤d) (w:wp (K (.bool true)) Q):wp (jb .leq (.int k c) (.int k d) K) Q:=Mu (by rw[iG hc];exact w)
theorem Xw (hc:¬c≤d) (w:wp (K (.bool false)) Q):wp (jb .leq (.int k c) (.int k d) K) Q:=Mu (by rw[iV hc];exact w)
theorem vQ (hc:d<c) (w:wp (K (.bool true)) Q):wp (jb .gtr (.int k c) (.int k d) K) Q:=Fm (by rw[iG hc];exact w)
theorem yQ (hc:¬d<c) (w:wp (K (.bool false)) Q):wp (jb .gtr (.int k c) (.int k d) K) Q:=Fm (by rw[iV hc];exact w)
theorem zx (hc:d≤c) (w:wp (K (.bool true)) Q):wp (jb .geq (.int k c) (.int k d) K) Q:=Fo (by rw[iG hc];exact w)
theorem zK (hc:¬d≤c) (w:wp (K (.bool false)) Q):wp (jb .geq (.int k c) (.int k d) K) Q:=Fo (by rw[iV hc];exact w)
theorem ZB {tab:BT} {rt:List RT} {N l:Nat} {as:List AV} {bQ:Option AX} {f:Nat} {pos Ls:List Nat} {vs:List AV} {d:Nat} {w:VF} (hb:h.get l=some (.loop .ready bQ f pos Ls vs d)) (hr:X6 rt f pos Ls=some w) (hn:1≤N)
  (W:∀k,N=k+1→wp (w (callT tab rt k) l vs as h) Q):wp (callT tab rt N (.yield l) as h) Q:=by
 obtain⟨k,rfl⟩:∃k,N=k+1:=⟨N-1,by omega⟩
 show wp (match h.get l with
   |some (.loop .ready _ f pos L vs _)=>(match X6 rt f pos L with |some g=>g (callT tab rt k) l vs as h |none=>none)
   |_=>none) Q
 rw[hb];simp only[hr];exact W k rfl
theorem ZJ {l:Nat} {bQ:Option AX} {f:Nat} {pos Ls:List Nat} {vs:List AV} {d:Nat} (H:HS g h L) (s:aZ L (kX l (.loop .ready bQ f pos Ls vs d)) R) (w:∀h',HS g h' (kX l (.loop .busy bQ f pos Ls vs d)::R)→wp (K1 h') Q):wp (Jr h l K1) Q:=by unfold Jr;rw[H.bp s];exact w _ (H.fY s)
theorem L3 {l:Nat} {st:LoopState} {bQ:Option AX} {f:Nat} {pos Ls:List Nat} {vs:List AV} {d:Nat} (H:HS g h L) (s:aZ L (kX l (.loop st bQ f pos Ls vs d)) R) (w:∀h',HS g h' (kX l (.loop .ready none f pos Ls vs d)::R)→Q (.bool true) h'):wp (xL h l none) Q:=by unfold xL;rw[H.bp s];exact⟨_,_,rfl,w _ (H.fY s)⟩
theorem qvM {l:Nat} {j:AX} {st:LoopState} {bQ:Option AX} {f:Nat} {pos Ls:List Nat} {vs:List AV} {d:Nat} (H:HS g h L) (s:aZ L (kX l (.loop st bQ f pos Ls vs d)) R) (w:∀h',HS g h' (kX l (.loop .done (some j) f pos Ls vs d)::R)→Q (.bool false) h'):wp (xL h l (some j)) Q:=by unfold xL;rw[H.bp s];exact⟨_,_,rfl,w _ (H.fY s)⟩
theorem Nw {l:Nat} {K':Option AX→AH→Go.Ae.R} {st:LoopState} {bQ:Option AX} {f:Nat} {pos Ls:List Nat} {vs:List AV} {d:Nat} (H:HS g h L) (s:aZ L (kX l (.loop st bQ f pos Ls vs d)) R) (cC:st≠.busy) (w:∀h',HS g h' (kX l (.loop .exhausted bQ f pos Ls vs d)::R)→wp (K' bQ h') Q):wp (vY h l K') Q:=by
 unfold vY;rw[H.bp s];cases st with
 |busy=>exact absurd rfl cC
 |_=>exact w _ (H.fY s)
theorem Gj {d:Nat} (H:HS g h L) (s:aZ L (kX d .hZ) R) (w:∀h',HS g h' (kX d .np::R)→wp (K1 h') Q):wp (zl [d] h K1) Q:=by unfold zl;rw[H.bp s];unfold zl;exact w _ (H.fY s)
theorem O7 {a b:Go.Ae.R} (w:wp a Q):wp (Xl none a b) Q:=w
theorem qje {p:AX} {a b:Go.Ae.R} (w:wp b Q):wp (Xl (some p) a b) Q:=w
theorem qwP {x:AX} {a b:Go.Ae.R} (hx:uN x x=true) (w:wp a Q):wp (uO (some x) x a b) Q:=by show wp (bif uN x x then a else b) Q;rw[hx];exact w
theorem ZH {c:CV} {f:FuncId} {a1 a2 as:List AV} {Q':AV→AH→Prop} (w:wp (c (.fn f a1 a2) as h) Q') (hk:∀v h',Q' v h'→wp (K2 v h') Q):wp (J9 c (.fn f a1 a2) as h K2) Q:=qV w hk
theorem HS.fits (H:HS g h L) (s:aZ L (qB e sz n v xs) R) (bx:0<sz) (h1:sz<65536) {N:Nat} (hN:N=e*65536+sz) {u:AV}:zp v (some N) u h=true:=by
 obtain⟨D,hl,⟨rfl,rfl,hD⟩ |⟨b,cp,o,zs,rfl,hD,A,q1,q2,q3⟩⟩:=H.p s
 ·rfl
 ·cases o with
  |false=>rfl
  |true=>
   rw[iJ rfl]at q3;subst q3;obtain⟨c,c1,c2,c3⟩:=A.bp;show yE h (N/65536) b 0 (N%65536) 0 n=true;rw[hN,(NK e sz h1).1,(NK e sz h1).2];unfold yE;rw[c1];simp only[Bool.and_eq_true];have dQ:c.len=zs.length:=by rw[CT.dl,c2]
   exact⟨Nat.beq_refl _,iY bx,by rw[Nat.zero_mul];rfl,iY (by rw[dQ];omega)⟩
end Go.Ae
namespace Go.Ae
theorem e_1 {a0 P:SP} {R:List SP}:aZ (a0::P::R) P (a0::R):=.there .here
theorem e_2 {a0 a1 P:SP} {R:List SP}:aZ (a0::a1::P::R) P (a0::a1::R):=.there e_1
theorem e_3 {a0 a1 a2 P:SP} {R:List SP}:aZ (a0::a1::a2::P::R) P (a0::a1::a2::R):=.there e_2
theorem e_4 {a0 a1 a2 a3 P:SP} {R:List SP}:aZ (a0::a1::a2::a3::P::R) P (a0::a1::a2::a3::R):=.there e_3
theorem e_5 {a0 a1 a2 a3 a4 P:SP} {R:List SP}:aZ (a0::a1::a2::a3::a4::P::R) P (a0::a1::a2::a3::a4::R):=.there e_4
theorem e_6 {a0 a1 a2 a3 a4 a5 P:SP} {R:List SP}:aZ (a0::a1::a2::a3::a4::a5::P::R) P (a0::a1::a2::a3::a4::a5::R):=.there e_5
theorem e_7 {a0 a1 a2 a3 a4 a5 a6 P:SP} {R:List SP}:aZ (a0::a1::a2::a3::a4::a5::a6::P::R) P (a0::a1::a2::a3::a4::a5::a6::R):=.there e_6
theorem e_8 {a0 a1 a2 a3 a4 a5 a6 a7 P:SP} {R:List SP}:aZ (a0::a1::a2::a3::a4::a5::a6::a7::P::R) P (a0::a1::a2::a3::a4::a5::a6::a7::R):=.there e_7
theorem e_9 {a0 a1 a2 a3 a4 a5 a6 a7 a8 P:SP} {R:List SP}:aZ (a0::a1::a2::a3::a4::a5::a6::a7::a8::P::R) P (a0::a1::a2::a3::a4::a5::a6::a7::a8::R):=.there e_8
theorem e_10 {a0 a1 a2 a3 a4 a5 a6 a7 a8 a9 P:SP} {R:List SP}:aZ (a0::a1::a2::a3::a4::a5::a6::a7::a8::a9::P::R) P (a0::a1::a2::a3::a4::a5::a6::a7::a8::a9::R):=.there e_9
theorem e_11 {a0 a1 a2 a3 a4 a5 a6 a7 a8 a9 dx P:SP} {R:List SP}:aZ (a0::a1::a2::a3::a4::a5::a6::a7::a8::a9::dx::P::R) P (a0::a1::a2::a3::a4::a5::a6::a7::a8::a9::dx::R):=.there e_10
theorem e_12 {a0 a1 a2 a3 a4 a5 a6 a7 a8 a9 dx dH P:SP} {R:List SP}:aZ (a0::a1::a2::a3::a4::a5::a6::a7::a8::a9::dx::dH::P::R) P (a0::a1::a2::a3::a4::a5::a6::a7::a8::a9::dx::dH::R):=.there e_11
theorem e_13 {a0 a1 a2 a3 a4 a5 a6 a7 a8 a9 dx dH a12 P:SP} {R:List SP}:aZ (a0::a1::a2::a3::a4::a5::a6::a7::a8::a9::dx::dH::a12::P::R) P (a0::a1::a2::a3::a4::a5::a6::a7::a8::a9::dx::dH::a12::R):=.there e_12
theorem e_14 {a0 a1 a2 a3 a4 a5 a6 a7 a8 a9 dx dH a12 eI P:SP} {R:List SP}:aZ (a0::a1::a2::a3::a4::a5::a6::a7::a8::a9::dx::dH::a12::eI::P::R) P (a0::a1::a2::a3::a4::a5::a6::a7::a8::a9::dx::dH::a12::eI::R):=.there e_13
theorem e_15 {a0 a1 a2 a3 a4 a5 a6 a7 a8 a9 dx dH a12 eI fh P:SP} {R:List SP}:aZ (a0::a1::a2::a3::a4::a5::a6::a7::a8::a9::dx::dH::a12::eI::fh::P::R) P (a0::a1::a2::a3::a4::a5::a6::a7::a8::a9::dx::dH::a12::eI::fh::R):=.there e_14
theorem e_16 {a0 a1 a2 a3 a4 a5 a6 a7 a8 a9 dx dH a12 eI fh fZ P:SP} {R:List SP}:aZ (a0::a1::a2::a3::a4::a5::a6::a7::a8::a9::dx::dH::a12::eI::fh::fZ::P::R) P (a0::a1::a2::a3::a4::a5::a6::a7::a8::a9::dx::dH::a12::eI::fh::fZ::R):=.there e_15
theorem e_17 {a0 a1 a2 a3 a4 a5 a6 a7 a8 a9 dx dH a12 eI fh fZ iD P:SP} {R:List SP}:aZ (a0::a1::a2::a3::a4::a5::a6::a7::a8::a9::dx::dH::a12::eI::fh::fZ::iD::P::R) P (a0::a1::a2::a3::a4::a5::a6::a7::a8::a9::dx::dH::a12::eI::fh::fZ::iD::R):=.there e_16
theorem e_18 {a0 a1 a2 a3 a4 a5 a6 a7 a8 a9 dx dH a12 eI fh fZ iD lV P:SP} {R:List SP}:aZ (a0::a1::a2::a3::a4::a5::a6::a7::a8::a9::dx::dH::a12::eI::fh::fZ::iD::lV::P::R) P (a0::a1::a2::a3::a4::a5::a6::a7::a8::a9::dx::dH::a12::eI::fh::fZ::iD::lV::R):=.there e_17
theorem e_19 {a0 a1 a2 a3 a4 a5 a6 a7 a8 a9 dx dH a12 eI fh fZ iD lV nf P:SP} {R:List SP}:aZ (a0::a1::a2::a3::a4::a5::a6::a7::a8::a9::dx::dH::a12::eI::fh::fZ::iD::lV::nf::P::R) P (a0::a1::a2::a3::a4::a5::a6::a7::a8::a9::dx::dH::a12::eI::fh::fZ::iD::lV::nf::R):=.there e_18
theorem e_20 {a0 a1 a2 a3 a4 a5 a6 a7 a8 a9 dx dH a12 eI fh fZ iD lV nf pf P:SP} {R:List SP}:aZ (a0::a1::a2::a3::a4::a5::a6::a7::a8::a9::dx::dH::a12::eI::fh::fZ::iD::lV::nf::pf::P::R) P (a0::a1::a2::a3::a4::a5::a6::a7::a8::a9::dx::dH::a12::eI::fh::fZ::iD::lV::nf::pf::R):=.there e_19
theorem e_21 {a0 a1 a2 a3 a4 a5 a6 a7 a8 a9 dx dH a12 eI fh fZ iD lV nf pf a20 P:SP} {R:List SP}:aZ (a0::a1::a2::a3::a4::a5::a6::a7::a8::a9::dx::dH::a12::eI::fh::fZ::iD::lV::nf::pf::a20::P::R) P (a0::a1::a2::a3::a4::a5::a6::a7::a8::a9::dx::dH::a12::eI::fh::fZ::iD::lV::nf::pf::a20::R):=.there e_20
theorem e_22 {a0 a1 a2 a3 a4 a5 a6 a7 a8 a9 dx dH a12 eI fh fZ iD lV nf pf a20 a21 P:SP} {R:List SP}:aZ (a0::a1::a2::a3::a4::a5::a6::a7::a8::a9::dx::dH::a12::eI::fh::fZ::iD::lV::nf::pf::a20::a21::P::R) P (a0::a1::a2::a3::a4::a5::a6::a7::a8::a9::dx::dH::a12::eI::fh::fZ::iD::lV::nf::pf::a20::a21::R):=.there e_21
theorem e_23 {a0 a1 a2 a3 a4 a5 a6 a7 a8 a9 dx dH a12 eI fh fZ iD lV nf pf a20 a21 a22 P:SP} {R:List SP}:aZ (a0::a1::a2::a3::a4::a5::a6::a7::a8::a9::dx::dH::a12::eI::fh::fZ::iD::lV::nf::pf::a20::a21::a22::P::R) P (a0::a1::a2::a3::a4::a5::a6::a7::a8::a9::dx::dH::a12::eI::fh::fZ::iD::lV::nf::pf::a20::a21::a22::R):=.there e_22
end Go.Ae
namespace Go.Ae
open Go
theorem ub {tab:BT} {rt:List RT} {n:Nat} {f:FuncId} {P:Program} {pl:Pl} {S:uQ P pl f}  {h:AH} {Q:AV→AH→Prop} (hg:tab.get f=some (uR S)) (hn:1≤n) (w:∀k,n=k+1→wp (S (callT tab rt k)  h).1 Q):wp (callT tab rt n (.fn f [] []) [] h) Q:=qy hg hn w
theorem ay {tab:BT} {rt:List RT} {n:Nat} {f:FuncId} {P:Program} {pl:Pl} {S:aU P pl f} {a0:AV} {h:AH} {Q:AV→AH→Prop} (hg:tab.get f=some (aV S)) (hn:1≤n) (w:∀k,n=k+1→wp (S (callT tab rt k) a0 h).1 Q):wp (callT tab rt n (.fn f [] []) [a0] h) Q:=qy hg hn w
theorem ba {tab:BT} {rt:List RT} {n:Nat} {f:FuncId} {P:Program} {pl:Pl} {S:bE P pl f} {a0 a1:AV} {h:AH} {Q:AV→AH→Prop} (hg:tab.get f=some (bC S)) (hn:1≤n) (w:∀k,n=k+1→wp (S (callT tab rt k) a0 a1 h).1 Q):wp (callT tab rt n (.fn f [] []) [a0,a1] h) Q:=qy hg hn w
theorem cL {tab:BT} {rt:List RT} {n:Nat} {f:FuncId} {P:Program} {pl:Pl} {S:cQ P pl f} {a0 a1 a2:AV} {h:AH} {Q:AV→AH→Prop} (hg:tab.get f=some (cG S)) (hn:1≤n) (w:∀k,n=k+1→wp (S (callT tab rt k) a0 a1 a2 h).1 Q):wp (callT tab rt n (.fn f [] []) [a0,a1,a2] h) Q:=qy hg hn w
theorem nL {tab:BT} {rt:List RT} {n:Nat} {f:FuncId} {P:Program} {pl:Pl} {S:ij P pl f} {a0 a1 a2 a3:AV} {h:AH} {Q:AV→AH→Prop} (hg:tab.get f=some (ik S)) (hn:1≤n) (w:∀k,n=k+1→wp (S (callT tab rt k) a0 a1 a2 a3 h).1 Q):wp (callT tab rt n (.fn f [] []) [a0,a1,a2,a3] h) Q:=qy hg hn w
theorem FA {tab:BT} {rt:List RT} {n:Nat} {f:FuncId} {P:Program} {pl:Pl} {S:ot P pl f} {a0 a1 a2 a3 a4:AV} {h:AH} {Q:AV→AH→Prop} (hg:tab.get f=some (ou S)) (hn:1≤n) (w:∀k,n=k+1→wp (S (callT tab rt k) a0 a1 a2 a3 a4 h).1 Q):wp (callT tab rt n (.fn f [] []) [a0,a1,a2,a3,a4] h) Q:=qy hg hn w
theorem FB {tab:BT} {rt:List RT} {n:Nat} {f:FuncId} {P:Program} {pl:Pl} {S:De P pl f} {a0 a1 a2 a3 a4 a5 a6:AV} {h:AH} {Q:AV→AH→Prop} (hg:tab.get f=some (Df S)) (hn:1≤n) (w:∀k,n=k+1→wp (S (callT tab rt k) a0 a1 a2 a3 a4 a5 a6 h).1 Q):wp (callT tab rt n (.fn f [] []) [a0,a1,a2,a3,a4,a5,a6] h) Q:=qy hg hn w
end Go.Ae
