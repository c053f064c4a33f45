/- The abstract executor of the program's form in Lean, shown sound: steps of a run; a law's run. -/
import Derived.Test.YthmopakmcboghaaGreatDoorMachineWakesAe6
namespace Go.Ae
open Go
def wp (r:R) (Q:AV→AH→Prop):Prop:=∃v h,r=some (v,h)∧Q v h
variable {Q Q':AV→AH→Prop} {h h':AH} {k:IntKind} {a b:Int} {K:AV→R}
theorem wp.mono {r:R} (w:wp r Q) (hq:∀v h,Q v h→Q' v h):wp r Q':=by obtain⟨v,h,e,q⟩:=w;exact⟨v,h,e,hq v h q⟩
theorem qY {v:AV} {g:AH} (q:Q v g):wp (some (v,g)) Q:=⟨_,_,rfl,q⟩
theorem Qp (a b:Int):mK a b=decide (a<b):=Kb a b
theorem XW (a b:Int):lm a b=decide (a=b):=by
 rw[Uw];by_cases h:a=b
 ·subst h;simp
 ·simp[h]
theorem kU (op:BinOp) (a b:Int) (K:AV→R):jo op (.int k a) (.int k b) K=ob (kb op k a b) K:=by rw[Ms];simp
theorem JG (w:wp (K (.bool (decide (a<b)))) Q):wp (jo .lss (.int k a) (.int k b) K) Q:=by rw[kU];simpa only[kb,Qp]using w
theorem ME (w:wp (K (.bool (decide (a≤b)))) Q):wp (jo .leq (.int k a) (.int k b) K) Q:=by rw[kU];simp only[kb,Qp];rw[show(!decide (b<a))=decide (a≤b) by rw[← decide_not];exact decide_eq_decide.2 omQ];exact w
theorem Fc (w:wp (K (.bool (decide (b<a)))) Q):wp (jo .gtr (.int k a) (.int k b) K) Q:=by rw[kU];simpa only[kb,Qp]using w
theorem Fe (w:wp (K (.bool (decide (b≤a)))) Q):wp (jo .geq (.int k a) (.int k b) K) Q:=by rw[kU];simp only[kb,Qp];rw[show(!decide (a<b))=decide (b≤a) by rw[← decide_not];exact decide_eq_decide.2 omQ];exact w
theorem JR (w:wp (K (.bool (decide (a=b)))) Q):wp (jo .eql (.int k a) (.int k b) K) Q:=by rw[kU];simpa only[kb,XW]using w
theorem UN (w:wp (K (.bool (decide (¬a=b)))) Q):wp (jo .neq (.int k a) (.int k b) K) Q:=by rw[kU];simp only[kb,XW];rw[← decide_not];exact w
theorem VN {n:Int} (h:-9223372036854775808≤n∧n≤9223372036854775807):zg .i64 n=n:=by
 rw[kA,Yl]
 split<;>omega
theorem Ff {n:Int} (h:0≤n∧n≤18446744073709551615):zg .u64 n=n:=by rw[kA,UC];omega
theorem Fg {n:Int} (h:0≤n∧n≤255):zg .u8 n=n:=by rw[kA,Ic];omega
theorem NU (w:wp (K (.int k (zg k (a+b)))) Q):wp (jo .add (.int k a) (.int k b) K) Q:=by rw[kU];exact w
theorem Fh (w:wp (K (.int k (zg k (a-b)))) Q):wp (jo .sub (.int k a) (.int k b) K) Q:=by rw[kU];exact w
theorem I4 (w:wp (K (.int k (zg k (a*b)))) Q):wp (jo .mul (.int k a) (.int k b) K) Q:=by rw[kU];exact w
theorem qU (h:-9223372036854775808≤a+b∧a+b≤9223372036854775807) (w:wp (K (.int .i64 (a+b))) Q):wp (jo .add (.int .i64 a) (.int .i64 b) K) Q:=NU (by rw[VN h];exact w)
theorem zB (h:-9223372036854775808≤a-b∧a-b≤9223372036854775807) (w:wp (K (.int .i64 (a-b))) Q):wp (jo .sub (.int .i64 a) (.int .i64 b) K) Q:=Fh (by rw[VN h];exact w)
theorem Mm (h:-9223372036854775808≤a*b∧a*b≤9223372036854775807) (w:wp (K (.int .i64 (a*b))) Q):wp (jo .mul (.int .i64 a) (.int .i64 b) K) Q:=I4 (by rw[VN h];exact w)
theorem ya (h:0≤a+b∧a+b≤18446744073709551615) (w:wp (K (.int .u64 (a+b))) Q):wp (jo .add (.int .u64 a) (.int .u64 b) K) Q:=NU (by rw[Ff h];exact w)
theorem vu (h:0≤a-b∧a-b≤18446744073709551615) (w:wp (K (.int .u64 (a-b))) Q):wp (jo .sub (.int .u64 a) (.int .u64 b) K) Q:=Fh (by rw[Ff h];exact w)
theorem Jv (h:b≠0) (w:wp (K (.int k (a.tmod b))) Q):wp (jo .rem (.int k a) (.int k b) K) Q:=by rw[kU];simp only[kb,XW,iV h,cond_false];exact w
theorem I5 (h:b≠0) (w:wp (K (.int k (zg k (a.tdiv b)))) Q):wp (jo .quo (.int k a) (.int k b) K) Q:=by rw[kU];simp only[kb,XW,iV h,cond_false];exact w
theorem QC {d:IntKind} (w:wp (K (.int d (zg d a))) Q):wp (vH d (.int k a) K) Q:=w
theorem xV (h:-9223372036854775808≤a∧a≤9223372036854775807) (w:wp (K (.int .i64 a)) Q):wp (vH .i64 (.int k a) K) Q:=QC (by rw[VN h];exact w)
theorem gc (h:0≤a∧a≤18446744073709551615) (w:wp (K (.int .u64 a)) Q):wp (vH .u64 (.int k a) K) Q:=QC (by rw[Ff h];exact w)
theorem qvb {q:IntKind} (h:0≤b) (w:wp (K (.int k (zg k (a*2 ^ (min b.toNat k.bits))))) Q):wp (wL .shl (.int k a) (.int q b) K) Q:=by unfold wL;simp only[Mo,Qp,iV (show¬b<0 by omega),cond_false];exact w
theorem qkt {t:Bool} (w:wp (K (.bool (!t))) Q):wp (ow .not (.bool t) K) Q:=w
theorem jA (w:wp (K (.bool false)) Q):wp (ow .not (.bool true) K) Q:=w
theorem jF (w:wp (K (.bool true)) Q):wp (ow .not (.bool false) K) Q:=w
theorem zz (w:wp (K (.int k (min a b))) Q):wp (nt false [.int k a,.int k b] K) Q:=by unfold nt;simp only[UZ,cond_true,tu,Ax,beq_self_eq_true,cond_false,Option.bind_some,Qp];rw[show(bif decide (b<a)then b else a)=min a b by by_cases h:b<a<;>simp[h]<;>omega];exact w
theorem zh (w:wp (K (.int k (max a b))) Q):wp (nt true [.int k a,.int k b] K) Q:=by unfold nt;simp only[UZ,cond_true,tu,Ax,beq_self_eq_true,Option.bind_some,Qp];rw[show(bif decide (a<b)then b else a)=max a b by by_cases h:a<b<;>simp[h]<;>omega];exact w
theorem wJ {p:Prop} [Decidable p] {K:AV→R} (h1:p→wp (K (.bool true)) Q) (h2:¬p→wp (K (.bool false)) Q):wp (K (.bool (decide p))) Q:=by
 by_cases hp:p
 ·rw[iG hp];exact h1 hp
 ·rw[iV hp];exact h2 hp
theorem xz (h1:a<b→wp (K (.bool true)) Q) (h2:¬a<b→wp (K (.bool false)) Q):wp (jo .lss (.int k a) (.int k b) K) Q:=JG (wJ h1 h2)
theorem wn (h1:a≤b→wp (K (.bool true)) Q) (h2:¬a≤b→wp (K (.bool false)) Q):wp (jo .leq (.int k a) (.int k b) K) Q:=ME (wJ h1 h2)
theorem QW (h1:b<a→wp (K (.bool true)) Q) (h2:¬b<a→wp (K (.bool false)) Q):wp (jo .gtr (.int k a) (.int k b) K) Q:=Fc (wJ h1 h2)
theorem yA (h1:b≤a→wp (K (.bool true)) Q) (h2:¬b≤a→wp (K (.bool false)) Q):wp (jo .geq (.int k a) (.int k b) K) Q:=Fe (wJ h1 h2)
theorem vw (h1:a=b→wp (K (.bool true)) Q) (h2:¬a=b→wp (K (.bool false)) Q):wp (jo .eql (.int k a) (.int k b) K) Q:=JR (wJ h1 h2)
theorem yx (h1:¬a=b→wp (K (.bool true)) Q) (h2:a=b→wp (K (.bool false)) Q):wp (jo .neq (.int k a) (.int k b) K) Q:=UN (wJ h1 λh=>h2 (Decidable.byContradiction h))
variable {x y:R} {p:Prop} [Decidable p] {u v:AV}
theorem qxS (h1:p→wp x Q) (h2:¬p→wp y Q):wp (zP (.bool (decide p)) x y) Q:=by
 rw[OE];by_cases hp:p
 ·simpa[hp]using h1 hp
 ·simpa[hp]using h2 hp
theorem gj {t:Bool} (h1:t=true→wp x Q) (h2:t=false→wp y Q):wp (zP (.bool t) x y) Q:=by
 cases t
 ·exact h2 rfl
 ·exact h1 rfl
theorem qZ (w:wp x Q):wp (zP (.bool true) x y) Q:=w
theorem qJ (w:wp y Q):wp (zP (.bool false) x y) Q:=w
theorem I6 (h1:p→wp x Q) (h2:¬p→wp y Q):wp (kL (.bool (decide p)) true x y) Q:=by
 rw[Ka];by_cases hp:p
 ·simpa[hp]using h1 hp
 ·simpa[hp]using h2 hp
theorem qR (w:wp x Q):wp (kL (.bool true) true x y) Q:=w
theorem jZ (w:wp y Q):wp (kL (.bool true) false x y) Q:=w
theorem qS (w:wp y Q):wp (kL (.bool false) true x y) Q:=w
theorem qc (w:wp x Q):wp (kL (.bool false) false x y) Q:=w
theorem zF {s:Bool} (w:wp y Q):wp (kL .undef s x y) Q:=w
theorem qC (w:wp (K u) Q):wp (kV (.bool true) u v K) Q:=w
theorem qF (w:wp (K v) Q):wp (kV (.bool false) u v K) Q:=w
theorem qW {α:Type} {j:α} {f:α→R} (w:wp (f j) Q):wp (yH j f) Q:=w
theorem KZ {σ:Type} {j:σ→AH→R} {f:(σ→AH→R)→R} (Inv:σ→AH→Prop) (hf:∀j':σ→AH→R,(∀s h,Inv s h→wp (j' s h) Q)→wp (f j') Q) (hj:∀s h,Inv s h→wp (j s h) Q):wp (yH j f) Q:=hf j hj
theorem jm {σ:Type} {j:σ→AH→List Nat→R} {f:(σ→AH→List Nat→R)→R} (ds:List Nat) (Inv:σ→AH→Prop) (hf:∀j':σ→AH→List Nat→R,(∀s h,Inv s h→wp (j' s h ds) Q)→wp (f j') Q)
  (hj:∀s h,Inv s h→wp (j s h ds) Q):wp (yH j f) Q:=hf j hj
theorem qx {K:AH→R} (w:wp (K h) Q):wp (zo [] h K) Q:=w
theorem jR {σ:Type} {f:(σ→AH→List Nat→R)→σ→AH→List Nat→R} {d:List Nat} (Inv:Nat→σ→AH→Prop)
  (step:∀m ih s h,(∀m' s' h',m'<m→Inv m' s' h'→wp (ih s' h' d) Q)→Inv m s h→wp (f ih s h d) Q):∀{N m:Nat} {s:σ} {h:AH},m<N→Inv m s h→wp (YI N f s h d) Q:=by
 intro N
 induction N with
 |zero=>intro m s h hm;omega
 |succ N ih=>intro m s h hm hi;show wp (f (YI N f) s h d) Q;exact step m _ s h (λm' s' h' ap l9=>ih omQ l9) hi
theorem qG {c:CV} {f:AV} {as:List AV} {K:AV→AH→R} (w:wp (c f as h) Q') (hk:∀v h',Q' v h'→wp (K v h') Q):wp (zA c f as h K) Q:=by obtain⟨v,h',e,q⟩:=w;rw[kR,e];exact hk v h' q
theorem qYp {tab:BT} {rt:List RT} {n:Nat} {f:FuncId} {as:List AV} {g:WF} (hg:tab.get f=some g):callT tab rt (n+1) (.fn f [] []) as h=g (callT tab rt n) as h:=by show Option.rec (motive:=λ_=>R) none (λg=>g (callT tab rt n) ([]++as++[]) h) (tab.get f)=_;rw[hg,List.nil_append,List.append_nil]
theorem qG4 {tab:BT} {rt:List RT} {n:Nat} {f:FuncId} {a1 a2 as:List AV} {g:WF} (hg:tab.get f=some g):callT tab rt (n+1) (.fn f a1 a2) as h=g (callT tab rt n) (a1++as++a2) h:=by show Option.rec (motive:=λ_=>R) none (λg=>g (callT tab rt n) (a1++as++a2) h) (tab.get f)=_;rw[hg]
end Go.Ae
namespace Go.Ae
open Go
def wX (z:Nat) (c:CV):CV:=λv as h=>match v,as with
 | .fn f [] [],[]=>if f=z then some (.bool true,h)else c v as h
 |_,_=>c v as h
theorem qK7 {z:Nat} {c:CV} {h:AH}:wX z c (.fn z [] []) [] h=some (.bool true,h):=iJ rfl
theorem Z5 {z f:Nat} {c:CV} {as:List AV} {h:AH} (hf:f≠z):wX z c (.fn f [] []) as h=c (.fn f [] []) as h:=by
 cases as with
 |nil=>exact iQ hf
 |cons a as=>rfl
theorem qA {tab:BT} {rt:List RT} {n:Nat} {f:FuncId} {as:List AV} {g:WF} {h:AH} {Q:AV→AH→Prop} (hg:tab.get f=some g) (hn:1≤n) (w:∀k,n=k+1→wp (g (callT tab rt k) as h) Q):wp (callT tab rt n (.fn f [] []) as h) Q:=by obtain⟨k,rfl⟩:∃k,n=k+1:=⟨n-1,by omega⟩;rw[qYp hg];exact w k rfl
theorem I7 {tab:BT} {rt:List RT} {n:Nat} {f:FuncId} {a1 a2 as:List AV} {g:WF} {h:AH} {Q:AV→AH→Prop} (hg:tab.get f=some g) (hn:1≤n) (w:∀k,n=k+1→wp (g (callT tab rt k) (a1++as++a2) h) Q):wp (callT tab rt n (.fn f a1 a2) as h) Q:=by obtain⟨k,rfl⟩:∃k,n=k+1:=⟨n-1,by omega⟩;rw[qG4 hg];exact w k rfl
theorem yV {z:Nat} {c:CV} {f:FuncId} {as:List AV} {h:AH} {Q Q':AV→AH→Prop} {K:AV→AH→R} (hf:f≠z) (w:wp (c (.fn f [] []) as h) Q') (hk:∀v h',Q' v h'→wp (K v h') Q):wp (zA (wX z c) (.fn f [] []) as h K) Q :=
 qG (by rw[Z5 hf];exact w) hk
theorem qva {z:Nat} {c:CV} {h:AH} {Q:AV→AH→Prop} {K:AV→AH→R} (hk:wp (K (.bool true) h) Q):wp (zA (wX z c) (.fn z [] []) [] h K) Q :=
 qG (Q':=λv h'=>v=.bool true∧h'=h) ⟨_,_,qK7,rfl,rfl⟩ (by rintro v h' ⟨rfl,rfl⟩;exact hk)
theorem Js {P:Program} {m:Mp} {D:Nat→Prop} {h:AH} {w w':World} (R:Rel P m D h w) (B:RowKit.Below w.heap.size w w'):Ext m D h w m D h w'∧Rel P m D h w':=by
 refine Ext.rel R ?_;refine⟨⟨λ_ x=>x,λ_ _=>rfl,B.size,λc hc hn=>⟨B.block c hc,hn⟩,Nat.le_refl _,λ_ _ hn=>⟨rfl,hn⟩,B.os,B.tape,B.output,λb=>⟨.inl,λhb=>hb.elim id λhb=>by omega⟩,λ_ _ h1 h2=>⟨h1,h2⟩⟩,?_,R.inj,R.lt,R.cJ⟩;intro b hb;obtain⟨x,hx,hr,hd⟩:=R.br b hb;refine⟨x,hx,?_,hd⟩;cases x with
 |dead=>trivial
 |cJ t=>exact hr.congr (λ_ _=>rfl) hd (B.block _ hr.fF)
 |_=>exact hr.congr (λ_ _=>rfl) hd (B.block _ (cK.inside (by exact True.intro) hr))
theorem Z1 {P:Program} {c:CV} (hc:x7 P c) {z:Nat} (tY:∀(as:Array Value) (W:World),(callFunc z as).run P W=.ok (.enter z as) W)
  (cE:∀(w:World) (n:Nat),Gl P w→CallsIn Fence.wide n P z #[] w λe w'=>e=.returned (.bool true)∧RowKit.Below w.heap.size w w'):x7 P (wX z c):=by
 intro vf as h r e m D w R hv ha;unfold wX at e
 split at e
 ·rename_i f
  split at e
  ·rename_i hf;subst hf;cases e;refine⟨tY,λn=>CallsIn.mono (cE w n R.gl.gl) ?_⟩;rintro ee w' ⟨rfl,B⟩;obtain⟨X,R'⟩:=Js R B;exact⟨m,D,rfl,X,R',trivial⟩
  ·exact hc _ _ _ _ e m D w R hv ha
 ·exact hc _ _ _ _ e m D w R hv ha
theorem open_law {P:Program} {tab:BT} {rt:List RT} (hm:P.follows .mixedOrders=true) (ht:TabOk P tab rt) {z:Nat} {gz:WF} (hz:tab.get z=some gz)
  (cE:∀(w:World) (n:Nat),Gl P w→CallsIn Fence.wide n P z #[] w λe w'=>e=.returned (.bool true)∧RowKit.Below w.heap.size w w')
  {f:FuncId} {g:WF} (hg:tab.get f=some g) {k:Nat} {as:List AV} {w:World} {h:AH} (M:wP w h) (tZ:Gl P w) (ha:aY (y6 w) as)
  (e:wp (g (wX z (callT tab rt k)) as h) λv _=>v=.bool true) (n:Nat):CallsIn Fence.wide n P f (aT Yo as).toArray w λe w'=>e=.returned (.bool true)∧RowKit.Below w.heap.size w w':=by
 obtain⟨v,h',e,rfl⟩:=e;have hc:=Z1 (OQ hm ht k) (ht.enter z gz hz) cE;refine CallsIn.mono ((ht.w f g hg).call hc (IY hm hc) e (M.rel tZ) ha n) ?_;rintro ee w' ⟨m',D',rfl,X,R',_⟩;exact⟨rfl,X.os,X.tape,X.output,X.size,λk hk=>(X.keep k hk (λ⟨b,hb,hl,_⟩=>M.iS hb hl)).1⟩
theorem Fi {P:Program} {h:AH} {d:Nat} {t0 t1 t2 t3:TypeId} {l:List AV} (H:Dw P h d [t0,t1,t2,t3] l):∃a0 a1 a2 a3,l=[a0,a1,a2,a3]∧sX P h d t0 a0∧sX P h d t1 a1∧sX P h d t2 a2∧sX P h d t3 a3:=by
 cases l with
 |nil=>exact H.elim
 |cons a0 l=>
 obtain⟨h0,H⟩:=H;cases l with
 |nil=>exact H.elim
 |cons a1 l=>
 obtain⟨h1,H⟩:=H;cases l with
 |nil=>exact H.elim
 |cons a2 l=>
 obtain⟨h2,H⟩:=H;cases l with
 |nil=>exact H.elim
 |cons a3 l=>
 obtain⟨h3,H⟩:=H;cases l with
 |cons _ _=>exact H.elim
 |nil=>exact⟨a0,a1,a2,a3,rfl,h0,h1,h2,h3⟩
end Go.Ae
namespace Go.Ae
open Go
variable {Q:AV→AH→Prop} {h h' nA:AH} {K:AV→R} {K2:AV→AH→R} {K1:AH→R} {b off n sz:Nat} {xs ys l:List AV} {e:TypeId} {o:Bool} {x v:AV} {k:IntKind}
def CT.full:CT→Prop
 | .dW _=>True
 | .tree n z tr=>∀i,i<n→∃v,ko z tr i=some v
theorem CT.nQ {c:CT} (hc:c.full) (i:Nat):c.dX i=c.toList[i]?:=by
 cases c with
 |dW xs=>exact xh xs i
 |tree n z tr=>
  simp only[CT.dX,CT.toList,List.getElem?_map];cases hb:Nat.ble (i+1) n
  ·have:=Xu hb;rw[cond_false,List.getElem?_eq_none (by simp;omega)];rfl
  ·have:=vk hb;obtain⟨v,hv⟩:=hc i omQ;rw[cond_true,List.getElem?_range omQ,hv];simp only[Option.map_some,J6 hv]
theorem ZU {z:List AV} {t:aL AV}:∀{l:List AV} {i:Nat},(∀k,k<l.length→ko z t (i+k)=l[k]?)→Qb z t i l.length=some l:=by
 intro l
 induction l with
 |nil=>intro i _;rfl
 |cons a l ih=>intro i H;rw[List.length_cons,MI];have h0:=H 0 aN;simp only[Nat.add_zero,List.getElem?_cons_zero]at h0;rw[h0,Option.bind_some,ih (i:=i+1) (λk hk=>by have:=H (k+1) (by simp;omega);simp only[List.getElem?_cons_succ]at this;rw[← this];congr 1;omega)];rfl
theorem UL {t:aL AV} {i:Nat}:ko [] t i=aL.get t i:=by
 rw[yE]
 split
 ·rename_i h;rw[h]
 ·rename_i h;rw[Kr,h]
theorem Xv {α:Type} {xs l:List α} {off:Nat} (H:∀i,i<l.length→xs[off+i]? =l[i]?):(xs.drop off).take l.length=l:=by
 apply List.ext_getElem?;intro i;by_cases hi:i<l.length
 ·rw[List.getElem?_take_of_lt hi,List.getElem?_drop,H i hi]
 ·rw[List.getElem?_eq_none (by simp;omega),List.getElem?_eq_none omQ]
theorem J5 (hl:0<l.length) (H:∀i,i<l.length→h.at b (off+i)=l[i]?):yJ h b off l.length=some l:=by
 have hd:∀i,i<l.length→∃u,l[i]? =some u:=λi hi=>⟨_,iW hi⟩;have bN:=H (l.length-1) omQ;obtain⟨u,hu⟩:=hd (l.length-1) omQ;unfold AH.at at H bN;unfold yJ;cases hg:h.get b with
 |none=>simp only[hg]at bN;rw[hu]at bN;cases bN
 |some x=>
  simp only[hg]at H bN;cases x with
  |cells c e o=>
   simp only at H bN ⊢;cases c with
   |dW ys=>simp only[CT.dX,xh]at H bN;simp only[CT.fM,wF];rw[hu]at bN;have:=(List.getElem?_eq_some_iff.1 bN).1;rw[gQ (by simp;omega),Xv H]
   |tree m z tr=>
    simp only[CT.dX]at H bN;have hm:off+l.length≤m:=by
     rw[hu]at bN;cases hb:Nat.ble (off+(l.length-1)+1) m
     ·rw[hb]at bN;cases bN
     ·have:=vk hb;omega
    simp only[CT.fM];rw[show Nat.beq l.length 0=false from xp omQ,cond_false,iY hm,cond_true];refine ZU λk hk=>?_;have:=H k hk;rw[iY (show off+k+1≤m by omega),cond_true]at this;exact this
  |cJ t=>simp only at H ⊢;exact ZU λk hk=>by rw[UL];exact H k hk
  |_=>simp only at bN;rw[hu]at bN;cases bN
theorem QS (hx:h.at b off=some x) (w:wp (K x) Q):wp (jB h (.ptr b off) K) Q:=by
 unfold AH.at at hx;rw[y5];simp only
 split at hx
 ·rename_i hg;rw[hg];simp only[hx,ob];exact w
 ·rename_i hg;rw[hg];simp only[hx,ob];exact w
 ·cases hx
theorem OD (hl:l.length=n) (hn:0<n) (H:∀i,i<n→h.at b (off+i)=l[i]?) (w:wp (K (.agg l)) Q):wp (zc h (.ptr b off) n K) Q:=by subst hl;rw[gt];simp only[J5 hn H,ob];exact w
structure Fr (fp:Nat→Prop) (h h':AH):Prop where
  nx:h.nx≤h'.nx
  get:∀b,b<h.nx→¬fp b→h'.get b=h.get b
theorem Fr.refl (fp:Nat→Prop) (h:AH):Fr fp h h:=⟨Nat.le_refl _,λ_ _ _=>rfl⟩
theorem Fr.mono {fp fq:Nat→Prop} (F:Fr fp h h') (H:∀b,b<h.nx→fp b→fq b):Fr fq h h':=⟨F.nx,λb hb hn=>F.get b hb λhf=>hn (H b hb hf)⟩
theorem Fr.trans {fp fq:Nat→Prop} (F:Fr fp h h') (G:Fr fq h' nA):Fr (λb=>fp b∨fq b) h nA :=
 ⟨Nat.le_trans F.nx G.nx,λb hb hn=>(G.get b (Nat.lt_of_lt_of_le hb F.nx) λhf=>hn (.inr hf)).trans (F.get b hb λhf=>hn (.inl hf))⟩
abbrev ol (N:Nat) (h h':AH):Prop:=Fr (λb=>N≤b) h h'
theorem ol.refl (N:Nat) (h:AH):ol N h h:=Fr.refl _ _
theorem ol.step {N:Nat} {fp:Nat→Prop} (F:ol N h h') (G:Fr fp h' nA) (H:∀b,fp b→N≤b):ol N h nA :=
 (F.trans G).mono λb _ hb=>hb.elim id (H b)
structure Row (h:AH) (b:Nat) (xs:List AV) (e:TypeId) (o:Bool):Prop where
  lt:b<h.nx
  br:∃c,h.get b=some (.cells c e o)∧c.toList=xs∧c.full
theorem Row.fr {fp:Nat→Prop} (A:Row h b xs e o) (F:Fr fp h h') (hb:¬fp b):Row h' b xs e o :=
 ⟨Nat.lt_of_lt_of_le A.lt F.nx,by rw[F.get b A.lt hb];exact A.br⟩
theorem Row.at (A:Row h b xs e o) (i:Nat):h.at b i=xs[i]?:=by
 obtain⟨c,h1,rfl,h3⟩:=A.br;unfold AH.at
 rw[h1];exact CT.nQ h3 i
theorem I8 {fp:Nat→Prop} {i:Nat} (F:Fr fp h h') (hb:b<h.nx) (hf:¬fp b):h'.at b i=h.at b i:=by unfold AH.at;rw[F.get b hb hf]
theorem CT.bh (xs:List AV):(CT.ofList xs).full:=by
 unfold CT.ofList;cases Nat.ble xs.length 16
 ·intro i hi;refine⟨xs[i],?_⟩;rw[UL,wY,iJ omQ,Nat.sub_zero,iW hi]
 ·trivial
theorem CT.po (z:List AV) (n:Nat):(CT.uL z n).full:=by
 unfold CT.uL;cases hb:Nat.ble (z.length*n) 16
 ·intro i hi;have h1:=Xu hb;have hz:0<z.length:=Nat.pos_of_ne_zero λh0=>by rw[h0,Nat.zero_mul]at h1;omega
  have hm:=Nat.mod_lt i hz;refine⟨z[i%z.length],?_⟩;rw[yE,show aL.get (PT.e:aL AV) i=none from aL.ey i];simp only;rw[xh,iW hm]
 ·trivial
theorem Mw {z:List AV} {t:aL AV} {i:Nat} {xs:List AV} {j:Nat}:ko z (OU t i xs) j=if i≤j∧j<i+xs.length then xs[j-i]? else ko z t j:=by
 rw[yE,yE,wY];by_cases hj:i≤j∧j<i+xs.length
 ·rw[iJ hj,iJ hj,iW omQ]
 ·rw[iQ hj,iQ hj]
theorem CT.mF {c c':CT} (hc:c.full) (e:c.write off xs=some c'):c'.full:=by
 cases c with
 |dW ys=>simp only[CT.write,Option.bind_eq_some_iff]at e;obtain⟨s,_,e⟩:=e;cases e;trivial
 |tree n z tr=>
  simp only[CT.write,qs]at e;obtain⟨_,e⟩:=e;cases e;intro i hi;rw[Mw];by_cases hj:off≤i∧i<off+xs.length
  ·rw[iJ hj];exact⟨_,iW omQ⟩
  ·rw[iQ hj];exact hc i hi
theorem CT.mG {c:CT} (ho:off+xs.length≤c.toList.length):∃c',c.write off xs=some c':=by
 cases c with
 |dW ys=>exact⟨_,by simp only[CT.write];rw[Gq (show off+xs.length≤ys.length from ho)];rfl⟩
 |tree n z tr=>exact⟨_,by simp only[CT.write];rw[iY (by simpa[CT.toList]using ho),cond_true]⟩
theorem CT.pp {c:CT} (hc:c.full) (xs:List AV):(c.fN xs).full:=by
 cases c with
 |dW ys=>exact CT.bh _
 |tree n z tr=>
  intro i hi;rw[Mw];by_cases hj:n≤i∧i<n+xs.length
  ·rw[iJ hj];exact⟨_,iW omQ⟩
  ·rw[iQ hj];exact hc i omQ
theorem CT.pr {c:CT} (hc:c.full) (hn:n≤c.toList.length):∃c',c.pre n=some c'∧c'.toList=c.toList.take n∧c'.full:=by
 have key:∃c',c.pre n=some c'∧c'.full:=by
  cases c with
  |dW ys=>exact⟨.dW (ys.take n),by simp only[CT.pre];rw[gQ (show n≤ys.length from hn)];rfl,trivial⟩
  |tree m z tr=>
   have hm:n≤m:=by simpa[CT.toList]using hn
   exact⟨.tree n z tr,by simp only[CT.pre];rw[iY hm,cond_true],λi hi=>hc i omQ⟩
 obtain⟨c',h1,h2⟩:=key;have h3:=CT.mo h1;rw[gQ hn]at h3;exact⟨c',h1,(Option.some.inj h3).symm,h2⟩
def wA (xs:List AV) (off:Nat) (ys:List AV):List AV:=xs.take off++ys++xs.drop (off+ys.length)
theorem YT (ho:off+ys.length≤xs.length):(wA xs off ys).length=xs.length:=by simp[wA];omega
theorem qVa (ho:off+ys.length≤xs.length) (i:Nat):(wA xs off ys)[i]? =if off≤i∧i<off+ys.length then ys[i-off]? else xs[i]?:=by
 unfold wA;by_cases h1:i<off
 ·rw[iQ omQ,List.append_assoc,List.getElem?_append_left (by simp;omega),List.getElem?_take_of_lt h1]
 ·by_cases h2:i<off+ys.length
  ·rw[iJ omQ,List.getElem?_append_left (by simp;omega),List.getElem?_append_right (by simp;omega)]
   congr 1;simp;omega
  ·rw[iQ omQ,List.getElem?_append_right (by simp;omega),List.getElem?_drop]
   congr 1;simp;omega
theorem Yh {y:AV} (ho:off<xs.length):wA xs off [y]=xs.set off y:=by
 apply List.ext_getElem?;intro i;rw[qVa (by simp;omega),List.getElem?_set];by_cases h1:off=i
 ·subst h1;rw[iJ aN,iJ rfl,iJ ho];simp
 ·rw[iQ (by simp;omega),iQ h1]
theorem GO (A:Row h b xs e o) (ho:off+ys.length≤xs.length) (h1:ql ys=true):∃h',vA h b off ys=some h'∧Row h' b (wA xs off ys) e o∧Fr (λa=>a=b) h h'∧h'.nx=h.nx:=by obtain⟨c,g1,rfl,g3⟩:=A.br;obtain⟨c',mq⟩:=CT.mG (c:=c) ho;have h2:=CT.lD mq;rw[Gq ho]at h2;refine⟨h.put b (.cells c' e o),?_,⟨A.lt,c',AH.aS ..,(Option.some.inj h2).symm,CT.mF g3 mq⟩,⟨Nat.le_refl _,λa _ hn=>AH.bn h _ (λe=>hn e.symm)⟩,rfl⟩;unfold vA;rw[g1];simp only[h1,cond_true,mq,Option.bind_some]
theorem Zk (A:Row h b xs e o) (hn:x.cells.length=n) (ho:off+n≤xs.length) (h1:ql x.cells=true)
  (w:∀h',Row h' b (wA xs off x.cells) e o→Fr (λa=>a=b) h h'→h'.nx=h.nx→wp (K1 h') Q):wp (jU h (.ptr b off) x n K1) Q:=by
 subst hn;obtain⟨h',g1,g2,g3,g4⟩:=GO A ho h1;rw[GY];simp only[Nat.beq_refl,cond_true,g1,ob];exact w h' g2 g3 g4
theorem Row.new {c:CT} (hc:c.full):Row (h.new (.cells c e o)) h.nx c.toList e o∧Fr (λ_=>False) h (h.new (.cells c e o)) :=
 ⟨⟨by simp,c,AH.bp ..,rfl,hc⟩,⟨by simp,λb hb _=>AH.bG h _ omQ⟩⟩
theorem qvC (h1:ql x.cells=true) (w:∀b h',h.nx≤b→Row h' b x.cells e false→Fr (λ_=>False) h h'→wp (K2 (.ptr b 0) h') Q):wp (gF h e x K2) Q:=by unfold gF;rw[h1,cond_true];obtain⟨a1,a2⟩:=Row.new (h:=h) (e:=e) (o:=false) (CT.bh x.cells);rw[CT.aG]at a1;exact w h.nx _ (Nat.le_refl _) a1 a2
theorem qL {z:List AV} {vs:List (Nat×Nat×AV)} (hf:xT z vs=some l) (w:wp (K (.agg l)) Q):wp (vJ z vs K) Q:=by unfold vJ;rw[hf];exact w
theorem Vw {z:List AV} {vs:List (Nat×Nat×AV)} (hf:xT (yI z n) vs=some l) (h1:ql l=true)
  (w:∀b h',h.nx≤b→Row h' b l e false→Fr (λ_=>False) h h'→wp (K2 (.slice b 0 n n false) h') Q):wp (yC h e z n vs K2) Q:=by
 unfold yC;simp only[hf,ob,h1,cond_true];obtain⟨a1,a2⟩:=Row.new (h:=h) (e:=e) (o:=false) (CT.bh l);rw[CT.aG]at a1;exact w h.nx _ (Nat.le_refl _) a1 a2
theorem Ov (z:AV):∀n,yI [z] n=List.replicate n z:=by
 intro n
 induction n with
 |zero=>rfl
 |succ n ih=>rw[yI,ih,List.replicate_succ];rfl
theorem I9 {z:List AV} {ln cp:Nat} {k1 k2:IntKind} (h1:ln≤cp) (h2:cp≤1073741824)
  (w:∀b h',h.nx≤b→Row h' b (yI z cp) e false→Fr (λ_=>False) h h'→wp (K2 (.slice b 0 ln cp false) h') Q):wp (kr h e z (.int k1 (ln:Int)) (.int k2 (cp:Int)) K2) Q:=by
 show wp (bif Nat.ble ln cp&&Nat.ble cp 1073741824 then K2 (.slice h.nx 0 ln cp false) (h.new (.cells (CT.uL z cp) e false))else none) Q;rw[iY h1,iY h2];obtain⟨a1,a2⟩:=Row.new (h:=h) (e:=e) (o:=false) (CT.po z cp);rw[CT.mn]at a1;exact w h.nx _ (Nat.le_refl _) a1 a2
theorem qh {f:Nat} (w:wp (K (.ptr b (off+f))) Q):wp (qn (.ptr b off) f K) Q:=w
theorem XV {cp i:Nat} (hi:i<n) (w:wp (K (.ptr b (off+i*sz))) Q):wp (vt (.slice b off n cp o) (.int k (i:Int)) sz K) Q:=by rw[Kw];show wp (bif Nat.ble (i+1) n then K (.ptr b (off+i*sz))else none) Q;rw[iY hi,cond_true];exact w
theorem qB {i:Nat} (hx:l[i]? =some x) (w:wp (K x) Q):wp (xv (.bJ l) i K) Q:=by rw[JY];simp only[xh,hx,ob];exact w
def AH.rd (h:AH) (b:Nat):Prop:=match h.get b with
 |some (.cells _ _ _)=>True
 |some (.cJ _)=>True
 |_=>False
theorem La {fp:Nat→Prop} (F:Fr fp h h') (hb:b<h.nx) (hf:¬fp b) (hr:h.rd b):h'.rd b:=by unfold AH.rd at*;rw[F.get b hb hf];exact hr
theorem Row.rd (A:Row h b xs e o):h.rd b:=by obtain⟨c,h1,_⟩:=A.br;unfold AH.rd;rw[h1];trivial
inductive Sl (D:Nat→Prop) (h:AH) (sz:Nat):Nat→AV→List AV→Prop
  |ak:Sl D h sz 0 .ak []
  |bU (a:Addr):Sl D h sz 0 (.bU a) []
  |tail (b off nq i1:Nat):Sl D h sz 0 (.tail b off nq i1) []
  |mk {b off n cp:Nat} {o:Bool} {xs:List AV} (hd:D b) (hb:b<h.nx) (hr:h.rd b) (hl:xs.length=n*sz) (ha:∀i,i<n*sz→h.at b (off+i)=xs[i]?):Sl D h sz n (.slice b off n cp o) xs
theorem Sl.len {D:Nat→Prop} (S:Sl D h sz n v xs):xs.length=n*sz:=by
 cases S with
 |ak=>simp
 |bU a=>simp
 |tail b o o' i=>simp
 |mk hd hb hr hl ha=>exact hl
theorem Sl.fr {D fp:Nat→Prop} (S:Sl D h sz n v xs) (F:Fr fp h h') (hD:∀b,D b→¬fp b):Sl D h' sz n v xs:=by
 cases S with
 |ak=>exact .ak
 |bU a=>exact .bU a
 |tail b o o' i=>exact .tail b o o' i
 |mk hd hb hr hl ha=>exact .mk hd (Nat.lt_of_lt_of_le hb F.nx) (La F hb (hD _ hd) hr) hl λi hi=>by rw[I8 F hb (hD _ hd)];exact ha i hi
theorem Sl.mono {D D':Nat→Prop} (S:Sl D h sz n v xs) (hD:∀b,D b→D' b):Sl D' h sz n v xs:=by
 cases S with
 |ak=>exact .ak
 |bU a=>exact .bU a
 |tail b o o' i=>exact .tail b o o' i
 |mk hd hb hr hl ha=>exact .mk (hD _ hd) hb hr hl ha
theorem Sl.cS {D:Nat→Prop} (S:Sl D h sz n v xs) (F:ol h.nx h h'):Sl D h' sz n v xs:=by
 cases S with
 |ak=>exact .ak
 |bU a=>exact .bU a
 |tail b o o' i=>exact .tail b o o' i
 |mk hd hb hr hl ha=>exact .mk hd (Nat.lt_of_lt_of_le hb F.nx) (La F hb omQ hr) hl λi hi=>by rw[I8 F hb omQ];exact ha i hi
theorem Row.cS {N:Nat} (A:Row h b xs e o) (F:ol N h h') (hb:b<N):Row h' b xs e o:=A.fr F omQ
theorem xS {D:Nat→Prop} (S:Sl D h sz n v xs) (w:wp (K (.int .i64 (n:Int))) Q):wp (JJ v K) Q:=by
 cases S<;>exact w
theorem Fj {D:Nat→Prop} {i:Nat} (S:Sl D h sz n v xs) (hi:i<n) (w:∀b off,b<h.nx→D b→(∀j,j<sz→h.at b (off+j)=xs[i*sz+j]?)→wp (K (.ptr b off)) Q):wp (vt v (.int k (i:Int)) sz K) Q:=by
 cases S with
 |ak=>omega
 |bU a=>omega
 |tail b o o' i=>omega
 |mk hd hb hr hl ha=>
  refine XV hi (w _ _ hb hd λj hj=>?_)
  rw[Nat.add_assoc,ha _ (by
   have:i*sz+sz≤n*sz:=by rw[← Nat.succ_mul];exact Nat.mul_le_mul_right sz hi
   omega)]
theorem Sl.rQ {D:Nat→Prop} {cp:Nat} (A:Row h b xs e o) (hd:D b) (ho:xs.length=n*sz):Sl D h sz n (.slice b 0 n cp o) xs :=
 .mk hd A.lt A.rd ho λi _=>by rw[A.at,Nat.zero_add]
theorem y0 {y d i:Nat} (hi:i≤y):yP (some (.int k (i:Int))) y d=some i:=by show(bif Nat.ble i y then some i else none)=some i;rw[iY hi];rfl
theorem Zf {el cp lo hi:Nat} {BL BM:Option AV} (hh:yP BM cp n=some hi) (hl:yP BL hi 0=some lo) (w:wp (K (.slice b (bif Nat.beq cp lo then off else off+lo*sz) (hi-lo) (cp-lo) false)) Q):wp (yQ h el sz (.slice b off n cp false) BL BM K) Q:=by unfold yQ;simp only[hh,hl,ob];exact w
theorem NV {i0 lo hi:Nat} {BL BM:Option AV} (A:Row h b xs e true) (bw:0<sz) (ho:off=i0*sz) (hx:off+n*sz≤xs.length) (hh:yP BM n n=some hi) (hl:yP BL hi 0=some lo) (ap:lo<n∨lo=0)
  (w:wp (K (.slice b (off+lo*sz) (hi-lo) (i0+lo) true)) Q):wp (yQ h e sz (.slice b off n i0 true) BL BM K) Q:=by
 obtain⟨c,g1,g2,g3⟩:=A.br;unfold yQ;have hf:yL h e b off sz i0 n=true:=by unfold yL;rw[g1];simp only[Nat.beq_refl,Bool.true_and,Bool.and_eq_true];refine⟨iY bw,by rw[ho];exact Nat.beq_refl _,iY ?_⟩;rw[CT.dp,g2];exact hx
 simp only[hf,cond_true,hh,hl,ob];by_cases h0:lo=0
 ·subst h0;simpa using w
 ·rw[show Nat.beq lo 0=false from xp h0,cond_false,iY (show lo+1≤n by omega),cond_true];exact w
def shut:AV→Bool
 | .slice _ _ _ _ o=>!o
 | .tail _ _ _ _=>false
 |_=>true
theorem qqU {D:Nat→Prop} (S:Sl D h sz n v xs):Qz v=some n:=by cases S<;>rfl
theorem CT.ua {c:CT} {ys:List AV} (H:∀i,i<ys.length→c.dX i=ys[i]?):∃c',c.pre ys.length=some c'∧c'.toList=ys∧c'.full:=by
 by_cases h0:ys.length=0
 ·have:=iA h0;subst this;cases c with
  |dW xs=>exact⟨.dW [],rfl,rfl,trivial⟩
  |tree m z tr=>exact⟨.tree 0 z tr,by simp only[CT.pre,List.length_nil];rw[iY (Nat.zero_le _),cond_true],rfl,λi hi=>by omega⟩
 ·have bN:=H (ys.length-1) omQ;rw[iW omQ]at bN;cases c with
  |dW xs=>simp only[CT.dX,xh]at H bN;have hl:=(List.getElem?_eq_some_iff.1 bN).1;refine⟨.dW (xs.take ys.length),by simp only[CT.pre];rw[gQ omQ];rfl,?_,trivial⟩;have:=Xv (xs:=xs) (l:=ys) (off:=0) (λi hi=>by rw[Nat.zero_add];exact H i hi);simpa[CT.toList]using this
  |tree m z tr=>
   simp only[CT.dX]at H bN;have hm:ys.length≤m:=by
    cases hb:Nat.ble (ys.length-1+1) m
    ·rw[hb]at bN;cases bN
    ·have:=vk hb;omega
   have ht:∀i,i<ys.length→ko z tr i=ys[i]?:=λi hi=>by
    have:=H i hi;rw[iY (show i+1≤m by omega),cond_true]at this;exact this
   refine⟨.tree ys.length z tr,by simp only[CT.pre];rw[iY hm,cond_true],?_,λi hi=>⟨_,(ht i hi).trans (iW hi)⟩⟩;apply List.ext_getElem?;intro i;simp only[CT.toList,List.getElem?_map];by_cases hi:i<ys.length
   ·rw[List.getElem?_range hi,Option.map_some,J6 ((ht i hi).trans (iW hi)),iW hi]
   ·rw[List.getElem?_eq_none (by simp;omega),List.getElem?_eq_none omQ];rfl
theorem qK2 {D:Nat→Prop} (S:Sl D h sz n v ys):∃nc,UT h sz n v=some nc∧nc.toList=ys∧nc.full:=by
 cases S with
 |ak=>exact⟨_,rfl,rfl,trivial⟩
 |bU a=>exact⟨_,rfl,rfl,trivial⟩
 |tail b o o' i=>exact⟨_,rfl,rfl,trivial⟩
 |mk hd hb hr hl ha=>
  rename_i b off cp o;have lU:0<ys.length→yJ h b off ys.length=some ys:=λh0=>J5 h0 λi hi=>ha i omQ;unfold UT;simp only[← hl];unfold AH.rd at hr;unfold AH.at at ha;unfold yJ at lU
  split at hr
  ·rename_i c e' o' hg;simp only[hg]at ha lU ⊢;unfold CT.C0;by_cases h0:off=0
   ·subst h0;rw[Nat.beq_refl,cond_true];obtain⟨c',h1,h2,h3⟩:=CT.ua (c:=c) (ys:=ys) λi hi=>by have:=ha i omQ;rw[Nat.zero_add]at this;exact this
    exact⟨c',h1,h2,h3⟩
   ·rw[show Nat.beq off 0=false from xp h0,cond_false];by_cases hy:0<ys.length
    ·rw[lU hy];exact⟨_,rfl,CT.aG ys,CT.bh ys⟩
    ·have:=iA (show ys.length=0 by omega);subst this;refine⟨CT.ofList [],?_,CT.aG [],CT.bh []⟩;cases c<;>rfl
  ·rename_i t hg;simp only[hg]at lU ⊢;by_cases hy:0<ys.length
   ·rw[lU hy];exact⟨_,rfl,CT.aG ys,CT.bh ys⟩
   ·have:=iA (show ys.length=0 by omega);subst this;exact⟨CT.ofList [],rfl,CT.aG [],CT.bh []⟩
  ·exact hr.elim
def Acc (D:Nat→Prop) (h:AH) (e:TypeId) (sz n:Nat) (v:AV) (xs:List AV):Prop :=
 xs.length=n*sz∧(v=.ak∧n=0∨∃b,v=.slice b 0 n 0 true∧D b∧Row h b xs e true)
theorem Acc.ak {D:Nat→Prop}:Acc D h e sz 0 .ak []:=⟨by simp,.inl ⟨rfl,rfl⟩⟩
theorem Acc.sl {D:Nat→Prop} (A:Acc D h e sz n v xs):Sl D h sz n v xs:=by
 obtain⟨h1,⟨rfl,rfl⟩ |⟨b,rfl,h2,h3⟩⟩:=A
 ·obtain rfl:xs=[]:=iA (by simpa using h1);exact .ak
 ·exact .rQ h3 h2 h1
theorem Acc.fr {D fp:Nat→Prop} (A:Acc D h e sz n v xs) (F:Fr fp h h') (hD:∀b,D b→¬fp b):Acc D h' e sz n v xs:=by
 obtain⟨h1,h2 |⟨b,rfl,h2,h3⟩⟩:=A
 ·exact⟨h1,.inl h2⟩
 ·exact⟨h1,.inr ⟨b,rfl,h2,h3.fr F (hD b h2)⟩⟩
theorem Acc.mono {D D':Nat→Prop} (A:Acc D h e sz n v xs) (hD:∀b,D b→D' b):Acc D' h e sz n v xs:=by
 obtain⟨h1,h2 |⟨b,rfl,h2,h3⟩⟩:=A
 ·exact⟨h1,.inl h2⟩
 ·exact⟨h1,.inr ⟨b,rfl,hD b h2,h3⟩⟩
end Go.Ae
namespace Go.Ae
open Go
variable {h:AH} {n sz:Nat} {xs:List AV}
theorem qK {b o:Nat} {K:AV→R} {Q:AV→AH→Prop} (w:wp (K (.ptr b o)) Q):wp (xM (.ptr b o) K) Q:=w
theorem jb {D:Nat→Prop} {v x:AV} {i:Nat} {k:IntKind} {K:AV→R} {Q:AV→AH→Prop} (S:Sl D h 1 n v xs) (hx:xs[i]? =some x) (w:wp (K x) Q):wp (vt v (.int k (i:Int)) 1 λp=>jB h p K) Q:=by
 have hi:i<n:=by have:=(List.getElem?_eq_some_iff.1 hx).1;have:=S.len;omega
 refine Fj S hi λb off _ _ H=>QS ?_ w;have:=H 0 omQ;rw[Nat.mul_one]at this;exact this.trans hx
theorem y4 {D:Nat→Prop} {v x:AV} {i f:Nat} {k:IntKind} {K:AV→R} {Q:AV→AH→Prop} (S:Sl D h sz n v xs) (hf:f<sz) (hi:i<n) (hx:xs[i*sz+f]? =some x) (w:wp (K x) Q):wp (vt v (.int k (i:Int)) sz λp=>qn p f λq=>jB h q K) Q:=by refine Fj S hi λb off _ _ H=>qh (QS ?_ w);exact(H f hf).trans hx
theorem zS {D:Nat→Prop} {v:AV} {i:Nat} {l:List AV} {k:IntKind} {K:AV→R} {Q:AV→AH→Prop} (S:Sl D h sz n v xs) (hi:i<n) (h0:0<sz) (hl:(xs.drop (i*sz)).take sz=l) (w:wp (K (.agg l)) Q):wp (vt v (.int k (i:Int)) sz λp=>zc h p sz K) Q:=by
 have hle:i*sz+sz≤n*sz:=by rw[← Nat.succ_mul];exact Nat.mul_le_mul_right sz hi
 have rj:=S.len;refine Fj S hi λb off _ _ H=>OD (l:=l) (by rw[← hl];simp;omega) h0 (λj hj=>?_) w;rw[H j hj,← hl,List.getElem?_take_of_lt hj,List.getElem?_drop]
theorem qGC (a:Int):lm a a=true:=by rw[Uw];simp
theorem qqA (a:List UInt8):fO a a=true:=by rw[fI];simp
mutual
theorem kJ:∀v:AV,yu v v=true
 | .bool b=>by simp[yu]
 | .int k n=>by simp[yu,qGC]
 | .str s=>by simp[yu,qqA]
 | .ptr b o=>by simp[yu,Nat.beq_refl]
 | .aP=>rfl
 | .slice b o l c p=>by simp[yu,Nat.beq_refl]
 | .ak=>rfl
 | .fn f a c=>by simp[yu,Nat.beq_refl,kj a,kj c]
 | .yield l=>by simp[yu,Nat.beq_refl]
 | .dG=>rfl
 | .iface t v=>by simp[yu,Nat.beq_refl,kJ v]
 | .cH=>rfl
 | .agg l=>by simp[yu,kj l]
 | .bJ l=>by simp[yu,kj l]
 | .bU a=>by simp[yu]
 | .cI _=>by simp[yu]
 | .tail b o o' i=>by simp[yu,Nat.beq_refl]
theorem kj:∀l:List AV,YH l l=true
 |[]=>rfl
 |a::r=>by simp[YH,kJ a,kj r]
end
theorem Lb {b off:Nat} {x:AV} (hx:h.at b off=some x):zi (.ptr b off) none x h=true:=by
 unfold AH.at at hx;unfold zi;simp only
 split at hx
 ·rename_i hg;rw[hg];simp only[hx,kJ]
 ·rename_i hg;rw[hg];simp only[hx,kJ]
 ·cases hx
theorem Lc {b off n:Nat} {l:List AV} (hl:l.length=n) (h0:0<n) (H:∀i,i<n→h.at b (off+i)=l[i]?):zi (.ptr b off) (some n) (.agg l) h=true:=by
 subst hl;have:=J5 h0 H;unfold yJ at this;unfold zi;simp only
 split at this
 ·simp only[this,kJ]
 ·simp only[this,kJ]
 ·cases this
theorem qzd {b off l i nx:Nat} {p:Bool} {t:List UInt8} {hb ha:AH} {K:R} {Q:AV→AH→Prop} (ap:ha.nx≤b) (w:wp K Q):wp (Xk (.slice b off l i p) none (.str t) hb ha nx K) Q:=by unfold Xk ox;dsimp only;rw[iY ap];exact w
theorem Ld {hb ha:AH} {b off nx:Nat} {x:AV} {K:R} {Q:AV→AH→Prop} (h1:hb.at b off=some x) (h2:ha.at b off=some x) (ap:b<nx) (w:wp K Q):wp (Xk (.ptr b off) none x hb ha nx K) Q:=by unfold Xk ox;dsimp only;rw[Lb h1,Lb h2,show D9 (.ptr b off) nx=true from iY ap];exact w
theorem qjn {hb ha:AH} {b off n nx:Nat} {l:List AV} {K:R} {Q:AV→AH→Prop} (hl:l.length=n) (h0:0<n) (h1:∀i,i<n→hb.at b (off+i)=l[i]?) (h2:∀i,i<n→ha.at b (off+i)=l[i]?) (ap:b<nx) (w:wp K Q) :
  wp (Xk (.ptr b off) (some n) (.agg l) hb ha nx K) Q:=by
 unfold Xk ox;dsimp only;rw[Lc hl h0 h1,Lc hl h0 h2,show D9 (.ptr b off) nx=true from iY ap];exact w
def BN (v:AV) (n:Nat):Prop:=Qz v=some n∧∀s,v≠.str s
theorem Sl.rR {D:Nat→Prop} {v:AV} (S:Sl D h sz n v xs):BN v n:=by cases S<;>exact⟨rfl,λs hs=>by cases hs⟩
theorem x9 {v:AV} {K:AV→R} {Q:AV→AH→Prop} (H:BN v n) (w:wp (K (.int .i64 (n:Int))) Q):wp (JJ v K) Q:=by obtain⟨h1,h2⟩:=H;cases v<;>simp only[Qz,reduceCtorEq,Option.some.injEq]at h1<;>subst h1<;>first |exact w |exact absurd rfl (h2 _)
theorem YB {α:Type} (enc:α→List AV) (he:∀a,(enc a).length=sz):∀l:List α,(l.flatMap enc).length=l.length*sz:=by
 intro l
 induction l with
 |nil=>simp
 |cons a l ih=>simp only[List.flatMap_cons,List.length_append,he,ih,List.length_cons,Nat.add_mul,Nat.one_mul];omega
theorem Jh {α:Type} (enc:α→List AV) (he:∀a,(enc a).length=sz):∀(l:List α) (i:Nat),(l.flatMap enc).drop (i*sz)=(l.drop i).flatMap enc:=by
 intro l
 induction l with
 |nil=>simp
 |cons a l ih=>
  intro i;cases i with
  |zero=>simp
  |succ i=>
   rw[List.flatMap_cons,List.drop_succ_cons,← ih i,Nat.add_mul,Nat.one_mul,Nat.add_comm,← List.drop_drop]
   congr 1
   rw[← he a,List.drop_left]
theorem JP {α:Type} (enc:α→List AV) (he:∀a,(enc a).length=sz) (l:List α) (i j:Nat) (hj:j<sz):(l.flatMap enc)[i*sz+j]? =(l[i]?).bind λa=>(enc a)[j]?:=by
 rw[← List.getElem?_drop,Jh enc he];cases hl:l[i]? with
 |none=>rw[List.drop_eq_nil_of_le (List.getElem?_eq_none_iff.1 hl)];rfl
 |some a=>obtain⟨hi,e⟩:=List.getElem?_eq_some_iff.1 hl;rw[List.drop_eq_getElem_cons hi,List.flatMap_cons,List.getElem?_append_left (by rw[he];exact hj),e];rfl
theorem qYN {α:Type} {Pr:α→Prop} (enc:α→List AV):∀{n:Nat} {xs:List AV},xs.length=n*sz→(∀i,i<n→∃a,Pr a∧(xs.drop (i*sz)).take sz=enc a)→
  ∃l:List α,l.length=n∧(∀a∈l,Pr a)∧xs=l.flatMap enc:=by
 intro n
 induction n with
 |zero=>intro xs hl _;exact⟨[],rfl,λa h=>(by cases h),iA (by simpa using hl)⟩
 |succ n ih=>
  intro xs hl H;obtain⟨a,ha,e⟩:=H 0 omQ;rw[Nat.zero_mul,List.drop_zero]at e;rw[Nat.add_mul,Nat.one_mul]at hl
  obtain⟨l,h1,h2,h3⟩:=ih (xs:=xs.drop sz) (by simp;omega) (λi hi=>by
   obtain⟨b,hb,e⟩:=H (i+1) omQ;refine⟨b,hb,?_⟩
   rw[List.drop_drop,← e,Nat.add_mul,Nat.one_mul,Nat.add_comm])
  refine⟨a::l,by simp[h1],λb hb=>?_,?_⟩
  ·rcases List.mem_cons.1 hb with rfl |hb
   ·exact ha
   ·exact h2 b hb
  ·rw[List.flatMap_cons,← e,← h3,List.take_append_drop]
theorem qVl {P:Program} {d:Nat} {t e:TypeId} {v:AV} (hu:P.underlying t=some (.slice e)) (hs:P.cellsOf e=sz) (bw:0<sz) (H:WT P h (d+1) t [v]) :
  ∃n xs,Sl (λb=>b<h.nx) h sz n v xs∧n≤maxLen∧∀i,i<n→WT P h d e ((xs.drop (i*sz)).take sz):=by
 unfold WT at H;simp only[hu]at H;rcases H with h1 |⟨a,h1⟩ |h1 |⟨b,off,len,cap,h1,h2,h3,h4,⟨tt,h5⟩,h6⟩
 ·cases h1;exact⟨0,[],.ak,Nat.zero_le _,λi hi=>by omega⟩
 ·cases h1;exact⟨0,[],.bU a,Nat.zero_le _,λi hi=>by omega⟩
 ·omega
 ·cases h1;rw[hs]at h6;have key:∀k,k<len*sz→∃u,h.at b (off+k)=some u:=by
   intro k hk;have hm:=Nat.mod_lt k bw;obtain⟨row,r1,r2,_⟩:=h6 (k/sz) ((Nat.div_lt_iff_lt_mul bw).2 hk);have:=r2 (k%sz) hm;rw[iW omQ,Nat.add_assoc,Nat.mul_comm,Nat.div_add_mod]at this;exact⟨_,this⟩
  refine⟨len,(List.range (len*sz)).map λk=>(h.at b (off+k)).getD .undef,.mk h4 h4 (by unfold AH.rd;rw[h5];trivial) aN ?_,by omega,?_⟩
  ·intro i hi;obtain⟨u,hu⟩:=key i hi;rw[List.getElem?_map,List.getElem?_range hi,Option.map_some,hu];rfl
  ·intro i hi;obtain⟨row,r1,r2,r3⟩:=h6 i hi;have hle:i*sz+sz≤len*sz:=by rw[← Nat.succ_mul];exact Nat.mul_le_mul_right sz hi
   have:(((List.range (len*sz)).map λk=>(h.at b (off+k)).getD .undef).drop (i*sz)).take sz=row:=by
    apply List.ext_getElem?;intro j;by_cases hj:j<sz
    ·rw[List.getElem?_take_of_lt hj,List.getElem?_drop,List.getElem?_map,List.getElem?_range omQ,Option.map_some,← Nat.add_assoc,r2 j hj,iW omQ];rfl
    ·rw[List.getElem?_eq_none (by simp;omega),List.getElem?_eq_none omQ]
   rw[this];exact r3
end Go.Ae
namespace Go.Ae
open Go
structure SP where
  p:(Nat→Prop)→AH→Prop
  loc:∀{D:Nat→Prop} {h h':AH},p D h→h.nx≤h'.nx→(∀b,D b→h'.get b=h.get b)→p D h'
def lx:List SP→(Nat→Prop)→AH→Prop
 |[],D,_=>∀b,¬D b
 |P::L,D,h=>∃D1 D2:Nat→Prop,(∀b,D b↔D1 b∨D2 b)∧(∀b,D1 b→¬D2 b)∧P.p D1 h∧lx L D2 h
theorem lx.loc {L:List SP}:∀{D:Nat→Prop} {h h':AH},lx L D h→h.nx≤h'.nx→(∀b,D b→h'.get b=h.get b)→lx L D h':=by
 induction L with
 |nil=>intro D h h' H _ _;exact H
 |cons P L ih=>intro D h h' ⟨D1,D2,e,d,p,r⟩ hn hg;exact⟨D1,D2,e,d,P.loc p hn λb hb=>hg b ((e b).2 (.inl hb)),ih r hn λb hb=>hg b ((e b).2 (.inr hb))⟩
structure HS (g h:AH) (L:List SP):Prop where
  cS:ol g.nx g h
  own:∃D:Nat→Prop,(∀b,D b→g.nx≤b∧b<h.nx)∧lx L D h
variable {g h h':AH} {P P':SP} {L R:List SP}
theorem HS.nx (H:HS g h L):g.nx≤h.nx:=H.cS.nx
theorem HS.act (H:HS g h (P::R)):∃D:Nat→Prop,P.p D h∧(∀b,D b→g.nx≤b∧b<h.nx)∧
  ∀(h':AH) (P':SP) (D':Nat→Prop),Fr D h h'→P'.p D' h'→(∀b,D' b→(D b∨h.nx≤b)∧b<h'.nx)→HS g h' (P'::R):=by
 obtain⟨ho,D0,hb,D1,D2,he,hd,p,r⟩:=H;refine⟨D1,p,λb h1=>hb b ((he b).2 (.inl h1)),λh' P' D' F p' Le=>?_⟩;have hn:=ho.nx;refine⟨ho.step F λb h1=>(hb b ((he b).2 (.inl h1))).1,λb=>D' b∨D2 b,?_,D',D2,λb=>Iff.rfl,?_,p',?_⟩
 ·rintro b (h1 |h1)
  ·obtain⟨h2 |h2,h3⟩:=Le b h1
   ·exact⟨(hb b ((he b).2 (.inl h2))).1,h3⟩
   ·exact⟨by omega,h3⟩
  ·have:=hb b ((he b).2 (.inr h1));have h4:=F.nx;exact⟨this.1,by omega⟩
 ·intro b h1 h2;obtain⟨h3 |h3,_⟩:=Le b h1
  ·exact hd b h3 h2
  ·have:=hb b ((he b).2 (.inr h2));omega
 ·exact r.loc F.nx λb h2=>F.get b (hb b ((he b).2 (.inr h2))).2 λh1=>hd b h1 h2
inductive bc:List SP→SP→List SP→Prop
  |here {P:SP} {R:List SP}:bc (P::R) P R
  |there {Q P:SP} {L R:List SP} (s:bc L P R):bc (Q::L) P (Q::R)
theorem bc.Dx (s:bc L P R):∀{D:Nat→Prop} {h:AH},lx L D h→∃D1 D2:Nat→Prop,(∀b,D b↔D1 b∨D2 b)∧(∀b,D1 b→¬D2 b)∧P.p D1 h∧lx R D2 h:=by
 induction s with
 |here=>exact λH=>H
 |there s ih=>
  rintro D h ⟨D1,D2,e,d,q,r⟩;obtain⟨E1,E2,e',d',p,r'⟩:=ih r;refine⟨E1,λb=>D1 b∨E2 b,λb=>?_,λb h1 h2=>?_,p,D1,E2,λb=>Iff.rfl,λb h1 h2=>d b h1 ((e' b).2 (.inr h2)),q,r'⟩
  ·rw[e,e'];constructor
   ·rintro(h1 |h1 |h1)
    ·exact .inr (.inl h1)
    ·exact .inl h1
    ·exact .inr (.inr h1)
   ·rintro(h1 |h1 |h1)
    ·exact .inr (.inl h1)
    ·exact .inl h1
    ·exact .inr (.inr h1)
  ·rcases h2 with h2 |h2
   ·exact d b h2 ((e' b).2 (.inl h1))
   ·exact d' b h1 h2
theorem HS.aI (H:HS g h L) (s:bc L P R):HS g h (P::R):=⟨H.cS,H.own.imp λ_ h1=>⟨h1.1,s.Dx h1.2⟩⟩
theorem bc.gib (s:bc L P R):∀{D1 D2:Nat→Prop} {h:AH},(∀b,D1 b→¬D2 b)→P.p D1 h→lx R D2 h→lx L (λb=>D1 b∨D2 b) h:=by
 induction s with
 |here=>exact λ{D1 D2 h} d p r=>⟨D1,D2,λ_=>Iff.rfl,d,p,r⟩
 |there s ih=>
  rintro D1 D2 h d p ⟨E1,E2,e,d',q,r⟩;refine⟨E1,λb=>D1 b∨E2 b,λb=>?_,λb h1 h2=>?_,q,ih (λb h1 h2=>d b h1 ((e b).2 (.inr h2))) p r⟩
  ·simp only[e];constructor
   ·rintro(h1 |h1 |h1)
    ·exact .inr (.inl h1)
    ·exact .inl h1
    ·exact .inr (.inr h1)
   ·rintro(h1 |h1 |h1)
    ·exact .inr (.inl h1)
    ·exact .inl h1
    ·exact .inr (.inr h1)
  ·rcases h2 with h2 |h2
   ·exact d b h2 ((e b).2 (.inl h1))
   ·exact d' b h1 h2
theorem HS.cm (s:bc L P R) (H:HS g h (P::R)):HS g h L:=by obtain⟨ho,D,hb,D1,D2,e,d,p,r⟩:=H;refine⟨ho,λb=>D1 b∨D2 b,λb h1=>hb b ((e b).2 h1),s.gib d p r⟩
theorem HS.drop (H:HS g h (P::R)):HS g h R:=by obtain⟨ho,D,hb,D1,D2,e,d,p,r⟩:=H;exact⟨ho,D2,λb h2=>hb b ((e b).2 (.inr h2)),r⟩
theorem bc.skip (A:List SP) (s:bc L P R):bc (A++L) P (A++R):=by
 induction A with
 |nil=>exact s
 |cons Q A ih=>exact .there ih
theorem HS.back {A:List SP} (H:HS g h (P::(A++R))):HS g h (A++P::R):=HS.cm (bc.skip A .here) H
inductive Sub:List SP→List SP→Prop
  |refl {L:List SP}:Sub L L
  |cons {L L1 L':List SP} {P:SP} (s:bc L P L1) (t:Sub L1 L'):Sub L (P::L')
  |drop {Q:SP} {L L':List SP} (t:Sub L L'):Sub (Q::L) L'
theorem Sub.Dx {L L':List SP} (t:Sub L L'):∀{D:Nat→Prop} {h:AH},lx L D h→∃D':Nat→Prop,(∀b,D' b→D b)∧lx L' D' h:=by
 induction t with
 |refl=>exact λ{D h} H=>⟨D,λ_ h=>h,H⟩
 |cons s t ih=>intro D h H;obtain⟨D1,D2,e,d,p,r⟩:=s.Dx H;obtain⟨D',h1,h2⟩:=ih r;exact⟨λb=>D1 b∨D' b,λb hb=>(e b).2 (hb.imp id (h1 b)),D1,D',λ_=>Iff.rfl,λb hb h3=>d b hb (h1 b h3),p,h2⟩
 |drop t ih=>intro D h ⟨D1,D2,e,d,p,r⟩;obtain⟨D',h1,h2⟩:=ih r;exact⟨D',λb hb=>(e b).2 (.inr (h1 b hb)),h2⟩
theorem HS.sub {L L':List SP} (H:HS g h L) (t:Sub L L'):HS g h L':=by obtain⟨ho,D,hb,r⟩:=H;obtain⟨D',h1,h2⟩:=t.Dx r;exact⟨ho,D',λb h=>hb b (h1 b h),h2⟩
def Dy:Nat→List SP→Option (SP×List SP)
 | 0,P::L=>some (P,L)
 |i+1,P::L=>match Dy i L with
  |some x=>some (x.1,P::x.2)
  |none=>none
 |_,[]=>none
def u9:Nat→List SP→List SP
 | 0,L=>L
 |k+1,_::L=>u9 k L
 |_+1,[]=>[]
def Dz:List Nat→Nat→List SP→List SP
 |[],k,L=>u9 k L
 |i::is,k,L=>match Dy i L with
  |some x=>x.1::Dz is k x.2
  |none=>L
theorem qvM:∀{i:Nat} {L:List SP} {x:SP×List SP},Dy i L=some x→bc L x.1 x.2:=by
 intro i
 induction i with
 |zero=>
  intro L x h;cases L with
  |nil=>cases h
  |cons P L=>cases h;exact .here
 |succ i ih=>
  intro L x h;cases L with
  |nil=>cases h
  |cons P L=>
   unfold Dy at h
   split at h
   ·rename_i y hy;cases h;exact .there (ih hy)
   ·cases h
theorem Sub.u9:∀(k:Nat) (L:List SP),Sub L (u9 k L)
 | 0,_=>.refl
 |k+1,_::L=>.drop (Sub.u9 k L)
 |_+1,[]=>.refl
theorem Sub.pk:∀(is:List Nat) (k:Nat) (L:List SP),Sub L (Dz is k L)
 |[],k,L=>Sub.u9 k L
 |i::is,k,L=>by
  unfold Dz
  split
  ·rename_i x hx;exact .cons (qvM hx) (Sub.pk is k x.2)
  ·exact .refl
theorem HS.pk {L:List SP} (H:HS g h L) (is:List Nat) (k:Nat):HS g h (Dz is k L):=H.sub (Sub.pk is k L)
def SP.Lf:SP:=⟨λD _=>∀b,¬D b,λH _ _=>H⟩
def SP.fa (φ:Prop):SP:=⟨λD _=>(∀b,¬D b)∧φ,λH _ _=>H⟩
def SP.ex {α:Type} (f:α→SP):SP:=⟨λD h=>∃a,(f a).p D h,λ⟨a,H⟩ h1 h2=>⟨a,(f a).loc H h1 h2⟩⟩
def SP.all (A:List SP):SP:=⟨lx A,λH h1 h2=>H.loc h1 h2⟩
theorem HS.put (H:HS g h R) (hp:P.p (λ_=>False) h):HS g h (P::R):=by obtain⟨ho,D,hb,r⟩:=H;exact⟨ho,D,hb,λ_=>False,D,λb=>⟨.inr,λh=>h.elim False.elim id⟩,λ_ h=>h.elim,hp,r⟩
theorem HS.dU {α:Type} {f:α→SP} (H:HS g h (.ex f::R)):∃a,HS g h (f a::R):=by obtain⟨ho,D,hb,D1,D2,e,d,⟨a,p⟩,r⟩:=H;exact⟨a,ho,D,hb,D1,D2,e,d,p,r⟩
theorem HS.en {α:Type} {f:α→SP} (a:α) (H:HS g h (f a::R)):HS g h (.ex f::R):=by obtain⟨ho,D,hb,D1,D2,e,d,p,r⟩:=H;exact⟨ho,D,hb,D1,D2,e,d,⟨a,p⟩,r⟩
theorem HS.ed {φ:Prop} (H:HS g h (.fa φ::R)):φ∧HS g h R:=by refine⟨?_,H.drop⟩;obtain⟨ho,D,hb,D1,D2,e,d,p,r⟩:=H;exact p.2
theorem HS.eK {φ:Prop} (hφ:φ) (H:HS g h R):HS g h (.fa φ::R):=H.put ⟨λ_ h=>h,hφ⟩
theorem qkT {A:List SP}:∀{D1 D2:Nat→Prop} {h:AH},(∀b,D1 b→¬D2 b)→lx A D1 h→lx R D2 h→lx (A++R) (λb=>D1 b∨D2 b) h:=by
 induction A with
 |nil=>intro D1 D2 h _ H1 H2;rw[List.nil_append,show(λb=>D1 b∨D2 b)=D2 from funext λb=>propext ⟨λh=>h.elim (λh=>(H1 b h).elim) id,.inr⟩];exact H2
 |cons P A ih=>
  rintro D1 D2 h hd ⟨E1,E2,e,d,p,r⟩ H2;refine⟨E1,λb=>E2 b∨D2 b,λb=>?_,λb h1 h2=>?_,p,ih (λb h1=>hd b ((e b).2 (.inr h1))) r H2⟩
  ·simp only[e,or_assoc]
  ·rcases h2 with h2 |h2
   ·exact d b h1 h2
   ·exact hd b ((e b).2 (.inl h1)) h2
theorem qj7 {A:List SP}:∀{D:Nat→Prop} {h:AH},lx (A++R) D h→∃D1 D2:Nat→Prop,(∀b,D b↔D1 b∨D2 b)∧(∀b,D1 b→¬D2 b)∧lx A D1 h∧lx R D2 h:=by
 induction A with
 |nil=>intro D h H;exact⟨λ_=>False,D,λb=>⟨.inr,λh=>h.elim False.elim id⟩,λ_ h=>h.elim,λ_ h=>h,H⟩
 |cons P A ih=>
  rintro D h ⟨E1,E2,e,d,p,r⟩;obtain⟨F1,F2,f,d',r1,r2⟩:=ih r;refine⟨λb=>E1 b∨F1 b,F2,λb=>?_,λb h1 h2=>?_,⟨E1,F1,λb=>Iff.rfl,λb h1 h2=>d b h1 ((f b).2 (.inl h2)),p,r1⟩,r2⟩
  ·rw[e,f,or_assoc]
  ·rcases h1 with h1 |h1
   ·exact d b h1 ((f b).2 (.inr h2))
   ·exact d' b h1 h2
theorem HS.cq {A:List SP} (H:HS g h (.all A::R)):HS g h (A++R):=by obtain⟨ho,D,hb,D1,D2,e,d,p,r⟩:=H;refine⟨ho,D,hb,?_⟩;rw[show D=(λb=>D1 b∨D2 b)from funext λb=>propext (e b)];exact qkT d p r
theorem HS.allI {A:List SP} (H:HS g h (A++R)):HS g h (.all A::R):=by obtain⟨ho,D,hb,r⟩:=H;exact⟨ho,D,hb,qj7 r⟩
theorem HS.nil (g:AH):HS g g []:=⟨ol.refl _ _,λ_=>False,λ_ h=>h.elim,λ_ h=>h⟩
theorem HS.add {D':Nat→Prop} (H:HS g h R) (F:ol h.nx h h') (p:P.p D' h') (hD:∀b,D' b→h.nx≤b∧b<h'.nx):HS g h' (P::R):=by
 obtain⟨D,_,hb,k⟩:=(H.put (P:=.Lf) λ_ h=>h).act;obtain⟨ho,D0,uY,r⟩:=H;have hn:=ho.nx;refine⟨⟨Nat.le_trans hn F.nx,λb h1 h2=>(F.get b omQ omQ).trans (ho.get b h1 h2)⟩,λb=>D' b∨D0 b,?_,D',D0,λb=>Iff.rfl,?_,p,r.loc F.nx λb h1=>F.get b (uY b h1).2 (by have:=uY b h1;omega)⟩
 ·have:=F.nx;rintro b (h1 |h1)
  ·have:=hD b h1;exact⟨by omega,this.2⟩
  ·have:=uY b h1;exact⟨this.1,by omega⟩
 ·intro b h1 h2;have:=hD b h1;have:=uY b h2;omega
theorem HS.keep (H:HS g h R) (F:ol h.nx h h'):HS g h' R:=(H.add (P:=.Lf) (D':=λ_=>False) F (λ_ h=>h) λ_ h=>h.elim).drop
theorem Fr.none (F:Fr (λ_=>False) h h'):ol h.nx h h':=F.mono λ_ _ h=>h.elim
variable {b off n m sz:Nat} {xs ys l:List AV} {e:TypeId} {o:Bool} {x v:AV} {k:IntKind} {Q:AV→AH→Prop} {i:Nat}
def Cell (b:Nat) (xs:List AV) (e:TypeId) (o:Bool):SP:=⟨λD h=>(∀a,D a↔a=b)∧Row h b xs e o,λ{D h h'} H h1 h2=>⟨H.1,Nat.lt_of_lt_of_le H.2.lt h1,by rw[h2 b ((H.1 b).2 rfl)];exact H.2.br⟩⟩
def qy (b:Nat) (xs:List AV):SP:=⟨λD h=>(∀a,D a↔a=b)∧∃e,Row h b xs e false,λ{D h h'} H h1 h2=>⟨H.1,H.2.imp λ_ A=>⟨Nat.lt_of_lt_of_le A.lt h1,by rw[h2 b ((H.1 b).2 rfl)];exact A.br⟩⟩⟩
def wb (b:Nat) (x:cG):SP:=⟨λD h=>(∀a,D a↔a=b)∧b<h.nx∧h.get b=some x,λ{D h h'} H h1 h2=>⟨H.1,by have:=H.2.1;omega,by rw[h2 b ((H.1 b).2 rfl)];exact H.2.2⟩⟩
def qD (e:TypeId) (sz n:Nat) (v:AV) (xs:List AV):SP :=
  ⟨λD h=>xs.length=n*sz∧((v=.ak∧n=0∧∀b,¬D b)∨∃b cp o ys,v=.slice b 0 n cp o∧(∀a,D a↔a=b)∧Row h b ys e o∧n*sz≤ys.length∧ys.take (n*sz)=xs∧(if o=true then cp=0 else ys.length=cp*sz∧n≤cp)),
   λ{D h h'} H h1 h2=>⟨H.1,H.2.imp id λ⟨b,cp,o,ys,q1,q2,q3,q4⟩=>⟨b,cp,o,ys,q1,q2,⟨Nat.lt_of_lt_of_le q3.lt h1,by rw[h2 b ((q2 b).2 rfl)];exact q3.br⟩,q4⟩⟩⟩
theorem HS.p (H:HS g h L) (s:bc L P R):∃D,P.p D h:=by obtain⟨D,p,_⟩:=(H.aI s).act;exact⟨D,p⟩
theorem HS.obj (H:HS g h L) (s:bc L (qy b xs) R):∃e,Row h b xs e false:=by obtain⟨D,_,p⟩:=H.p s;exact p
theorem HS.sl (H:HS g h L) (s:bc L (qD e sz n v xs) R):Sl (λ_=>True) h sz n v xs:=by
 obtain⟨D,h1,⟨rfl,rfl,_⟩ |⟨b,cp,o,ys,rfl,_,A,h2,h3,_⟩⟩:=H.p s
 ·obtain rfl:xs=[]:=iA (by simpa using h1);exact .ak
 ·exact .mk trivial A.lt A.rd h1 λi hi=>by rw[A.at,Nat.zero_add,← h3,List.getElem?_take_of_lt hi]
theorem HS.cZ (H:HS g h L) (s:bc L (qD e sz n v xs) R):xs.length=n*sz:=(H.sl s).len
def One (v:AV):Prop:=v.cells=[v]∧v.one=true
theorem HS.one (H:HS g h L) (s:bc L (qD e sz n v xs) R):One v:=by obtain⟨D,h1,⟨rfl,rfl,_⟩ |⟨b,cp,o,ys,rfl,_⟩⟩:=H.p s<;>exact⟨rfl,rfl⟩
variable {K:AV→Go.Ae.R} {K2:AV→AH→Go.Ae.R} {K1:AH→Go.Ae.R}
theorem qX (H:HS g h L) (s:bc L (qy b xs) R) (hx:xs[off]? =some x) (w:wp (K x) Q):wp (jB h (.ptr b off) K) Q:=by obtain⟨e,A⟩:=H.obj s;exact QS ((A.at _).trans hx) w
theorem HS.lt (H:HS g h L) (s:bc L (qy b xs) R):b<h.nx:=by obtain⟨e,A⟩:=H.obj s;exact A.lt
theorem qb {g' ha:AH} {L2 R2:List SP} {nx:Nat} {K0:Go.Ae.R} (H:HS g h L) (s:bc L (qy b xs) R) (hx:xs[off]? =some x) (H2:HS g' ha L2) (s2:bc L2 (qy b ys) R2) (rp:ys[off]? =some x) (ap:b<nx) (w:wp K0 Q):wp (Xk (.ptr b off) none x h ha nx K0) Q:=by obtain⟨e,A⟩:=H.obj s;obtain⟨e2,A2⟩:=H2.obj s2;exact Ld ((A.at _).trans hx) ((A2.at _).trans rp) ap w
theorem qE (H:HS g h L) (s:bc L (qy b xs) R) (hl:l.length=n) (hn:0<n) (hx:(xs.drop off).take n=l) (w:wp (K (.agg l)) Q):wp (zc h (.ptr b off) n K) Q:=by obtain⟨e,A⟩:=H.obj s;exact OD hl hn (λi hi=>by rw[A.at,← hx,List.getElem?_take_of_lt hi,List.getElem?_drop]) w
theorem qd (H:HS g h L) (s:bc L (qy b xs) R) (hc:x.cells.length=n) (ho:off+n≤xs.length) (h1:ql x.cells=true) (w:∀h',HS g h' (qy b (wA xs off x.cells)::R)→wp (K1 h') Q):wp (jU h (.ptr b off) x n K1) Q:=by obtain⟨D,⟨hD,e,A⟩,hb,k⟩:=(H.aI s).act;refine Zk A hc ho h1 λh' A' F hx=>w h' (k h' _ D (F.mono λa _ ha=>(hD a).2 ha) ⟨hD,e,A'⟩ λa ha=>⟨.inl ha,?_⟩);have:=(hb a ha).2;omega
theorem qw (H:HS g h L) (s:bc L (qy b xs) R) (h1:One x) (ho:off<xs.length) (w:∀h',HS g h' (qy b (xs.set off x)::R)→wp (K1 h') Q):wp (jU h (.ptr b off) x 1 K1) Q:=by refine qd H s (by rw[h1.1];rfl) omQ (by rw[h1.1];simp[ql,h1.2]) λh' H'=>w h' ?_;rw[h1.1,Yh ho]at H';exact H'
theorem qQ {f:Nat} (w:wp (K (.ptr b f)) Q):wp (qn (.ptr b 0) f K) Q:=qh (by rw[Nat.zero_add];exact w)
theorem HS.iT (H:HS g h L) (x:cG):HS g (h.new x) (wb h.nx x::L) :=
 H.add (D':=λa=>a=h.nx) ⟨by simp,λa _ h2=>AH.bG h _ omQ⟩ ⟨λa=>Iff.rfl,by simp,AH.bp ..⟩ (by rintro a rfl;simp)
theorem HS.hZ {x y:cG} (H:HS g h L) (s:bc L (wb b x) R):HS g (h.put b y) (wb b y::R):=by obtain⟨D,⟨hD,hb,_⟩,dS,k⟩:=(H.aI s).act;exact k _ _ D ⟨Nat.le_refl _,λa _ hn=>AH.bn h _ λe=>hn ((hD a).2 e.symm)⟩ ⟨hD,hb,AH.aS ..⟩ λa ha=>⟨.inl ha,(dS a ha).2⟩
theorem HS.br {x:cG} (H:HS g h L) (s:bc L (wb b x) R):h.get b=some x:=by obtain⟨D,_,_,p⟩:=H.p s;exact p
theorem Lg (H:HS g h L) (h1:ql x.cells=true) (w:∀b h',HS g h' (qy b x.cells::L)→wp (K2 (.ptr b 0) h') Q):wp (gF h e x K2) Q:=by refine qvC h1 λb h' hb A F=>w b h' (H.add (D':=λa=>a=b) F.none ⟨λa=>Iff.rfl,e,A⟩ ?_);rintro a rfl;exact⟨hb,A.lt⟩
theorem qI (H:HS g h L) (h1:ql l=true) (w:∀b h',HS g h' (qy b l::L)→wp (K2 (.ptr b 0) h') Q):wp (gF h e (.agg l) K2) Q:=Lg (x:=.agg l) H h1 w
theorem J0 (H:HS g h L) (h1:One x) (w:∀b h',HS g h' (qy b [x]::L)→wp (K2 (.ptr b 0) h') Q):wp (gF h e x K2) Q :=
 Lg H (by rw[h1.1];simp[ql,h1.2]) (by rw[h1.1];exact w)
theorem YA {z:List AV} {ln cp:Nat} {k1 k2:IntKind} (H:HS g h L) (hz:z.length=sz) (h1:ln≤cp) (h2:cp≤1073741824)
  (w:∀v h',HS g h' (qD e sz ln v ((yI z cp).take (ln*sz))::L)→wp (K2 v h') Q):wp (kr h e z (.int k1 (ln:Int)) (.int k2 (cp:Int)) K2) Q:=by
 refine I9 h1 h2 λb h' hb A F=>w _ h' (H.add (D':=λa=>a=b) F.none ⟨?_,.inr ⟨b,cp,false,_,rfl,λa=>Iff.rfl,A,?_,rfl,?_⟩⟩ ?_)
 ·have:=Nat.mul_le_mul_right sz h1;rw[List.length_take,wD,hz];omega
 ·rw[wD,hz];exact Nat.mul_le_mul_right sz h1
 ·rw[iQ aN];exact⟨by rw[wD,hz],h1⟩
 ·rintro a rfl;exact⟨hb,A.lt⟩
theorem JO {z:AV} {k1 k2:IntKind} (H:HS g h L) (h2:n≤1073741824)
  (w:∀v h',HS g h' (qD e 1 n v (List.replicate n z)::L)→wp (K2 v h') Q):wp (kr h e [z] (.int k1 (n:Int)) (.int k2 (n:Int)) K2) Q:=by
 refine YA (sz:=1) H rfl (Nat.le_refl _) h2 λv h' H'=>w v h' ?_;rw[Ov,Nat.mul_one,List.take_of_length_le aN]at H';exact H'
theorem qf {z:List AV} {vs:List (Nat×Nat×AV)} (H:HS g h L) (_:z.length=sz) (hl:l.length=n*sz) (hf:xT (yI z n) vs=some l) (h1:ql l=true)
  (w:∀v h',HS g h' (qD e sz n v l::L)→wp (K2 v h') Q):wp (yC h e z n vs K2) Q:=by
 refine Vw hf h1 λb h' hb A F=>w _ h' (H.add (D':=λa=>a=b) F.none ⟨hl,.inr ⟨b,n,false,_,rfl,λa=>Iff.rfl,A,by omega,by rw[← hl,List.take_length],?_⟩⟩ ?_)
 ·rw[iQ aN];exact⟨hl,Nat.le_refl _⟩
 ·rintro a rfl;exact⟨hb,A.lt⟩
theorem HS.ak (H:HS g h L):HS g h (qD e sz 0 .ak []::L):=H.put ⟨by simp,.inl ⟨rfl,rfl,λ_ h=>h⟩⟩
theorem Xr (A:Row h b xs e o) (ho:off+n≤xs.length):yJ h b off n=some ((xs.drop off).take n):=by
 by_cases h0:n=0
 ·subst h0;obtain⟨c,c1,c2,c3⟩:=A.br;unfold yJ;rw[c1,List.take_zero];cases c<;>rfl
 ·have hl:((xs.drop off).take n).length=n:=by simp;omega
  have:=J5 (h:=h) (b:=b) (off:=off) (l:=(xs.drop off).take n) omQ (λi hi=>by rw[A.at,List.getElem?_take_of_lt omQ,List.getElem?_drop])
  rwa [hl]at this
theorem qXN (ho:off+ys.length≤xs.length):(wA xs off ys).take (off+ys.length)=xs.take off++ys:=by
 unfold wA;have:(xs.take off++ys).length=off+ys.length:=by simp;omega
 rw[← this,List.take_left]
theorem ju {D':Nat→Prop} (H:HS g h (qD e sz n v xs::R)) (S:Sl D' h sz m x ys) (bw:0<sz) (BO:n+m≤67108864) (h1:ql ys=true)
  (w:∀v' h',HS g h' (qD e sz (n+m) v' (xs++ys)::R)→wp (K2 v' h') Q):wp (vB h e sz v x K2) Q:=by
 obtain⟨nc,g1,g2,g3⟩:=qK2 S;have fS:=S.len;unfold vB;simp only[qqU S,g1,ob];rw[CT.dp,g2,fS,Nat.beq_refl,cond_true];by_cases h0:m=0
 ·subst h0;obtain rfl:ys=[]:=iA (by simpa using fS);have wH:=w v h (by rw[Nat.add_zero,List.append_nil];exact H);obtain⟨D,⟨hl,⟨rfl,rfl,hD⟩ |⟨b,cp,o,zs,rfl,hD,A,q1,q2,q3⟩⟩,hb,k⟩:=H.act
  ·exact wH
  ·unfold yO;cases o with
   |false=>rw[iQ aN]at q3;simp only;rw[iY (show n+0≤cp from q3.2),cond_true,show Nat.beq 0 0=true from rfl,cond_true];exact wH
   |true=>
    rw[iJ rfl]at q3;subst q3;obtain⟨c,c1,c2,c3⟩:=A.br;simp only[c1];have eD:c.len=zs.length:=by rw[CT.dp,c2]
    rw[eD];have lJ:(Nat.ble 1 sz&&(Nat.beq 0 (0*sz)&&(Nat.beq e e&&Nat.ble (0+n*sz) zs.length)))=true:=by simp only[Bool.and_eq_true];exact⟨iY bw,by rw[Nat.zero_mul];rfl,Nat.beq_refl _,iY omQ⟩
    rw[lJ,cond_true,show Nat.beq 0 0=true from rfl,cond_true];exact wH
 ·have BP:Nat.beq m 0=false:=xp h0;have hmul:(n+m)*sz=n*sz+m*sz:=Nat.add_mul ..;have hmp:0<m*sz:=Nat.mul_pos omQ bw;have hns:h.nx<(h.new (.cells nc e true)).nx:=by simp
  obtain⟨D,⟨hl,⟨rfl,rfl,hD⟩ |⟨b,cp,o,zs,rfl,hD,A,q1,q2,q3⟩⟩,hb,k⟩:=H.act
  ·obtain rfl:xs=[]:=iA (by simpa using hl);unfold yO;simp only;rw[BP,cond_false,iY omQ,cond_true];obtain⟨b1,b2⟩:=Row.new (h:=h) (e:=e) (o:=true) g3;rw[g2]at b1;refine w _ _ (k _ _ (λa=>a=h.nx) (b2.mono λ_ _ hf=>hf.elim) ⟨by simp[fS],.inr ⟨h.nx,0,true,ys,by rw[Nat.zero_add],λ_=>Iff.rfl,b1,by omega,?_,by rw[iJ rfl]⟩⟩ ?_)
   ·rw[List.nil_append,Nat.zero_add,← fS,List.take_length]
   ·rintro a rfl;exact⟨.inr (Nat.le_refl _),hns⟩
  ·have Ep:=A.lt;have na:∀sY,(n+m)*sz≤zs.length→(if o=true then sY=0 else zs.length=sY*sz∧n+m≤sY)→
     wp (ob (vA h b (0+n*sz) nc.toList) λh'=>K2 (.slice b 0 (n+m) sY o) h') Q:=by
    intro sY hz ub;obtain⟨h',f1,f2,f3,f4⟩:=GO (ys:=nc.toList) (off:=0+n*sz) A (by rw[g2];omega) (by rw[g2];exact h1);simp only[f1,ob];rw[g2,Nat.zero_add]at f2;refine w _ _ (k h' _ D (f3.mono λa _ ha=>(hD a).2 ha) ⟨by simp[hl,fS,hmul],.inr ⟨b,sY,o,_,rfl,hD,f2,?_,?_,?_⟩⟩ λa ha=>⟨.inl ha,by have:=hb a ha;omega⟩)
    ·rw[YT omQ];exact hz
    ·rw[hmul,← fS,qXN omQ,q2]
    ·rw[YT omQ];exact ub
   unfold yO;cases o with
   |false=>
    rw[iQ aN]at q3;simp only;by_cases hc:n+m≤cp
    ·rw[iY hc,cond_true,BP,cond_false];exact na cp (by rw[q3.1];exact Nat.mul_le_mul_right sz hc) (by rw[iQ aN];exact⟨q3.1,hc⟩)
    ·rw[show Nat.ble (n+m) cp=false by
      cases hb:Nat.ble (n+m) cp
      ·rfl
      ·exact absurd (vk hb) hc,cond_false,iY BO,cond_true]
     rw[Xr A (show 0+n*sz≤zs.length by omega),List.drop_zero,q2];simp only[ob];have key:∀c:CT,c.toList=xs++ys→c.full→wp (K2 (.slice h.nx 0 (n+m) 0 true) (h.new (.cells c e true))) Q:=by
      intro c d1 d2;obtain⟨b1,b2⟩:=Row.new (h:=h) (e:=e) (o:=true) d2;rw[d1]at b1;refine w _ _ (k _ _ (λa=>a=h.nx) (b2.mono λ_ _ hf=>hf.elim) ⟨by simp[hl,fS,hmul],.inr ⟨h.nx,0,true,xs++ys,rfl,λ_=>Iff.rfl,b1,by simp[hl,fS,hmul],?_,by rw[iJ rfl]⟩⟩ ?_)
      ·rw[List.take_of_length_le (by simp[hl,fS,hmul])]
      ·rintro a rfl;exact⟨.inr (Nat.le_refl _),by simp⟩
     by_cases lr:n=0
     ·subst lr;rw[show Nat.beq 0 0=true from rfl,cond_true];obtain rfl:xs=[]:=iA (by simpa using hl);exact key nc (by rw[g2,List.nil_append]) g3
     ·rw[show Nat.beq n 0=false from xp lr,cond_false];exact key _ (by rw[CT.aG,g2]) (CT.bh _)
   |true=>
    rw[iJ rfl]at q3;subst q3;obtain⟨c,c1,c2,c3⟩:=A.br;simp only[c1];have eD:c.len=zs.length:=by rw[CT.dp,c2]
    rw[eD];have lJ:(Nat.ble 1 sz&&(Nat.beq 0 (0*sz)&&(Nat.beq e e&&Nat.ble (0+n*sz) zs.length)))=true:=by simp only[Bool.and_eq_true];exact⟨iY bw,by rw[Nat.zero_mul];rfl,Nat.beq_refl _,iY omQ⟩
    rw[lJ,cond_true,BP,cond_false];by_cases hc:0+(n+m)*sz≤zs.length
    ·rw[iY hc,cond_true];exact na 0 omQ (by rw[iJ rfl])
    ·rw[show Nat.ble (0+(n+m)*sz) zs.length=false by
      cases hb:Nat.ble (0+(n+m)*sz) zs.length
      ·rfl
      ·exact absurd (vk hb) hc,cond_false]
     have oN:(Nat.beq 0 0&&(Nat.ble (n+m) 67108864&&ql nc.toList))=true:=by rw[g2,h1,iY BO];rfl
     rw[oN,cond_true];obtain⟨c',p1,p2,p3⟩:=CT.pr (c:=c) c3 (n:=n*sz) (by rw[c2];exact q1);simp only[p1];have Fk:(c'.fN nc.toList).toList=xs++ys:=by rw[CT.oC,p2,c2,g2,q2]
     refine w _ _ (k _ _ (λa=>a=h.nx) ⟨by simp,λa ha hn=>?_⟩ ⟨by simp[hl,fS,hmul],.inr ⟨(h.put b .dead).nx,0,true,xs++ys,rfl,λ_=>Iff.rfl,⟨by simp,c'.fN nc.toList,AH.bp (h.put b .dead) _,Fk,CT.pp p3 _⟩,by simp[hl,fS,hmul],?_,by rw[iJ rfl]⟩⟩ ?_)
     ·rw[AH.bG _ _ (by simp;omega),AH.bn h _ (λhab:b=a=>hn ((hD a).2 hab.symm))]
     ·rw[List.take_of_length_le (by simp[hl,fS,hmul])]
     ·rintro a rfl;exact⟨.inr aN,by simp⟩
theorem HS.BQ (H:HS g h (qD e sz n v xs::R)) (hn:0<n):∃b cp o ys,v=.slice b 0 n cp o∧HS g h (Cell b ys e o::R)∧n*sz≤ys.length∧ys.take (n*sz)=xs∧(if o=true then cp=0 else ys.length=cp*sz∧n≤cp):=by
 obtain⟨D,⟨hl,⟨rfl,rfl,hD⟩ |⟨b,cp,o,zs,rfl,hD,A,q1,q2,q3⟩⟩,hb,k⟩:=H.act
 ·omega
 ·exact⟨b,cp,o,zs,rfl,k h _ D (Fr.refl _ _) ⟨hD,A⟩ λa ha=>⟨.inl ha,(hb a ha).2⟩,q1,q2,q3⟩
theorem HS.BR {cp:Nat} (H:HS g h (Cell b ys e o::R)) (h1:n*sz≤ys.length) (h2:if o=true then cp=0 else ys.length=cp*sz∧n≤cp):HS g h (qD e sz n (.slice b 0 n cp o) (ys.take (n*sz))::R):=by obtain⟨D,⟨hD,A⟩,hb,k⟩:=H.act;exact k h _ D (Fr.refl _ _) ⟨by simp;omega,.inr ⟨b,cp,o,ys,rfl,hD,A,h1,rfl,h2⟩⟩ λa ha=>⟨.inl ha,(hb a ha).2⟩
theorem Lh (H:HS g h (Cell b xs e o::R)) (hc:x.cells.length=n) (ho:off+n≤xs.length) (h1:ql x.cells=true) (w:∀h',HS g h' (Cell b (wA xs off x.cells) e o::R)→wp (K1 h') Q):wp (jU h (.ptr b off) x n K1) Q:=by obtain⟨D,⟨hD,A⟩,hb,k⟩:=H.act;refine Zk A hc ho h1 λh' A' F hx=>w h' (k h' _ D (F.mono λa _ ha=>(hD a).2 ha) ⟨hD,A'⟩ λa ha=>⟨.inl ha,?_⟩);have:=(hb a ha).2;omega
theorem uc {j:Nat} (H:HS g h (qD e sz n v xs::R)) (hi:i<n) (hj:j+m≤sz) (hc:x.cells.length=m) (h1:ql x.cells=true) (w:∀h',HS g h' (qD e sz n v (wA xs (i*sz+j) x.cells)::R)→wp (K1 h') Q) :
  ∃b cp o,v=.slice b 0 n cp o∧wp (jU h (.ptr b (0+i*sz+j)) x m K1) Q:=by
 obtain⟨b,cp,o,ys,rfl,H',q1,q2,q3⟩:=H.BQ omQ;have hle:i*sz+sz≤n*sz:=by rw[← Nat.succ_mul];exact Nat.mul_le_mul_right sz hi
 refine⟨b,cp,o,rfl,Lh H' hc omQ h1 λh' H''=>w h' ?_⟩;have:=H''.BR (n:=n) (sz:=sz) (cp:=cp) (by rw[YT omQ];exact q1) (by rw[YT omQ];exact q3);have e1:(wA ys (0+i*sz+j) x.cells).take (n*sz)=wA xs (i*sz+j) x.cells:=by
  rw[← q2,Nat.zero_add];unfold wA;rw[List.take_append,List.take_append,List.take_take,List.take_take,List.drop_take];have t1:min (n*sz) (i*sz+j)=min (i*sz+j) (n*sz):=Nat.min_comm ..;rw[t1,show(List.take (i*sz+j) ys).length=i*sz+j by simp;omega];rw[List.take_of_length_le (show x.cells.length≤n*sz-(i*sz+j) by omega)];simp only[List.length_append,List.length_take,hc];have:min (i*sz+j) ys.length=i*sz+j:=by omega
  congr 2
  omega
 rw[e1]at this;exact this
theorem qgF {f:Nat} (H:HS g h (qD e sz n v xs::R)) (hi:i<n) (hf:f<sz) (h1:One x) (w:∀h',HS g h' (qD e sz n v (xs.set (i*sz+f) x)::R)→wp (K1 h') Q) :
  wp (vt v (.int k (i:Int)) sz λp=>qn p f λq=>jU h q x 1 K1) Q:=by
 have hl:=H.cZ .here;have hle:i*sz+sz≤n*sz:=by rw[← Nat.succ_mul];exact Nat.mul_le_mul_right sz hi
 obtain⟨b,cp,o,rfl,w'⟩:=uc (x:=x) (m:=1) (j:=f) H hi omQ (by rw[h1.1];rfl) (by rw[h1.1];simp[ql,h1.2]) (λh' H'=>w h' (by rw[h1.1,Yh omQ]at H';exact H'));exact XV hi (qh w')
theorem XR (H:HS g h (qD e 1 n v xs::R)) (hi:i<n) (h1:One x) (w:∀h',HS g h' (qD e 1 n v (xs.set i x)::R)→wp (K1 h') Q) :
  wp (vt v (.int k (i:Int)) 1 λp=>jU h p x 1 K1) Q:=by
 have hl:=H.cZ .here;obtain⟨b,cp,o,rfl,w'⟩:=uc (x:=x) (m:=1) (j:=0) H hi omQ (by rw[h1.1];rfl) (by rw[h1.1];simp[ql,h1.2]) (λh' H'=>w h' (by rw[h1.1,Yh omQ,Nat.mul_one,Nat.add_zero]at H';exact H'));exact XV hi w'
theorem Fl (H:HS g h (qD e sz n v xs::R)) (hi:i<n) (hl:l.length=sz) (h1:ql l=true) (w:∀h',HS g h' (qD e sz n v (wA xs (i*sz) l)::R)→wp (K1 h') Q) :
  wp (vt v (.int k (i:Int)) sz λp=>jU h p (.agg l) sz K1) Q:=by
 obtain⟨b,cp,o,rfl,w'⟩:=uc (x:=.agg l) (m:=sz) (j:=0) H hi omQ hl h1 (λh' H'=>w h' H');exact XV hi w'
theorem Gu {hi:Nat} (H:HS g h (qD e sz n v xs::R)) (bw:0<sz) (hle:hi≤n) (w:∀v',HS g h (qD e sz hi v' (xs.take (hi*sz))::R)→wp (K v') Q):wp (yQ h e sz v none (some (.int k (hi:Int))) K) Q:=by
  by_cases hn:n=0
  · subst hn;obtain rfl:hi=0:=by omega
    have hH:=H;obtain⟨D,⟨hl,⟨rfl,_,hD⟩ |⟨b,cp,o,zs,rfl,hD,A,q1,q2,q3⟩⟩,hb,k⟩:=H.act
    · exact w .ak (by obtain rfl : xs = [] := iA (by simpa using hl)
                      rw[List.take_nil];exact hH)
    · cases o with
      |false=>
        rw[iQ aN]at q3;refine Zf (hi:=0) (lo:=0) (y0 (Nat.zero_le _)) rfl ?_
        have := w (.slice b 0 0 cp false) (by rw [Nat.zero_mul, List.take_zero] ;obtain rfl : xs = [] := iA (by simpa using hl)
                                              exact hH)
        have e0:(bif Nat.beq cp 0 then 0 else 0+0*sz)=0:=by cases Nat.beq cp 0<;>simp
        rw[e0];exact this
      |true=>
        rw[iJ rfl]at q3;subst q3;refine NV (i0:=0) (hi:=0) (lo:=0) A bw omQ omQ (y0 (Nat.zero_le _)) rfl (.inr rfl) ?_
        have := w (.slice b 0 0 0 true) (by rw [Nat.zero_mul, List.take_zero] ;obtain rfl : xs = [] := iA (by simpa using hl)
                                            exact hH)
        simpa using this
  · obtain⟨b,cp,o,zs,rfl,H',q1,q2,q3⟩:=H.BQ omQ;have Fm:=Nat.mul_le_mul_right sz hle;have e1:zs.take (hi*sz)=xs.take (hi*sz):=by rw[← q2,List.take_take,Nat.min_eq_left Fm]
    cases o with
    |false=>
      rw[iQ aN]at q3;refine Zf (hi:=hi) (lo:=0) (y0 omQ) rfl ?_;have:=w (.slice b 0 hi cp false) (by rw[← e1];exact H'.BR omQ (by rw[iQ aN];exact⟨q3.1,by omega⟩));have e0:(bif Nat.beq cp 0 then 0 else 0+0*sz)=0:=by cases Nat.beq cp 0<;>simp
      rw[e0];exact this
    |true=>rw[iJ rfl]at q3;subst q3;obtain⟨D,_,A⟩:=H'.p .here;refine NV (i0:=0) (hi:=hi) (lo:=0) A bw omQ omQ (y0 hle) rfl (.inr rfl) ?_;have:=w (.slice b 0 hi 0 true) (by rw[← e1];exact H'.BR omQ (by rw[iJ rfl]));simpa using this
theorem Qh (H:HS g h L) (s:bc L (qD e sz n v xs) R) (h1:v=.ak→n=0→wp (K (.bool true)) Q) (h2:wp (K (.bool false)) Q):wp (mM .Au false v .ak K) Q:=by
 obtain⟨D,hl,⟨rfl,rfl,hD⟩ |⟨b,cp,o,zs,rfl,_⟩⟩:=H.p s
 ·exact h1 rfl rfl
 ·exact h2
theorem qm (H:HS g h L) (s:bc L (qD e sz n v xs) R) (w:wp (K (.int .i64 (n:Int))) Q):wp (JJ v K) Q:=xS (H.sl s) w
def Rd (g:AH) (R:List SP) (sz n:Nat) (v:AV) (xs:List AV):Prop:=∀h,HS g h R→Sl (λ_=>True) h sz n v xs
theorem Rd.sl (S:Rd g L sz n v xs) (H:HS g h L):Sl (λ_=>True) h sz n v xs:=S h H
theorem Rd.more (S:Rd g R sz n v xs):Rd g (P::R) sz n v xs:=λh H=>S h H.drop
theorem Rd.own (s:bc L (qD e sz n v xs) R):Rd g L sz n v xs:=λ_ H=>H.sl s
theorem HS.rd (_:HS g h L) (s:bc L (qD e sz n v xs) R):Rd g L sz n v xs:=.own s
theorem Rd.len (S:Rd g L sz n v xs) (H:HS g h L):xs.length=n*sz:=(S h H).len
variable {c d:Int}
theorem qk (hc:c=d) (w:wp (K (.bool true)) Q):wp (jo .eql (.int k c) (.int k d) K) Q:=JR (by rw[iG hc];exact w)
theorem qj (hc:¬c=d) (w:wp (K (.bool false)) Q):wp (jo .eql (.int k c) (.int k d) K) Q:=JR (by rw[iV hc];exact w)
theorem jQ (hc:¬c=d) (w:wp (K (.bool true)) Q):wp (jo .neq (.int k c) (.int k d) K) Q:=UN (by rw[iG hc];exact w)
theorem jJ (hc:c=d) (w:wp (K (.bool false)) Q):wp (jo .neq (.int k c) (.int k d) K) Q:=UN (by rw[iV (not_not_intro hc)];exact w)
theorem jH (hc:c<d) (w:wp (K (.bool true)) Q):wp (jo .lss (.int k c) (.int k d) K) Q:=JG (by rw[iG hc];exact w)
theorem jz (hc:¬c<d) (w:wp (K (.bool false)) Q):wp (jo .lss (.int k c) (.int k d) K) Q:=JG (by rw[iV hc];exact w)
theorem Qt (hc:c≤d) (w:wp (K (.bool true)) Q):wp (jo .leq (.int k c) (.int k d) K) Q:=ME (by rw[iG hc];exact w)
theorem Jt (hc:¬c≤d) (w:wp (K (.bool false)) Q):wp (jo .leq (.int k c) (.int k d) K) Q:=ME (by rw[iV hc];exact w)
theorem y8 (hc:d<c) (w:wp (K (.bool true)) Q):wp (jo .gtr (.int k c) (.int k d) K) Q:=Fc (by rw[iG hc];exact w)
theorem yU (hc:¬d<c) (w:wp (K (.bool false)) Q):wp (jo .gtr (.int k c) (.int k d) K) Q:=Fc (by rw[iV hc];exact w)
theorem zy (hc:d≤c) (w:wp (K (.bool true)) Q):wp (jo .geq (.int k c) (.int k d) K) Q:=Fe (by rw[iG hc];exact w)
theorem zY (hc:¬d≤c) (w:wp (K (.bool false)) Q):wp (jo .geq (.int k c) (.int k d) K) Q:=Fe (by rw[iV hc];exact w)
theorem O1 {tab:BT} {rt:List RT} {N l:Nat} {as:List AV} {bO:Option AX} {f:Nat} {pos Ls:List Nat} {vs:List AV} {d:Nat} {w:VF} (hb:h.get l=some (.loop .ready bO f pos Ls vs d)) (hr:XU rt f pos Ls=some w) (hn:1≤N)
  (W:∀k,N=k+1→wp (w (callT tab rt k) l vs as h) Q):wp (callT tab rt N (.yield l) as h) Q:=by
 obtain⟨k,rfl⟩:∃k,N=k+1:=⟨N-1,by omega⟩
 show wp (match h.get l with
   |some (.loop .ready _ f pos L vs _)=>(match XU rt f pos L with |some g=>g (callT tab rt k) l vs as h |none=>none)
   |_=>none) Q
 rw[hb];simp only[hr];exact W k rfl
theorem OO {l:Nat} {bO:Option AX} {f:Nat} {pos Ls:List Nat} {vs:List AV} {d:Nat} (H:HS g h L) (s:bc L (wb l (.loop .ready bO f pos Ls vs d)) R) (w:∀h',HS g h' (wb l (.loop .busy bO f pos Ls vs d)::R)→wp (K1 h') Q):wp (JF h l K1) Q:=by unfold JF;rw[H.br s];exact w _ (H.hZ s)
theorem Li {l:Nat} {st:LoopState} {bO:Option AX} {f:Nat} {pos Ls:List Nat} {vs:List AV} {d:Nat} (H:HS g h L) (s:bc L (wb l (.loop st bO f pos Ls vs d)) R) (w:∀h',HS g h' (wb l (.loop .ready none f pos Ls vs d)::R)→Q (.bool true) h'):wp (xR h l none) Q:=by unfold xR;rw[H.br s];exact⟨_,_,rfl,w _ (H.hZ s)⟩
theorem qxt {l:Nat} {j:AX} {st:LoopState} {bO:Option AX} {f:Nat} {pos Ls:List Nat} {vs:List AV} {d:Nat} (H:HS g h L) (s:bc L (wb l (.loop st bO f pos Ls vs d)) R) (w:∀h',HS g h' (wb l (.loop .done (some j) f pos Ls vs d)::R)→Q (.bool false) h'):wp (xR h l (some j)) Q:=by unfold xR;rw[H.br s];exact⟨_,_,rfl,w _ (H.hZ s)⟩
theorem Mr {l:Nat} {K':Option AX→AH→Go.Ae.R} {st:LoopState} {bO:Option AX} {f:Nat} {pos Ls:List Nat} {vs:List AV} {d:Nat} (H:HS g h L) (s:bc L (wb l (.loop st bO f pos Ls vs d)) R) (cP:st≠.busy) (w:∀h',HS g h' (wb l (.loop .exhausted bO f pos Ls vs d)::R)→wp (K' bO h') Q):wp (vK h l K') Q:=by
 unfold vK;rw[H.br s];cases st with
 |busy=>exact absurd rfl cP
 |_=>exact w _ (H.hZ s)
theorem Y6 {d:Nat} (H:HS g h L) (s:bc L (wb d .ij) R) (w:∀h',HS g h' (wb d .nr::R)→wp (K1 h') Q):wp (zo [d] h K1) Q:=by unfold zo;rw[H.br s];unfold zo;exact w _ (H.hZ s)
theorem OM {a b:Go.Ae.R} (w:wp a Q):wp (Xw none a b) Q:=w
theorem qY8 {p:AX} {a b:Go.Ae.R} (w:wp b Q):wp (Xw (some p) a b) Q:=w
theorem qv2 {x:AX} {a b:Go.Ae.R} (hx:uN x x=true) (w:wp a Q):wp (uO (some x) x a b) Q:=by show wp (bif uN x x then a else b) Q;rw[hx];exact w
theorem O6 {c:CV} {f:FuncId} {a1 a2 as:List AV} {Q':AV→AH→Prop} (w:wp (c (.fn f a1 a2) as h) Q') (hk:∀v h',Q' v h'→wp (K2 v h') Q):wp (JT c (.fn f a1 a2) as h K2) Q:=qG w hk
theorem HS.fits (H:HS g h L) (s:bc L (qD e sz n v xs) R) (bw:0<sz) (h1:sz<65536) {N:Nat} (hN:N=e*65536+sz) {u:AV}:zi v (some N) u h=true:=by
 obtain⟨D,hl,⟨rfl,rfl,hD⟩ |⟨b,cp,o,zs,rfl,hD,A,q1,q2,q3⟩⟩:=H.p s
 ·rfl
 ·cases o with
  |false=>rfl
  |true=>
   rw[iJ rfl]at q3;subst q3;obtain⟨c,c1,c2,c3⟩:=A.br;show yL h (N/65536) b 0 (N%65536) 0 n=true;rw[hN,(Ma e sz h1).1,(Ma e sz h1).2];unfold yL;rw[c1];simp only[Bool.and_eq_true];have eD:c.len=zs.length:=by rw[CT.dp,c2]
   exact⟨Nat.beq_refl _,iY bw,by rw[Nat.zero_mul];rfl,iY (by rw[eD];omega)⟩
end Go.Ae
namespace Go.Ae
theorem e_1 {a0 P:SP} {R:List SP}:bc (a0::P::R) P (a0::R):=.there .here
theorem e_2 {a0 a1 P:SP} {R:List SP}:bc (a0::a1::P::R) P (a0::a1::R):=.there e_1
theorem e_3 {a0 a1 a2 P:SP} {R:List SP}:bc (a0::a1::a2::P::R) P (a0::a1::a2::R):=.there e_2
theorem e_4 {a0 a1 a2 a3 P:SP} {R:List SP}:bc (a0::a1::a2::a3::P::R) P (a0::a1::a2::a3::R):=.there e_3
theorem e_5 {a0 a1 a2 a3 a4 P:SP} {R:List SP}:bc (a0::a1::a2::a3::a4::P::R) P (a0::a1::a2::a3::a4::R):=.there e_4
theorem e_6 {a0 a1 a2 a3 a4 a5 P:SP} {R:List SP}:bc (a0::a1::a2::a3::a4::a5::P::R) P (a0::a1::a2::a3::a4::a5::R):=.there e_5
theorem e_7 {a0 a1 a2 a3 a4 a5 a6 P:SP} {R:List SP}:bc (a0::a1::a2::a3::a4::a5::a6::P::R) P (a0::a1::a2::a3::a4::a5::a6::R):=.there e_6
theorem e_8 {a0 a1 a2 a3 a4 a5 a6 a7 P:SP} {R:List SP}:bc (a0::a1::a2::a3::a4::a5::a6::a7::P::R) P (a0::a1::a2::a3::a4::a5::a6::a7::R):=.there e_7
theorem e_9 {a0 a1 a2 a3 a4 a5 a6 a7 a8 P:SP} {R:List SP}:bc (a0::a1::a2::a3::a4::a5::a6::a7::a8::P::R) P (a0::a1::a2::a3::a4::a5::a6::a7::a8::R):=.there e_8
theorem e_10 {a0 a1 a2 a3 a4 a5 a6 a7 a8 a9 P:SP} {R:List SP}:bc (a0::a1::a2::a3::a4::a5::a6::a7::a8::a9::P::R) P (a0::a1::a2::a3::a4::a5::a6::a7::a8::a9::R):=.there e_9
theorem e_11 {a0 a1 a2 a3 a4 a5 a6 a7 a8 a9 dD P:SP} {R:List SP}:bc (a0::a1::a2::a3::a4::a5::a6::a7::a8::a9::dD::P::R) P (a0::a1::a2::a3::a4::a5::a6::a7::a8::a9::dD::R):=.there e_10
theorem e_12 {a0 a1 a2 a3 a4 a5 a6 a7 a8 a9 dD dK P:SP} {R:List SP}:bc (a0::a1::a2::a3::a4::a5::a6::a7::a8::a9::dD::dK::P::R) P (a0::a1::a2::a3::a4::a5::a6::a7::a8::a9::dD::dK::R):=.there e_11
theorem e_13 {a0 a1 a2 a3 a4 a5 a6 a7 a8 a9 dD dK a12 P:SP} {R:List SP}:bc (a0::a1::a2::a3::a4::a5::a6::a7::a8::a9::dD::dK::a12::P::R) P (a0::a1::a2::a3::a4::a5::a6::a7::a8::a9::dD::dK::a12::R):=.there e_12
theorem e_14 {a0 a1 a2 a3 a4 a5 a6 a7 a8 a9 dD dK a12 eL P:SP} {R:List SP}:bc (a0::a1::a2::a3::a4::a5::a6::a7::a8::a9::dD::dK::a12::eL::P::R) P (a0::a1::a2::a3::a4::a5::a6::a7::a8::a9::dD::dK::a12::eL::R):=.there e_13
theorem e_15 {a0 a1 a2 a3 a4 a5 a6 a7 a8 a9 dD dK a12 eL fb P:SP} {R:List SP}:bc (a0::a1::a2::a3::a4::a5::a6::a7::a8::a9::dD::dK::a12::eL::fb::P::R) P (a0::a1::a2::a3::a4::a5::a6::a7::a8::a9::dD::dK::a12::eL::fb::R):=.there e_14
theorem e_16 {a0 a1 a2 a3 a4 a5 a6 a7 a8 a9 dD dK a12 eL fb ia P:SP} {R:List SP}:bc (a0::a1::a2::a3::a4::a5::a6::a7::a8::a9::dD::dK::a12::eL::fb::ia::P::R) P (a0::a1::a2::a3::a4::a5::a6::a7::a8::a9::dD::dK::a12::eL::fb::ia::R):=.there e_15
theorem e_17 {a0 a1 a2 a3 a4 a5 a6 a7 a8 a9 dD dK a12 eL fb ia iE P:SP} {R:List SP}:bc (a0::a1::a2::a3::a4::a5::a6::a7::a8::a9::dD::dK::a12::eL::fb::ia::iE::P::R) P (a0::a1::a2::a3::a4::a5::a6::a7::a8::a9::dD::dK::a12::eL::fb::ia::iE::R):=.there e_16
theorem e_18 {a0 a1 a2 a3 a4 a5 a6 a7 a8 a9 dD dK a12 eL fb ia iE lV P:SP} {R:List SP}:bc (a0::a1::a2::a3::a4::a5::a6::a7::a8::a9::dD::dK::a12::eL::fb::ia::iE::lV::P::R) P (a0::a1::a2::a3::a4::a5::a6::a7::a8::a9::dD::dK::a12::eL::fb::ia::iE::lV::R):=.there e_17
theorem e_19 {a0 a1 a2 a3 a4 a5 a6 a7 a8 a9 dD dK a12 eL fb ia iE lV nb P:SP} {R:List SP}:bc (a0::a1::a2::a3::a4::a5::a6::a7::a8::a9::dD::dK::a12::eL::fb::ia::iE::lV::nb::P::R) P (a0::a1::a2::a3::a4::a5::a6::a7::a8::a9::dD::dK::a12::eL::fb::ia::iE::lV::nb::R):=.there e_18
theorem e_20 {a0 a1 a2 a3 a4 a5 a6 a7 a8 a9 dD dK a12 eL fb ia iE lV nb pt P:SP} {R:List SP}:bc (a0::a1::a2::a3::a4::a5::a6::a7::a8::a9::dD::dK::a12::eL::fb::ia::iE::lV::nb::pt::P::R) P (a0::a1::a2::a3::a4::a5::a6::a7::a8::a9::dD::dK::a12::eL::fb::ia::iE::lV::nb::pt::R):=.there e_19
theorem e_21 {a0 a1 a2 a3 a4 a5 a6 a7 a8 a9 dD dK a12 eL fb ia iE lV nb pt a20 P:SP} {R:List SP}:bc (a0::a1::a2::a3::a4::a5::a6::a7::a8::a9::dD::dK::a12::eL::fb::ia::iE::lV::nb::pt::a20::P::R) P (a0::a1::a2::a3::a4::a5::a6::a7::a8::a9::dD::dK::a12::eL::fb::ia::iE::lV::nb::pt::a20::R):=.there e_20
theorem e_22 {a0 a1 a2 a3 a4 a5 a6 a7 a8 a9 dD dK a12 eL fb ia iE lV nb pt a20 a21 P:SP} {R:List SP}:bc (a0::a1::a2::a3::a4::a5::a6::a7::a8::a9::dD::dK::a12::eL::fb::ia::iE::lV::nb::pt::a20::a21::P::R) P (a0::a1::a2::a3::a4::a5::a6::a7::a8::a9::dD::dK::a12::eL::fb::ia::iE::lV::nb::pt::a20::a21::R):=.there e_21
theorem e_23 {a0 a1 a2 a3 a4 a5 a6 a7 a8 a9 dD dK a12 eL fb ia iE lV nb pt a20 a21 a22 P:SP} {R:List SP}:bc (a0::a1::a2::a3::a4::a5::a6::a7::a8::a9::dD::dK::a12::eL::fb::ia::iE::lV::nb::pt::a20::a21::a22::P::R) P (a0::a1::a2::a3::a4::a5::a6::a7::a8::a9::dD::dK::a12::eL::fb::ia::iE::lV::nb::pt::a20::a21::a22::R):=.there e_22
end Go.Ae
namespace Go.Ae
open Go
theorem ud {tab:BT} {rt:List RT} {n:Nat} {f:FuncId} {P:Program} {pl:Pl} {S:tx P pl f}  {h:AH} {Q:AV→AH→Prop} (hg:tab.get f=some (tz S)) (hn:1≤n) (w:∀k,n=k+1→wp (S (callT tab rt k)  h).1 Q):wp (callT tab rt n (.fn f [] []) [] h) Q:=qA hg hn w
theorem aB {tab:BT} {rt:List RT} {n:Nat} {f:FuncId} {P:Program} {pl:Pl} {S:aQ P pl f} {a0:AV} {h:AH} {Q:AV→AH→Prop} (hg:tab.get f=some (aR S)) (hn:1≤n) (w:∀k,n=k+1→wp (S (callT tab rt k) a0 h).1 Q):wp (callT tab rt n (.fn f [] []) [a0] h) Q:=qA hg hn w
theorem ba {tab:BT} {rt:List RT} {n:Nat} {f:FuncId} {P:Program} {pl:Pl} {S:bC P pl f} {a0 a1:AV} {h:AH} {Q:AV→AH→Prop} (hg:tab.get f=some (bB S)) (hn:1≤n) (w:∀k,n=k+1→wp (S (callT tab rt k) a0 a1 h).1 Q):wp (callT tab rt n (.fn f [] []) [a0,a1] h) Q:=qA hg hn w
theorem cL {tab:BT} {rt:List RT} {n:Nat} {f:FuncId} {P:Program} {pl:Pl} {S:cQ P pl f} {a0 a1 a2:AV} {h:AH} {Q:AV→AH→Prop} (hg:tab.get f=some (cR S)) (hn:1≤n) (w:∀k,n=k+1→wp (S (callT tab rt k) a0 a1 a2 h).1 Q):wp (callT tab rt n (.fn f [] []) [a0,a1,a2] h) Q:=qA hg hn w
theorem pu {tab:BT} {rt:List RT} {n:Nat} {f:FuncId} {P:Program} {pl:Pl} {S:iw P pl f} {a0 a1 a2 a3:AV} {h:AH} {Q:AV→AH→Prop} (hg:tab.get f=some (fP S)) (hn:1≤n) (w:∀k,n=k+1→wp (S (callT tab rt k) a0 a1 a2 a3 h).1 Q):wp (callT tab rt n (.fn f [] []) [a0,a1,a2,a3] h) Q:=qA hg hn w
theorem Fo {tab:BT} {rt:List RT} {n:Nat} {f:FuncId} {P:Program} {pl:Pl} {S:oy P pl f} {a0 a1 a2 a3 a4:AV} {h:AH} {Q:AV→AH→Prop} (hg:tab.get f=some (oz S)) (hn:1≤n) (w:∀k,n=k+1→wp (S (callT tab rt k) a0 a1 a2 a3 a4 h).1 Q):wp (callT tab rt n (.fn f [] []) [a0,a1,a2,a3,a4] h) Q:=qA hg hn w
theorem Fp {tab:BT} {rt:List RT} {n:Nat} {f:FuncId} {P:Program} {pl:Pl} {S:Dc P pl f} {a0 a1 a2 a3 a4 a5 a6:AV} {h:AH} {Q:AV→AH→Prop} (hg:tab.get f=some (Dd S)) (hn:1≤n) (w:∀k,n=k+1→wp (S (callT tab rt k) a0 a1 a2 a3 a4 a5 a6 h).1 Q):wp (callT tab rt n (.fn f [] []) [a0,a1,a2,a3,a4,a5,a6] h) Q:=qA hg hn w
end Go.Ae
