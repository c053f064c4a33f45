/- The abstract executor of the program's form in Lean, shown sound: steps of a run; a law's run. -/
import Derived.Test.YtbiljkdgeekpbacGreatDoorMachineOneAe6
namespace Go.Ae
open Go
def wp (r:R) (Q:AV→AH→Prop):Prop:=∃v h,r=some (v,h)∧Q v h
variable {Q Q':AV→AH→Prop} {h h':AH} {k:IntKind} {a b:Int} {K:AV→R}
theorem wp.mono {r:R} (w:wp r Q) (hq:∀v h,Q v h→Q' v h):wp r Q':=by obtain⟨v,h,e,q⟩:=w;exact⟨v,h,e,hq v h q⟩
theorem qj {v:AV} {g:AH} (q:Q v g):wp (some (v,g)) Q:=⟨_,_,rfl,q⟩
theorem Jb (a b:Int):ilt a b=decide (a<b):=Vz a b
theorem YM (a b:Int):ieq a b=decide (a=b):=by
 rw[Vo];by_cases h:a=b
 ·subst h;simp
 ·simp[h]
theorem QU (op:BinOp) (a b:Int) (K:AV→R):zG op (.int k a) (.int k b) K=ob (Qa op k a b) K:=by rw[O8];simp
theorem Q2 (w:wp (K (.bool (decide (a<b)))) Q):wp (zG .lss (.int k a) (.int k b) K) Q:=by rw[QU];simpa only[Qa,Jb]using w
theorem OO (w:wp (K (.bool (decide (a≤b)))) Q):wp (zG .leq (.int k a) (.int k b) K) Q:=by rw[QU];simp only[Qa,Jb];rw[show(!decide (b<a))=decide (a≤b) by rw[← decide_not];exact decide_eq_decide.2 omQ];exact w
theorem qX0 (w:wp (K (.bool (decide (b<a)))) Q):wp (zG .gtr (.int k a) (.int k b) K) Q:=by rw[QU];simpa only[Qa,Jb]using w
theorem qX6 (w:wp (K (.bool (decide (b≤a)))) Q):wp (zG .geq (.int k a) (.int k b) K) Q:=by rw[QU];simp only[Qa,Jb];rw[show(!decide (a<b))=decide (b≤a) by rw[← decide_not];exact decide_eq_decide.2 omQ];exact w
theorem Xh (w:wp (K (.bool (decide (a=b)))) Q):wp (zG .eql (.int k a) (.int k b) K) Q:=by rw[QU];simpa only[Qa,YM]using w
theorem MK (w:wp (K (.bool (decide (¬a=b)))) Q):wp (zG .neq (.int k a) (.int k b) K) Q:=by rw[QU];simp only[Qa,YM];rw[← decide_not];exact w
theorem qQ1 {n:Int} (h:-9223372036854775808≤n∧n≤9223372036854775807):zN .i64 n=n:=by
 rw[Jy,KG]
 split<;>omega
theorem qjE {n:Int} (h:0≤n∧n≤18446744073709551615):zN .u64 n=n:=by rw[Jy,Vs];omega
theorem ZU (w:wp (K (.int k (zN k (a+b)))) Q):wp (zG .add (.int k a) (.int k b) K) Q:=by rw[QU];exact w
theorem qXA (w:wp (K (.int k (zN k (a-b)))) Q):wp (zG .sub (.int k a) (.int k b) K) Q:=by rw[QU];exact w
theorem qzU (w:wp (K (.int k (zN k (a*b)))) Q):wp (zG .mul (.int k a) (.int k b) K) Q:=by rw[QU];exact w
theorem qc (h:-9223372036854775808≤a+b∧a+b≤9223372036854775807) (w:wp (K (.int .i64 (a+b))) Q):wp (zG .add (.int .i64 a) (.int .i64 b) K) Q:=ZU (by rw[qQ1 h];exact w)
theorem zJ (h:-9223372036854775808≤a-b∧a-b≤9223372036854775807) (w:wp (K (.int .i64 (a-b))) Q):wp (zG .sub (.int .i64 a) (.int .i64 b) K) Q:=qXA (by rw[qQ1 h];exact w)
theorem UN (h:-9223372036854775808≤a*b∧a*b≤9223372036854775807) (w:wp (K (.int .i64 (a*b))) Q):wp (zG .mul (.int .i64 a) (.int .i64 b) K) Q:=qzU (by rw[qQ1 h];exact w)
theorem xr (h:0≤a+b∧a+b≤18446744073709551615) (w:wp (K (.int .u64 (a+b))) Q):wp (zG .add (.int .u64 a) (.int .u64 b) K) Q:=ZU (by rw[qjE h];exact w)
theorem yy (h:0≤a-b∧a-b≤18446744073709551615) (w:wp (K (.int .u64 (a-b))) Q):wp (zG .sub (.int .u64 a) (.int .u64 b) K) Q:=qXA (by rw[qjE h];exact w)
theorem JT (h:b≠0) (w:wp (K (.int k (a.tmod b))) Q):wp (zG .rem (.int k a) (.int k b) K) Q:=by rw[QU];simp only[Qa,YM,iV h,cond_false];exact w
theorem jQ3 (h:b≠0) (w:wp (K (.int k (zN k (a.tdiv b)))) Q):wp (zG .quo (.int k a) (.int k b) K) Q:=by rw[QU];simp only[Qa,YM,iV h,cond_false];exact w
theorem Um {d:IntKind} (w:wp (K (.int d (zN d a))) Q):wp (vi d (.int k a) K) Q:=w
theorem xU (h:-9223372036854775808≤a∧a≤9223372036854775807) (w:wp (K (.int .i64 a)) Q):wp (vi .i64 (.int k a) K) Q:=Um (by rw[qQ1 h];exact w)
theorem QV (h:0≤a∧a≤18446744073709551615) (w:wp (K (.int .u64 a)) Q):wp (vi .u64 (.int k a) K) Q:=Um (by rw[qjE h];exact w)
theorem jQI {q:IntKind} (h:0≤b) (w:wp (K (.int k (zN k (a*2 ^ (min b.toNat k.bits))))) Q):wp (wM .shl (.int k a) (.int q b) K) Q:=by unfold wM;simp only[O6,Jb,iV (show¬b<0 by omega),cond_false];exact w
theorem jk (w:wp (K (.bool false)) Q):wp (pUn .not (.bool true) K) Q:=w
theorem jA (w:wp (K (.bool true)) Q):wp (pUn .not (.bool false) K) Q:=w
theorem ju (w:wp (K (.int k (min a b))) Q):wp (pMM false [.int k a,.int k b] K) Q:=by unfold pMM;simp only[VU,cond_true,mmL,mm2,beq_self_eq_true,cond_false,Option.bind_some,Jb];rw[show(bif decide (b<a)then b else a)=min a b by by_cases h:b<a<;>simp[h]<;>omega];exact w
theorem zD (w:wp (K (.int k (max a b))) Q):wp (pMM true [.int k a,.int k b] K) Q:=by unfold pMM;simp only[VU,cond_true,mmL,mm2,beq_self_eq_true,Option.bind_some,Jb];rw[show(bif decide (a<b)then b else a)=max a b by by_cases h:a<b<;>simp[h]<;>omega];exact w
theorem kQ {p:Prop} [Decidable p] {K:AV→R} (h1:p→wp (K (.bool true)) Q) (h2:¬p→wp (K (.bool false)) Q):wp (K (.bool (decide p))) Q:=by
 by_cases hp:p
 ·rw[iG hp];exact h1 hp
 ·rw[iV hp];exact h2 hp
theorem zL (h1:a<b→wp (K (.bool true)) Q) (h2:¬a<b→wp (K (.bool false)) Q):wp (zG .lss (.int k a) (.int k b) K) Q:=Q2 (kQ h1 h2)
theorem kV (h1:a≤b→wp (K (.bool true)) Q) (h2:¬a≤b→wp (K (.bool false)) Q):wp (zG .leq (.int k a) (.int k b) K) Q:=OO (kQ h1 h2)
theorem kG (h1:b<a→wp (K (.bool true)) Q) (h2:¬b<a→wp (K (.bool false)) Q):wp (zG .gtr (.int k a) (.int k b) K) Q:=qX0 (kQ h1 h2)
theorem yC (h1:b≤a→wp (K (.bool true)) Q) (h2:¬b≤a→wp (K (.bool false)) Q):wp (zG .geq (.int k a) (.int k b) K) Q:=qX6 (kQ h1 h2)
theorem gK (h1:a=b→wp (K (.bool true)) Q) (h2:¬a=b→wp (K (.bool false)) Q):wp (zG .eql (.int k a) (.int k b) K) Q:=Xh (kQ h1 h2)
theorem yS (h1:¬a=b→wp (K (.bool true)) Q) (h2:a=b→wp (K (.bool false)) Q):wp (zG .neq (.int k a) (.int k b) K) Q:=MK (kQ h1 λh=>h2 (Decidable.byContradiction h))
variable {x y:R} {p:Prop} [Decidable p] {u v:AV}
theorem qwA (h1:p→wp x Q) (h2:¬p→wp y Q):wp (zt (.bool (decide p)) x y) Q:=by
 rw[qQc];by_cases hp:p
 ·simpa[hp]using h1 hp
 ·simpa[hp]using h2 hp
theorem wG {t:Bool} (h1:t=true→wp x Q) (h2:t=false→wp y Q):wp (zt (.bool t) x y) Q:=by
 cases t
 ·exact h2 rfl
 ·exact h1 rfl
theorem qZ (w:wp x Q):wp (zt (.bool true) x y) Q:=w
theorem qJ (w:wp y Q):wp (zt (.bool false) x y) Q:=w
theorem On (h1:p→wp x Q) (h2:¬p→wp y Q):wp (ke (.bool (decide p)) true x y) Q:=by
 rw[Vq];by_cases hp:p
 ·simpa[hp]using h1 hp
 ·simpa[hp]using h2 hp
theorem qa (w:wp x Q):wp (ke (.bool true) true x y) Q:=w
theorem qs (w:wp y Q):wp (ke (.bool true) false x y) Q:=w
theorem qT (w:wp y Q):wp (ke (.bool false) true x y) Q:=w
theorem qe (w:wp x Q):wp (ke (.bool false) false x y) Q:=w
theorem zK {s:Bool} (w:wp y Q):wp (ke .undef s x y) Q:=w
theorem qD (w:wp (K u) Q):wp (ky (.bool true) u v K) Q:=w
theorem qE (w:wp (K v) Q):wp (ky (.bool false) u v K) Q:=w
theorem qV {α:Type} {j:α} {f:α→R} (w:wp (f j) Q):wp (yB j f) Q:=w
theorem Kk {σ:Type} {j:σ→AH→R} {f:(σ→AH→R)→R} (Inv:σ→AH→Prop) (hf:∀j':σ→AH→R,(∀s h,Inv s h→wp (j' s h) Q)→wp (f j') Q) (hj:∀s h,Inv s h→wp (j s h) Q):wp (yB j f) Q:=hf j hj
theorem ji {σ:Type} {j:σ→AH→List Nat→R} {f:(σ→AH→List Nat→R)→R} (ds:List Nat) (Inv:σ→AH→Prop) (hf:∀j':σ→AH→List Nat→R,(∀s h,Inv s h→wp (j' s h ds) Q)→wp (f j') Q)
  (hj:∀s h,Inv s h→wp (j s h ds) Q):wp (yB j f) Q:=hf j hj
theorem qk {K:AH→R} (w:wp (K h) Q):wp (z7 [] h K) Q:=w
theorem jM {σ:Type} {f:(σ→AH→List Nat→R)→σ→AH→List Nat→R} {d:List Nat} (Inv:Nat→σ→AH→Prop)
  (step:∀m ih s h,(∀m' s' h',m'<m→Inv m' s' h'→wp (ih s' h' d) Q)→Inv m s h→wp (f ih s h d) Q):∀{N m:Nat} {s:σ} {h:AH},m<N→Inv m s h→wp (YU N f s h d) Q:=by
 intro N
 induction N with
 |zero=>intro m s h hm;omega
 |succ N ih=>intro m s h hm hi;show wp (f (YU N f) s h d) Q;exact step m _ s h (λm' s' h' hlt hi'=>ih omQ hi') hi
theorem qG {c:CV} {f:AV} {as:List AV} {K:AV→AH→R} (w:wp (c f as h) Q') (hk:∀v h',Q' v h'→wp (K v h') Q):wp (zz c f as h K) Q:=by obtain⟨v,h',e,q⟩:=w;rw[QR,e];exact hk v h' q
theorem qxS {tab:BT} {rt:List RT} {n:Nat} {f:FuncId} {as:List AV} {g:WF} (hg:tab.get f=some g):callT tab rt (n+1) (.fn f [] []) as h=g (callT tab rt n) as h:=by show Option.rec (motive:=λ_=>R) none (λg=>g (callT tab rt n) ([]++as++[]) h) (tab.get f)=_;rw[hg,List.nil_append,List.append_nil]
theorem qjS {tab:BT} {rt:List RT} {n:Nat} {f:FuncId} {a1 a2 as:List AV} {g:WF} (hg:tab.get f=some g):callT tab rt (n+1) (.fn f a1 a2) as h=g (callT tab rt n) (a1++as++a2) h:=by show Option.rec (motive:=λ_=>R) none (λg=>g (callT tab rt n) (a1++as++a2) h) (tab.get f)=_;rw[hg]
end Go.Ae
namespace Go.Ae
open Go
def kK (z:Nat) (c:CV):CV:=λv as h=>match v,as with
 | .fn f [] [],[]=>if f=z then some (.bool true,h)else c v as h
 |_,_=>c v as h
theorem qYS {z:Nat} {c:CV} {h:AH}:kK z c (.fn z [] []) [] h=some (.bool true,h):=iJ rfl
theorem qZ3 {z f:Nat} {c:CV} {as:List AV} {h:AH} (hf:f≠z):kK z c (.fn f [] []) as h=c (.fn f [] []) as h:=by
 cases as with
 |nil=>exact iQ hf
 |cons a as=>rfl
theorem qB {tab:BT} {rt:List RT} {n:Nat} {f:FuncId} {as:List AV} {g:WF} {h:AH} {Q:AV→AH→Prop} (hg:tab.get f=some g) (hn:1≤n) (w:∀k,n=k+1→wp (g (callT tab rt k) as h) Q):wp (callT tab rt n (.fn f [] []) as h) Q:=by obtain⟨k,rfl⟩:∃k,n=k+1:=⟨n-1,by omega⟩;rw[qxS hg];exact w k rfl
theorem qyU {tab:BT} {rt:List RT} {n:Nat} {f:FuncId} {a1 a2 as:List AV} {g:WF} {h:AH} {Q:AV→AH→Prop} (hg:tab.get f=some g) (hn:1≤n) (w:∀k,n=k+1→wp (g (callT tab rt k) (a1++as++a2) h) Q):wp (callT tab rt n (.fn f a1 a2) as h) Q:=by obtain⟨k,rfl⟩:∃k,n=k+1:=⟨n-1,by omega⟩;rw[qjS hg];exact w k rfl
theorem ye {z:Nat} {c:CV} {f:FuncId} {as:List AV} {h:AH} {Q Q':AV→AH→Prop} {K:AV→AH→R} (hf:f≠z) (w:wp (c (.fn f [] []) as h) Q') (hk:∀v h',Q' v h'→wp (K v h') Q):wp (zz (kK z c) (.fn f [] []) as h K) Q :=
 qG (by rw[qZ3 hf];exact w) hk
theorem jQH {z:Nat} {c:CV} {h:AH} {Q:AV→AH→Prop} {K:AV→AH→R} (hk:wp (K (.bool true) h) Q):wp (zz (kK z c) (.fn z [] []) [] h K) Q :=
 qG (Q':=λv h'=>v=.bool true∧h'=h) ⟨_,_,qYS,rfl,rfl⟩ (by rintro v h' ⟨rfl,rfl⟩;exact hk)
theorem YK {P:Program} {m:Mp} {D:Nat→Prop} {h:AH} {w w':World} (R:Rel P m D h w) (B:RowKit.Below w.heap.size w w'):Ext m D h w m D h w'∧Rel P m D h w':=by
 refine Ext.rel R ?_;refine⟨⟨λ_ x=>x,λ_ _=>rfl,B.size,λc hc hn=>⟨B.block c hc,hn⟩,Nat.le_refl _,λ_ _ hn=>⟨rfl,hn⟩,B.os,B.tape,B.output,λb=>⟨.inl,λhb=>hb.elim id λhb=>by omega⟩,λ_ _ h1 h2=>⟨h1,h2⟩⟩,?_,R.inj,R.lt,R.inp⟩;intro b hb;obtain⟨x,hx,hr,hd⟩:=R.blk b hb;refine⟨x,hx,?_,hd⟩;cases x with
 |dead=>trivial
 |inp t=>exact hr.congr (λ_ _=>rfl) hd (B.block _ hr.insideI)
 |_=>exact hr.congr (λ_ _=>rfl) hd (B.block _ (BlkR.inside (by exact True.intro) hr))
theorem qZu {P:Program} {c:CV} (hc:yI P c) {z:Nat} (henter:∀(as:Array Value) (W:World),(callFunc z as).run P W=.ok (.enter z as) W)
  (hrun:∀(w:World) (n:Nat),Gl P w→CallsIn Fence.wide n P z #[] w λe w'=>e=.returned (.bool true)∧RowKit.Below w.heap.size w w'):yI P (kK z c):=by
 intro vf as h r e m D w R hv ha;unfold kK at e
 split at e
 ·rename_i f
  split at e
  ·rename_i hf;subst hf;cases e;refine⟨henter,λn=>CallsIn.mono (hrun w n R.gl.gl) ?_⟩;rintro ee w' ⟨rfl,B⟩;obtain⟨X,R'⟩:=YK R B;exact⟨m,D,rfl,X,R',trivial⟩
  ·exact hc _ _ _ _ e m D w R hv ha
 ·exact hc _ _ _ _ e m D w R hv ha
theorem open_law {P:Program} {tab:BT} {rt:List RT} (hm:P.follows .mixedOrders=true) (ht:TabOk P tab rt) {z:Nat} {gz:WF} (hz:tab.get z=some gz)
  (hrun:∀(w:World) (n:Nat),Gl P w→CallsIn Fence.wide n P z #[] w λe w'=>e=.returned (.bool true)∧RowKit.Below w.heap.size w w')
  {f:FuncId} {g:WF} (hg:tab.get f=some g) {k:Nat} {as:List AV} {w:World} {h:AH} (M:kT w h) (hgl:Gl P w) (ha:inDs (vP w) as)
  (e:wp (g (kK z (callT tab rt k)) as h) λv _=>v=.bool true) (n:Nat):CallsIn Fence.wide n P f (cvs Kx as).toArray w λe w'=>e=.returned (.bool true)∧RowKit.Below w.heap.size w w':=by
 obtain⟨v,h',e,rfl⟩:=e;have hc:=qZu (Z4 hm ht k) (ht.enter z gz hz) hrun;refine CallsIn.mono ((ht.w f g hg).call hc (qVT hm hc) e (M.rel hgl) ha n) ?_;rintro ee w' ⟨m',D',rfl,X,R',_⟩;exact⟨rfl,X.os,X.tape,X.output,X.size,λk hk=>(X.keep k hk (λ⟨b,hb,hl,_⟩=>M.noLive hb hl)).1⟩
theorem WTs2 {P:Program} {h:AH} {d:Nat} {t0 t1:TypeId} {l:List AV} (H:WTs P h d [t0,t1] l):∃a0 a1,l=[a0,a1]∧WTV P h d t0 a0∧WTV P h d t1 a1:=by
 cases l with
 |nil=>exact H.elim
 |cons a0 l=>
 obtain⟨h0,H⟩:=H;cases l with
 |nil=>exact H.elim
 |cons a1 l=>
 obtain⟨h1,H⟩:=H;cases l with
 |cons _ _=>exact H.elim
 |nil=>exact⟨a0,a1,rfl,h0,h1⟩
end Go.Ae
namespace Go.Ae
open Go
variable {Q:AV→AH→Prop} {h h' h'':AH} {K:AV→R} {K2:AV→AH→R} {K1:AH→R} {b off n sz:Nat} {xs ys l:List AV} {e:TypeId} {o:Bool} {x v:AV} {k:IntKind}
def CT.full:CT→Prop
 | .lst _=>True
 | .tree n z tr=>∀i,i<n→∃v,Qh z tr i=some v
theorem CT.get1_full {c:CT} (hc:c.full) (i:Nat):c.get1 i=c.toList[i]?:=by
 cases c with
 |lst xs=>exact yV xs i
 |tree n z tr=>
  simp only[CT.get1,CT.toList,List.getElem?_map];cases hb:Nat.ble (i+1) n
  ·have:=Gq hb;rw[cond_false,List.getElem?_eq_none (by simp;omega)];rfl
  ·have:=ga hb;obtain⟨v,hv⟩:=hc i omQ;rw[cond_true,List.getElem?_range omQ,hv];simp only[Option.map_some,Yv hv]
theorem qZI {z:List AV} {t:Trie AV}:∀{l:List AV} {i:Nat},(∀k,k<l.length→Qh z t (i+k)=l[k]?)→JH z t i l.length=some l:=by
 intro l
 induction l with
 |nil=>intro i _;rfl
 |cons a l ih=>intro i H;rw[List.length_cons,OS];have h0:=H 0 osQ;simp only[Nat.add_zero,List.getElem?_cons_zero]at h0;rw[h0,Option.bind_some,ih (i:=i+1) (λk hk=>by have:=H (k+1) (by simp;omega);simp only[List.getElem?_cons_succ]at this;rw[← this];congr 1;omega)];rfl
theorem V9 {t:Trie AV} {i:Nat}:Qh [] t i=Trie.get t i:=by
 rw[y9]
 split
 ·rename_i h;rw[h]
 ·rename_i h;rw[VH,h]
theorem YS {α:Type} {xs l:List α} {off:Nat} (H:∀i,i<l.length→xs[off+i]? =l[i]?):(xs.drop off).take l.length=l:=by
 apply List.ext_getElem?;intro i;by_cases hi:i<l.length
 ·rw[List.getElem?_take_of_lt hi,List.getElem?_drop,H i hi]
 ·rw[List.getElem?_eq_none (by simp;omega),List.getElem?_eq_none omQ]
theorem Jg (hl:0<l.length) (H:∀i,i<l.length→h.at b (off+i)=l[i]?):yv h b off l.length=some l:=by
 have hd:∀i,i<l.length→∃u,l[i]? =some u:=λi hi=>⟨_,iW hi⟩;have hlast:=H (l.length-1) omQ;obtain⟨u,hu⟩:=hd (l.length-1) omQ;unfold AH.at at H hlast;unfold yv;cases hg:h.get b with
 |none=>simp only[hg]at hlast;rw[hu]at hlast;cases hlast
 |some x=>
  simp only[hg]at H hlast;cases x with
  |cells c e o=>
   simp only at H hlast ⊢;cases c with
   |lst ys=>simp only[CT.get1,yV]at H hlast;simp only[CT.readN,kI];rw[hu]at hlast;have:=(List.getElem?_eq_some_iff.1 hlast).1;rw[gn (by simp;omega),YS H]
   |tree m z tr=>
    simp only[CT.get1]at H hlast;have hm:off+l.length≤m:=by
     rw[hu]at hlast;cases hb:Nat.ble (off+(l.length-1)+1) m
     ·rw[hb]at hlast;cases hlast
     ·have:=ga hb;omega
    simp only[CT.readN];rw[show Nat.beq l.length 0=false from xR omQ,cond_false,iY hm,cond_true];refine qZI λk hk=>?_;have:=H k hk;rw[iY (show off+k+1≤m by omega),cond_true]at this;exact this
  |inp t=>simp only at H ⊢;exact qZI λk hk=>by rw[V9];exact H k hk
  |_=>simp only at hlast;rw[hu]at hlast;cases hlast
theorem JB (hx:h.at b off=some x) (w:wp (K x) Q):wp (jN h (.ptr b off) K) Q:=by
 unfold AH.at at hx;rw[vM];simp only
 split at hx
 ·rename_i hg;rw[hg];simp only[hx,ob];exact w
 ·rename_i hg;rw[hg];simp only[hx,ob];exact w
 ·cases hx
theorem qQb (hl:l.length=n) (hn:0<n) (H:∀i,i<n→h.at b (off+i)=l[i]?) (w:wp (K (.agg l)) Q):wp (zO h (.ptr b off) n K) Q:=by subst hl;rw[wu];simp only[Jg hn H,ob];exact w
structure Fr (fp:Nat→Prop) (h h':AH):Prop where
  nx:h.nx≤h'.nx
  get:∀b,b<h.nx→¬fp b→h'.get b=h.get b
theorem Fr.refl (fp:Nat→Prop) (h:AH):Fr fp h h:=⟨Nat.le_refl _,λ_ _ _=>rfl⟩
theorem Fr.mono {fp fq:Nat→Prop} (F:Fr fp h h') (H:∀b,b<h.nx→fp b→fq b):Fr fq h h':=⟨F.nx,λb hb hn=>F.get b hb λhf=>hn (H b hb hf)⟩
theorem Fr.trans {fp fq:Nat→Prop} (F:Fr fp h h') (G:Fr fq h' h''):Fr (λb=>fp b∨fq b) h h'' :=
 ⟨Nat.le_trans F.nx G.nx,λb hb hn=>(G.get b (Nat.lt_of_lt_of_le hb F.nx) λhf=>hn (.inr hf)).trans (F.get b hb λhf=>hn (.inl hf))⟩
abbrev Old (N:Nat) (h h':AH):Prop:=Fr (λb=>N≤b) h h'
theorem Old.refl (N:Nat) (h:AH):Old N h h:=Fr.refl _ _
theorem Old.step {N:Nat} {fp:Nat→Prop} (F:Old N h h') (G:Fr fp h' h'') (H:∀b,fp b→N≤b):Old N h h'' :=
 (F.trans G).mono λb _ hb=>hb.elim id (H b)
structure Row (h:AH) (b:Nat) (xs:List AV) (e:TypeId) (o:Bool):Prop where
  lt:b<h.nx
  blk:∃c,h.get b=some (.cells c e o)∧c.toList=xs∧c.full
theorem Row.fr {fp:Nat→Prop} (A:Row h b xs e o) (F:Fr fp h h') (hb:¬fp b):Row h' b xs e o :=
 ⟨Nat.lt_of_lt_of_le A.lt F.nx,by rw[F.get b A.lt hb];exact A.blk⟩
theorem Row.at (A:Row h b xs e o) (i:Nat):h.at b i=xs[i]?:=by
 obtain⟨c,h1,rfl,h3⟩:=A.blk;unfold AH.at
 rw[h1];exact CT.get1_full h3 i
theorem qyd {fp:Nat→Prop} {i:Nat} (F:Fr fp h h') (hb:b<h.nx) (hf:¬fp b):h'.at b i=h.at b i:=by unfold AH.at;rw[F.get b hb hf]
theorem CT.full_ofList (xs:List AV):(CT.ofList xs).full:=by
 unfold CT.ofList;cases Nat.ble xs.length 16
 ·intro i hi;refine⟨xs[i],?_⟩;rw[V9,kq,iJ omQ,Nat.sub_zero,iW hi]
 ·trivial
theorem CT.full_rep (z:List AV) (n:Nat):(CT.rep z n).full:=by
 unfold CT.rep;cases hb:Nat.ble (z.length*n) 16
 ·intro i hi;have h1:=Gq hb;have hz:0<z.length:=Nat.pos_of_ne_zero λh0=>by rw[h0,Nat.zero_mul]at h1;omega
  have hm:=Nat.mod_lt i hz;refine⟨z[i%z.length],?_⟩;rw[y9,show Trie.get (PT.e:Trie AV) i=none from Trie.get_e i];simp only;rw[yV,iW hm]
 ·trivial
theorem OH {z:List AV} {t:Trie AV} {i:Nat} {xs:List AV} {j:Nat}:Qh z (qQu t i xs) j=if i≤j∧j<i+xs.length then xs[j-i]? else Qh z t j:=by
 rw[y9,y9,kq];by_cases hj:i≤j∧j<i+xs.length
 ·rw[iJ hj,iJ hj,iW omQ]
 ·rw[iQ hj,iQ hj]
theorem CT.full_write {c c':CT} (hc:c.full) (e:c.write off xs=some c'):c'.full:=by
 cases c with
 |lst ys=>simp only[CT.write,Option.bind_eq_some_iff]at e;obtain⟨s,_,e⟩:=e;cases e;trivial
 |tree n z tr=>
  simp only[CT.write,jY]at e;obtain⟨_,e⟩:=e;cases e;intro i hi;rw[OH];by_cases hj:off≤i∧i<off+xs.length
  ·rw[iJ hj];exact⟨_,iW omQ⟩
  ·rw[iQ hj];exact hc i hi
theorem CT.write_full {c:CT} (ho:off+xs.length≤c.toList.length):∃c',c.write off xs=some c':=by
 cases c with
 |lst ys=>exact⟨_,by simp only[CT.write];rw[Kc (show off+xs.length≤ys.length from ho)];rfl⟩
 |tree n z tr=>exact⟨_,by simp only[CT.write];rw[iY (by simpa[CT.toList]using ho),cond_true]⟩
theorem CT.full_app {c:CT} (hc:c.full) (xs:List AV):(c.app xs).full:=by
 cases c with
 |lst ys=>exact CT.full_ofList _
 |tree n z tr=>
  intro i hi;rw[OH];by_cases hj:n≤i∧i<n+xs.length
  ·rw[iJ hj];exact⟨_,iW omQ⟩
  ·rw[iQ hj];exact hc i omQ
theorem CT.pre_full {c:CT} (hc:c.full) (hn:n≤c.toList.length):∃c',c.pre n=some c'∧c'.toList=c.toList.take n∧c'.full:=by
 have key:∃c',c.pre n=some c'∧c'.full:=by
  cases c with
  |lst ys=>exact⟨.lst (ys.take n),by simp only[CT.pre];rw[gn (show n≤ys.length from hn)];rfl,trivial⟩
  |tree m z tr=>
   have hm:n≤m:=by simpa[CT.toList]using hn
   exact⟨.tree n z tr,by simp only[CT.pre];rw[iY hm,cond_true],λi hi=>hc i omQ⟩
 obtain⟨c',h1,h2⟩:=key;have h3:=CT.pre_ok h1;rw[gn hn]at h3;exact⟨c',h1,(Option.some.inj h3).symm,h2⟩
def kA (xs:List AV) (off:Nat) (ys:List AV):List AV:=xs.take off++ys++xs.drop (off+ys.length)
theorem G7 (ho:off+ys.length≤xs.length):(kA xs off ys).length=xs.length:=by simp[kA];omega
theorem Zb (ho:off+ys.length≤xs.length) (i:Nat):(kA xs off ys)[i]? =if off≤i∧i<off+ys.length then ys[i-off]? else xs[i]?:=by
 unfold kA;by_cases h1:i<off
 ·rw[iQ omQ,List.append_assoc,List.getElem?_append_left (by simp;omega),List.getElem?_take_of_lt h1]
 ·by_cases h2:i<off+ys.length
  ·rw[iJ omQ,List.getElem?_append_left (by simp;omega),List.getElem?_append_right (by simp;omega)]
   congr 1;simp;omega
  ·rw[iQ omQ,List.getElem?_append_right (by simp;omega),List.getElem?_drop]
   congr 1;simp;omega
theorem Xc {y:AV} (ho:off<xs.length):kA xs off [y]=xs.set off y:=by
 apply List.ext_getElem?;intro i;rw[Zb (by simp;omega),List.getElem?_set];by_cases h1:off=i
 ·subst h1;rw[iJ osQ,iJ rfl,iJ ho];simp
 ·rw[iQ (by simp;omega),iQ h1]
theorem Xa (A:Row h b xs e o) (ho:off+ys.length≤xs.length) (h1:qp ys=true):∃h',gV h b off ys=some h'∧Row h' b (kA xs off ys) e o∧Fr (λa=>a=b) h h'∧h'.nx=h.nx:=by obtain⟨c,g1,rfl,g3⟩:=A.blk;obtain⟨c',hc'⟩:=CT.write_full (c:=c) ho;have h2:=CT.write_ok hc';rw[Kc ho]at h2;refine⟨h.put b (.cells c' e o),?_,⟨A.lt,c',AH.get_put_same ..,(Option.some.inj h2).symm,CT.full_write g3 hc'⟩,⟨Nat.le_refl _,λa _ hn=>AH.get_put_ne h _ (λe=>hn e.symm)⟩,rfl⟩;unfold gV;rw[g1];simp only[h1,cond_true,hc',Option.bind_some]
theorem Kq (A:Row h b xs e o) (hn:x.cells.length=n) (ho:off+n≤xs.length) (h1:qp x.cells=true)
  (w:∀h',Row h' b (kA xs off x.cells) e o→Fr (λa=>a=b) h h'→h'.nx=h.nx→wp (K1 h') Q):wp (jd h (.ptr b off) x n K1) Q:=by
 subst hn;obtain⟨h',g1,g2,g3,g4⟩:=Xa A ho h1;rw[Kb];simp only[Nat.beq_refl,cond_true,g1,ob];exact w h' g2 g3 g4
theorem Row.new {c:CT} (hc:c.full):Row (h.new (.cells c e o)) h.nx c.toList e o∧Fr (λ_=>False) h (h.new (.cells c e o)) :=
 ⟨⟨by simp,c,AH.get_new_same ..,rfl,hc⟩,⟨by simp,λb hb _=>AH.get_new_ne h _ omQ⟩⟩
theorem qqo (h1:qp x.cells=true) (w:∀b h',h.nx≤b→Row h' b x.cells e false→Fr (λ_=>False) h h'→wp (K2 (.ptr b 0) h') Q):wp (gi h e x K2) Q:=by unfold gi;rw[h1,cond_true];obtain⟨a1,a2⟩:=Row.new (h:=h) (e:=e) (o:=false) (CT.full_ofList x.cells);rw[CT.ofList_ok]at a1;exact w h.nx _ (Nat.le_refl _) a1 a2
theorem qL {z:List AV} {vs:List (Nat×Nat×AV)} (hf:yM z vs=some l) (w:wp (K (.agg l)) Q):wp (yg z vs K) Q:=by unfold yg;rw[hf];exact w
theorem qGo {z:List AV} {vs:List (Nat×Nat×AV)} (hf:yM (vE z n) vs=some l) (h1:qp l=true)
  (w:∀b h',h.nx≤b→Row h' b l e false→Fr (λ_=>False) h h'→wp (K2 (.slice b 0 n n false) h') Q):wp (xX h e z n vs K2) Q:=by
 unfold xX;simp only[hf,ob,h1,cond_true];obtain⟨a1,a2⟩:=Row.new (h:=h) (e:=e) (o:=false) (CT.full_ofList l);rw[CT.ofList_ok]at a1;exact w h.nx _ (Nat.le_refl _) a1 a2
theorem VW (z:AV):∀n,vE [z] n=List.replicate n z:=by
 intro n
 induction n with
 |zero=>rfl
 |succ n ih=>rw[vE,ih,List.replicate_succ];rfl
theorem ZA {z:List AV} {ln cp:Nat} {k1 k2:IntKind} (h1:ln≤cp) (h2:cp≤1073741824)
  (w:∀b h',h.nx≤b→Row h' b (vE z cp) e false→Fr (λ_=>False) h h'→wp (K2 (.slice b 0 ln cp false) h') Q):wp (Qv h e z (.int k1 (ln:Int)) (.int k2 (cp:Int)) K2) Q:=by
 show wp (bif Nat.ble ln cp&&Nat.ble cp 1073741824 then K2 (.slice h.nx 0 ln cp false) (h.new (.cells (CT.rep z cp) e false))else none) Q;rw[iY h1,iY h2];obtain⟨a1,a2⟩:=Row.new (h:=h) (e:=e) (o:=false) (CT.full_rep z cp);rw[CT.rep_ok]at a1;exact w h.nx _ (Nat.le_refl _) a1 a2
theorem qn {f:Nat} (w:wp (K (.ptr b (off+f))) Q):wp (qt (.ptr b off) f K) Q:=w
theorem qvt {cp:Nat} (w:wp (K (.int .i64 (n:Int))) Q):wp (kF (.slice b off n cp o) K) Q:=w
theorem YH {cp i:Nat} (hi:i<n) (w:wp (K (.ptr b (off+i*sz))) Q):wp (gF (.slice b off n cp o) (.int k (i:Int)) sz K) Q:=by rw[Ut];show wp (bif Nat.ble (i+1) n then K (.ptr b (off+i*sz))else none) Q;rw[iY hi,cond_true];exact w
theorem qC {i:Nat} (hx:l[i]? =some x) (w:wp (K x) Q):wp (z8 (.tup l) i K) Q:=by rw[XZ];simp only[yV,hx,ob];exact w
def AH.rd (h:AH) (b:Nat):Prop:=match h.get b with
 |some (.cells _ _ _)=>True
 |some (.inp _)=>True
 |_=>False
theorem qyP {fp:Nat→Prop} (F:Fr fp h h') (hb:b<h.nx) (hf:¬fp b) (hr:h.rd b):h'.rd b:=by unfold AH.rd at*;rw[F.get b hb hf];exact hr
theorem Row.rd (A:Row h b xs e o):h.rd b:=by obtain⟨c,h1,_⟩:=A.blk;unfold AH.rd;rw[h1];trivial
inductive Sl (D:Nat→Prop) (h:AH) (sz:Nat):Nat→AV→List AV→Prop
  |nils:Sl D h sz 0 .nils []
  |empt (a:Addr):Sl D h sz 0 (.empt a) []
  |tail (b off off' i1:Nat):Sl D h sz 0 (.tail b off off' i1) []
  |mk {b off n cp:Nat} {o:Bool} {xs:List AV} (hd:D b) (hb:b<h.nx) (hr:h.rd b) (hl:xs.length=n*sz) (ha:∀i,i<n*sz→h.at b (off+i)=xs[i]?):Sl D h sz n (.slice b off n cp o) xs
theorem Sl.len {D:Nat→Prop} (S:Sl D h sz n v xs):xs.length=n*sz:=by
 cases S with
 |nils=>simp
 |empt a=>simp
 |tail b o o' i=>simp
 |mk hd hb hr hl ha=>exact hl
theorem Sl.fr {D fp:Nat→Prop} (S:Sl D h sz n v xs) (F:Fr fp h h') (hD:∀b,D b→¬fp b):Sl D h' sz n v xs:=by
 cases S with
 |nils=>exact .nils
 |empt a=>exact .empt a
 |tail b o o' i=>exact .tail b o o' i
 |mk hd hb hr hl ha=>exact .mk hd (Nat.lt_of_lt_of_le hb F.nx) (qyP F hb (hD _ hd) hr) hl λi hi=>by rw[qyd F hb (hD _ hd)];exact ha i hi
theorem Sl.mono {D D':Nat→Prop} (S:Sl D h sz n v xs) (hD:∀b,D b→D' b):Sl D' h sz n v xs:=by
 cases S with
 |nils=>exact .nils
 |empt a=>exact .empt a
 |tail b o o' i=>exact .tail b o o' i
 |mk hd hb hr hl ha=>exact .mk (hD _ hd) hb hr hl ha
theorem Sl.old {D:Nat→Prop} (S:Sl D h sz n v xs) (F:Old h.nx h h'):Sl D h' sz n v xs:=by
 cases S with
 |nils=>exact .nils
 |empt a=>exact .empt a
 |tail b o o' i=>exact .tail b o o' i
 |mk hd hb hr hl ha=>exact .mk hd (Nat.lt_of_lt_of_le hb F.nx) (qyP F hb omQ hr) hl λi hi=>by rw[qyd F hb omQ];exact ha i hi
theorem Row.old {N:Nat} (A:Row h b xs e o) (F:Old N h h') (hb:b<N):Row h' b xs e o:=A.fr F omQ
theorem zu {D:Nat→Prop} (S:Sl D h sz n v xs) (w:wp (K (.int .i64 (n:Int))) Q):wp (kF v K) Q:=by
 cases S<;>exact w
theorem qX8 {D:Nat→Prop} {i:Nat} (S:Sl D h sz n v xs) (hi:i<n) (w:∀b off,b<h.nx→D b→(∀j,j<sz→h.at b (off+j)=xs[i*sz+j]?)→wp (K (.ptr b off)) Q):wp (gF v (.int k (i:Int)) sz K) Q:=by
 cases S with
 |nils=>omega
 |empt a=>omega
 |tail b o o' i=>omega
 |mk hd hb hr hl ha=>
  refine YH hi (w _ _ hb hd λj hj=>?_)
  rw[Nat.add_assoc,ha _ (by
   have:i*sz+sz≤n*sz:=by rw[← Nat.succ_mul];exact Nat.mul_le_mul_right sz hi
   omega)]
theorem Sl.of_row0 {D:Nat→Prop} {cp:Nat} (A:Row h b xs e o) (hd:D b) (ho:xs.length=n*sz):Sl D h sz n (.slice b 0 n cp o) xs :=
 .mk hd A.lt A.rd ho λi _=>by rw[A.at,Nat.zero_add]
theorem xD {y d i:Nat} (hi:i≤y):yb (some (.int k (i:Int))) y d=some i:=by show(bif Nat.ble i y then some i else none)=some i;rw[iY hi];rfl
theorem Un {el cp lo hi:Nat} {vlo vhi:Option AV} (hh:yb vhi cp n=some hi) (hl:yb vlo hi 0=some lo) (w:wp (K (.slice b (bif Nat.beq cp lo then off else off+lo*sz) (hi-lo) (cp-lo) false)) Q):wp (xY h el sz (.slice b off n cp false) vlo vhi K) Q:=by unfold xY;simp only[hh,hl,ob];exact w
theorem Ua {i0 lo hi:Nat} {vlo vhi:Option AV} (A:Row h b xs e true) (hsz:0<sz) (ho:off=i0*sz) (hx:off+n*sz≤xs.length) (hh:yb vhi n n=some hi) (hl:yb vlo hi 0=some lo) (hlt:lo<n∨lo=0)
  (w:wp (K (.slice b (off+lo*sz) (hi-lo) (i0+lo) true)) Q):wp (xY h e sz (.slice b off n i0 true) vlo vhi K) Q:=by
 obtain⟨c,g1,g2,g3⟩:=A.blk;unfold xY;have hf:yE h e b off sz i0 n=true:=by unfold yE;rw[g1];simp only[Nat.beq_refl,Bool.true_and,Bool.and_eq_true];refine⟨iY hsz,by rw[ho];exact Nat.beq_refl _,iY ?_⟩;rw[CT.len_eq,g2];exact hx
 simp only[hf,cond_true,hh,hl,ob];by_cases h0:lo=0
 ·subst h0;simpa using w
 ·rw[show Nat.beq lo 0=false from xR h0,cond_false,iY (show lo+1≤n by omega),cond_true];exact w
theorem qgs {i0:Nat} {vlo:Option AV} (A:Row h b xs e true) (hsz:0<sz) (ho:off=i0*sz) (hx:off+n*sz≤xs.length) (hl:yb vlo n 0=some n) (hn:0<n)
  (w:wp (K (.tail b off (off+n*sz) (i0+n))) Q):wp (xY h e sz (.slice b off n i0 true) vlo none K) Q:=by
 obtain⟨c,g1,g2,g3⟩:=A.blk;unfold xY;have hf:yE h e b off sz i0 n=true:=by unfold yE;rw[g1];simp only[Nat.beq_refl,Bool.true_and,Bool.and_eq_true];refine⟨iY hsz,by rw[ho];exact Nat.beq_refl _,iY ?_⟩;rw[CT.len_eq,g2];exact hx
 simp only[hf,cond_true,show yb none n n=some n from rfl,hl,ob];rw[show Nat.beq n 0=false from xR omQ,cond_false];cases hc:Nat.ble (n+1) n
 ·exact w
 ·have:=Nat.le_of_ble_eq_true hc;omega
def shut:AV→Bool
 | .slice _ _ _ _ o=>!o
 | .tail _ _ _ _=>false
 |_=>true
def Uz:AV→Prop
 | .slice _ _ n cp false=>n≤cp
 |_=>True
theorem qK0 {D:Nat→Prop} {el lo:Nat} (S:Sl D h sz n v xs) (hs:shut v=true) (hr:Uz v) (hlo:lo≤n)
  (w:∀v',Sl D h sz (n-lo) v' (xs.drop (lo*sz))→shut v'=true→Uz v'→wp (K v') Q):wp (xY h el sz v (some (.int k (lo:Int))) none K) Q:=by
 have hxl:=S.len;cases S with
 |nils=>
  obtain rfl:lo=0:=by omega
  unfold xY;simp only[show yb none 0 0=some 0 from rfl,xD (k:=k) (Nat.le_refl 0),ob];exact w _ (by simpa using Sl.nils) rfl trivial
 |empt a=>
  obtain rfl:lo=0:=by omega
  unfold xY;simp only[show yb none 0 0=some 0 from rfl,xD (k:=k) (Nat.le_refl 0),ob];exact w _ (by simpa using Sl.empt a) rfl trivial
 |tail b o o' i=>cases hs
 |mk hd hb hrd hl ha=>
  rename_i b off cp o;cases o with
  |true=>cases hs
  |false=>
   have hr':n≤cp:=hr;refine Un (hi:=n) (lo:=lo) rfl (xD hlo) (w _ ?_ rfl (show n-lo≤cp-lo by omega));have hle:lo*sz≤n*sz:=Nat.mul_le_mul_right sz hlo;have hsub:(n-lo)*sz=n*sz-lo*sz:=Nat.sub_mul ..;refine .mk hd hb hrd (by simp[hxl,hsub]) ?_;intro i hi;by_cases hc:cp=lo
   ·subst hc;obtain rfl:n=cp:=by omega
    simp at hi
   ·rw[show Nat.beq cp lo=false from xR hc,cond_false,Nat.add_assoc,ha _ omQ,List.getElem?_drop]
theorem qXN {D:Nat→Prop} {m:Nat} (S:Sl D h sz n v xs) (hm:m≤n) (h0:0<m*sz):wX h sz m v=some (xs.take (m*sz)):=by
 have hmn:m*sz≤n*sz:=Nat.mul_le_mul_right sz hm;cases S with
 |nils=>omega
 |empt a=>omega
 |tail b o o' i=>omega
 |mk hd hb hr hl ha=>
  show yv h _ _ (m*sz)=_;have hlen:(xs.take (m*sz)).length=m*sz:=by simp;omega
  have:=Jg (h:=h) (b:=_) (off:=_) (l:=xs.take (m*sz)) omQ (λi hi=>(by rw[ha i omQ,List.getElem?_take_of_lt omQ]:h.at _ (_+i)=_));rw[hlen]at this;exact this
theorem qJ4 {D:Nat→Prop} (S:Sl D h sz n v xs):Qz v=some n:=by cases S<;>rfl
theorem qwD {D:Nat→Prop} {m cp:Nat} (S:Sl D h sz n v xs) (A:Row h b ys e o) (ho:off+m*sz≤ys.length) (hsz:0<sz) (h1:qp (xs.take (min n m*sz))=true)
  (w:∀h',Row h' b (kA ys off (xs.take (min n m*sz))) e o→Fr (λa=>a=b) h h'→h'.nx=h.nx→wp (K2 (.int .i64 ((min n m:Nat):Int)) h') Q):wp (Yc h sz (.slice b off m cp o) v K2) Q:=by
 unfold Yc;have he:Qz (.slice b off m cp o)=some m:=rfl;simp only[qJ4 S,he,ob];have hmm:Nat.min n m=min n m:=rfl;rw[hmm];have hle:min n m*sz≤n*sz:=Nat.mul_le_mul_right sz (Nat.min_le_left _ _);have hle2:min n m*sz≤m*sz:=Nat.mul_le_mul_right sz (Nat.min_le_right _ _);have hxl:=S.len;by_cases h0:min n m=0
 ·have hf:∃l,wX h sz (min n m) v=some l:=by
   rw[h0];cases S with
   |nils=>exact⟨_,rfl⟩
   |empt a=>exact⟨_,rfl⟩
   |tail b o o' i=>exact⟨_,rfl⟩
   |mk hd hb hr hl ha=>
    show∃l,yv h _ _ (0*sz)=some l;rw[Nat.zero_mul];unfold AH.rd at hr;unfold yv
    split at hr
    ·rename_i c _ _ hg;rw[hg];cases c with
     |lst ys=>exact⟨[],rfl⟩
     |tree n z tr=>exact⟨[],rfl⟩
    ·rename_i hg;rw[hg];exact⟨[],rfl⟩
    ·exact hr.elim
  obtain⟨l,hf⟩:=hf;rw[hf];simp only[h0,Nat.beq_refl,cond_true];have:=w h (by rw[h0];simpa[kA]using A) (Fr.refl _ _) rfl;rw[h0]at this;exact this
 ·rw[qXN S (Nat.min_le_left _ _) (Nat.mul_pos omQ hsz)];simp only[show Nat.beq (min n m) 0=false from xR h0,cond_false];have hlen:(xs.take (min n m*sz)).length=min n m*sz:=by simp;omega
  obtain⟨h',g1,g2,g3,g4⟩:=Xa (ys:=xs.take (min n m*sz)) A (off:=off) (by rw[hlen];omega) h1;simp only[g1];exact w h' g2 g3 g4
theorem CT.pre_at {c:CT} {ys:List AV} (H:∀i,i<ys.length→c.get1 i=ys[i]?):∃c',c.pre ys.length=some c'∧c'.toList=ys∧c'.full:=by
 by_cases h0:ys.length=0
 ·have:=iA h0;subst this;cases c with
  |lst xs=>exact⟨.lst [],rfl,rfl,trivial⟩
  |tree m z tr=>exact⟨.tree 0 z tr,by simp only[CT.pre,List.length_nil];rw[iY (Nat.zero_le _),cond_true],rfl,λi hi=>by omega⟩
 ·have hlast:=H (ys.length-1) omQ;rw[iW omQ]at hlast;cases c with
  |lst xs=>simp only[CT.get1,yV]at H hlast;have hl:=(List.getElem?_eq_some_iff.1 hlast).1;refine⟨.lst (xs.take ys.length),by simp only[CT.pre];rw[gn omQ];rfl,?_,trivial⟩;have:=YS (xs:=xs) (l:=ys) (off:=0) (λi hi=>by rw[Nat.zero_add];exact H i hi);simpa[CT.toList]using this
  |tree m z tr=>
   simp only[CT.get1]at H hlast;have hm:ys.length≤m:=by
    cases hb:Nat.ble (ys.length-1+1) m
    ·rw[hb]at hlast;cases hlast
    ·have:=ga hb;omega
   have ht:∀i,i<ys.length→Qh z tr i=ys[i]?:=λi hi=>by
    have:=H i hi;rw[iY (show i+1≤m by omega),cond_true]at this;exact this
   refine⟨.tree ys.length z tr,by simp only[CT.pre];rw[iY hm,cond_true],?_,λi hi=>⟨_,(ht i hi).trans (iW hi)⟩⟩;apply List.ext_getElem?;intro i;simp only[CT.toList,List.getElem?_map];by_cases hi:i<ys.length
   ·rw[List.getElem?_range hi,Option.map_some,Yv ((ht i hi).trans (iW hi)),iW hi]
   ·rw[List.getElem?_eq_none (by simp;omega),List.getElem?_eq_none omQ];rfl
theorem qYN {D:Nat→Prop} (S:Sl D h sz n v ys):∃nc,Mz h sz n v=some nc∧nc.toList=ys∧nc.full:=by
 cases S with
 |nils=>exact⟨_,rfl,rfl,trivial⟩
 |empt a=>exact⟨_,rfl,rfl,trivial⟩
 |tail b o o' i=>exact⟨_,rfl,rfl,trivial⟩
 |mk hd hb hr hl ha=>
  rename_i b off cp o;have hread:0<ys.length→yv h b off ys.length=some ys:=λh0=>Jg h0 λi hi=>ha i omQ;unfold Mz;simp only[← hl];unfold AH.rd at hr;unfold AH.at at ha;unfold yv at hread
  split at hr
  ·rename_i c e' o' hg;simp only[hg]at ha hread ⊢;unfold CT.seg;by_cases h0:off=0
   ·subst h0;rw[Nat.beq_refl,cond_true];obtain⟨c',h1,h2,h3⟩:=CT.pre_at (c:=c) (ys:=ys) λi hi=>by have:=ha i omQ;rw[Nat.zero_add]at this;exact this
    exact⟨c',h1,h2,h3⟩
   ·rw[show Nat.beq off 0=false from xR h0,cond_false];by_cases hy:0<ys.length
    ·rw[hread hy];exact⟨_,rfl,CT.ofList_ok ys,CT.full_ofList ys⟩
    ·have:=iA (show ys.length=0 by omega);subst this;refine⟨CT.ofList [],?_,CT.ofList_ok [],CT.full_ofList []⟩;cases c<;>rfl
  ·rename_i t hg;simp only[hg]at hread ⊢;by_cases hy:0<ys.length
   ·rw[hread hy];exact⟨_,rfl,CT.ofList_ok ys,CT.full_ofList ys⟩
   ·have:=iA (show ys.length=0 by omega);subst this;exact⟨CT.ofList [],rfl,CT.ofList_ok [],CT.full_ofList []⟩
  ·exact hr.elim
def Acc (D:Nat→Prop) (h:AH) (e:TypeId) (sz n:Nat) (v:AV) (xs:List AV):Prop :=
 xs.length=n*sz∧(v=.nils∧n=0∨∃b,v=.slice b 0 n 0 true∧D b∧Row h b xs e true)
theorem Acc.nils {D:Nat→Prop}:Acc D h e sz 0 .nils []:=⟨by simp,.inl ⟨rfl,rfl⟩⟩
theorem Acc.sl {D:Nat→Prop} (A:Acc D h e sz n v xs):Sl D h sz n v xs:=by
 obtain⟨h1,⟨rfl,rfl⟩ |⟨b,rfl,h2,h3⟩⟩:=A
 ·obtain rfl:xs=[]:=iA (by simpa using h1);exact .nils
 ·exact .of_row0 h3 h2 h1
theorem Acc.fr {D fp:Nat→Prop} (A:Acc D h e sz n v xs) (F:Fr fp h h') (hD:∀b,D b→¬fp b):Acc D h' e sz n v xs:=by
 obtain⟨h1,h2 |⟨b,rfl,h2,h3⟩⟩:=A
 ·exact⟨h1,.inl h2⟩
 ·exact⟨h1,.inr ⟨b,rfl,h2,h3.fr F (hD b h2)⟩⟩
theorem Acc.mono {D D':Nat→Prop} (A:Acc D h e sz n v xs) (hD:∀b,D b→D' b):Acc D' h e sz n v xs:=by
 obtain⟨h1,h2 |⟨b,rfl,h2,h3⟩⟩:=A
 ·exact⟨h1,.inl h2⟩
 ·exact⟨h1,.inr ⟨b,rfl,hD b h2,h3⟩⟩
end Go.Ae
namespace Go.Ae
open Go
variable {h:AH} {n sz:Nat} {xs:List AV}
theorem qW {b o:Nat} {K:AV→R} {Q:AV→AH→Prop} (w:wp (K (.ptr b o)) Q):wp (xm (.ptr b o) K) Q:=w
theorem jO {D:Nat→Prop} {v x:AV} {i:Nat} {k:IntKind} {K:AV→R} {Q:AV→AH→Prop} (S:Sl D h 1 n v xs) (hx:xs[i]? =some x) (w:wp (K x) Q):wp (gF v (.int k (i:Int)) 1 λp=>jN h p K) Q:=by
 have hi:i<n:=by have:=(List.getElem?_eq_some_iff.1 hx).1;have:=S.len;omega
 refine qX8 S hi λb off _ _ H=>JB ?_ w;have:=H 0 omQ;rw[Nat.mul_one]at this;exact this.trans hx
theorem yn {D:Nat→Prop} {v x:AV} {i f:Nat} {k:IntKind} {K:AV→R} {Q:AV→AH→Prop} (S:Sl D h sz n v xs) (hf:f<sz) (hi:i<n) (hx:xs[i*sz+f]? =some x) (w:wp (K x) Q):wp (gF v (.int k (i:Int)) sz λp=>qt p f λq=>jN h q K) Q:=by refine qX8 S hi λb off _ _ H=>qn (JB ?_ w);exact(H f hf).trans hx
theorem zd {D:Nat→Prop} {v:AV} {i:Nat} {l:List AV} {k:IntKind} {K:AV→R} {Q:AV→AH→Prop} (S:Sl D h sz n v xs) (hi:i<n) (h0:0<sz) (hl:(xs.drop (i*sz)).take sz=l) (w:wp (K (.agg l)) Q):wp (gF v (.int k (i:Int)) sz λp=>zO h p sz K) Q:=by
 have hle:i*sz+sz≤n*sz:=by rw[← Nat.succ_mul];exact Nat.mul_le_mul_right sz hi
 have hxl:=S.len;refine qX8 S hi λb off _ _ H=>qQb (l:=l) (by rw[← hl];simp;omega) h0 (λj hj=>?_) w;rw[H j hj,← hl,List.getElem?_take_of_lt hj,List.getElem?_drop]
theorem Zv {b off f:Nat} {e:TypeId} {o:Bool} {x:AV} {K:AV→R} {Q:AV→AH→Prop} (A:Row h b xs e o) (hx:xs[off+f]? =some x) (w:wp (K x) Q):wp (qt (.ptr b off) f λq=>jN h q K) Q :=
 qn (JB ((A.at _).trans hx) w)
theorem qwO {b off i cp:Nat} {e:TypeId} {o o':Bool} {k:IntKind} {x:AV} {K:AH→R} {Q:AV→AH→Prop} (A:Row h b xs e o) (h1:x.cells=[x]) (hb:x.one=true) (hi:i<n) (ho:off+i<xs.length)
  (w:∀h',Row h' b (xs.set (off+i) x) e o→Fr (λa=>a=b) h h'→h'.nx=h.nx→wp (K h') Q):wp (gF (.slice b off n cp o') (.int k (i:Int)) 1 λq=>jd h q x 1 K) Q:=by
 refine YH hi (Kq A (by rw[h1];rfl) omQ (by rw[h1];simp[qp,hb]) λh' g1 g2 g3=>w h' ?_ g2 g3);rw[h1,Nat.mul_one,Xc omQ]at g1;exact g1
theorem qqc (a:Int):ieq a a=true:=by rw[Vo];simp
theorem qJr (a:List UInt8):seq? a a=true:=by rw[seq?_eq];simp
mutual
theorem QW:∀v:AV,vH v v=true
 | .bool b=>by simp[vH]
 | .int k n=>by simp[vH,qqc]
 | .str s=>by simp[vH,qJr]
 | .ptr b o=>by simp[vH,Nat.beq_refl]
 | .nilp=>rfl
 | .slice b o l c p=>by simp[vH,Nat.beq_refl]
 | .nils=>rfl
 | .fn f a c=>by simp[vH,Nat.beq_refl,Qk a,Qk c]
 | .yield l=>by simp[vH,Nat.beq_refl]
 | .nilf=>rfl
 | .iface t v=>by simp[vH,Nat.beq_refl,QW v]
 | .nili=>rfl
 | .agg l=>by simp[vH,Qk l]
 | .tup l=>by simp[vH,Qk l]
 | .empt a=>by simp[vH]
 | .mapv _=>by simp[vH]
 | .tail b o o' i=>by simp[vH,Nat.beq_refl]
theorem Qk:∀l:List AV,Gm l l=true
 |[]=>rfl
 |a::r=>by simp[Gm,QW a,Qk r]
end
theorem qqL {b off:Nat} {x:AV} (hx:h.at b off=some x):zW (.ptr b off) none x h=true:=by
 unfold AH.at at hx;unfold zW;simp only
 split at hx
 ·rename_i hg;rw[hg];simp only[hx,QW]
 ·rename_i hg;rw[hg];simp only[hx,QW]
 ·cases hx
theorem qqU {b off n:Nat} {l:List AV} (hl:l.length=n) (h0:0<n) (H:∀i,i<n→h.at b (off+i)=l[i]?):zW (.ptr b off) (some n) (.agg l) h=true:=by
 subst hl;have:=Jg h0 H;unfold yv at this;unfold zW;simp only
 split at this
 ·simp only[this,QW]
 ·simp only[this,QW]
 ·cases this
theorem qwl {hb ha:AH} {b off nx:Nat} {x:AV} {K:R} {Q:AV→AH→Prop} (h1:hb.at b off=some x) (h2:ha.at b off=some x) (hlt:b<nx) (w:wp K Q):wp (Jz (.ptr b off) none x hb ha nx K) Q:=by unfold Jz;rw[qqL h1,qqL h2,show Kz (.ptr b off) nx=true from iY hlt];exact w
theorem qvI {hb ha:AH} {b off n nx:Nat} {l:List AV} {K:R} {Q:AV→AH→Prop} (hl:l.length=n) (h0:0<n) (h1:∀i,i<n→hb.at b (off+i)=l[i]?) (h2:∀i,i<n→ha.at b (off+i)=l[i]?) (hlt:b<nx) (w:wp K Q) :
  wp (Jz (.ptr b off) (some n) (.agg l) hb ha nx K) Q:=by
 unfold Jz;rw[qqU hl h0 h1,qqU hl h0 h2,show Kz (.ptr b off) nx=true from iY hlt];exact w
def LenV (v:AV) (n:Nat):Prop:=Qz v=some n∧∀s,v≠.str s
theorem Sl.lenV {D:Nat→Prop} {v:AV} (S:Sl D h sz n v xs):LenV v n:=by cases S<;>exact⟨rfl,λs hs=>by cases hs⟩
theorem yU {v:AV} {K:AV→R} {Q:AV→AH→Prop} (H:LenV v n) (w:wp (K (.int .i64 (n:Int))) Q):wp (kF v K) Q:=by obtain⟨h1,h2⟩:=H;cases v<;>simp only[Qz,reduceCtorEq,Option.some.injEq]at h1<;>subst h1<;>first |exact w |exact absurd rfl (h2 _)
theorem XG {α:Type} (enc:α→List AV) (he:∀a,(enc a).length=sz):∀l:List α,(l.flatMap enc).length=l.length*sz:=by
 intro l
 induction l with
 |nil=>simp
 |cons a l ih=>simp only[List.flatMap_cons,List.length_append,he,ih,List.length_cons,Nat.add_mul,Nat.one_mul];omega
theorem JZ {α:Type} (enc:α→List AV) (he:∀a,(enc a).length=sz):∀(l:List α) (i:Nat),(l.flatMap enc).drop (i*sz)=(l.drop i).flatMap enc:=by
 intro l
 induction l with
 |nil=>simp
 |cons a l ih=>
  intro i;cases i with
  |zero=>simp
  |succ i=>
   rw[List.flatMap_cons,List.drop_succ_cons,← ih i,Nat.add_mul,Nat.one_mul,Nat.add_comm,← List.drop_drop]
   congr 1
   rw[← he a,List.drop_left]
theorem Xf {α:Type} (enc:α→List AV) (he:∀a,(enc a).length=sz) (l:List α) (i j:Nat) (hj:j<sz):(l.flatMap enc)[i*sz+j]? =(l[i]?).bind λa=>(enc a)[j]?:=by
 rw[← List.getElem?_drop,JZ enc he];cases hl:l[i]? with
 |none=>rw[List.drop_eq_nil_of_le (List.getElem?_eq_none_iff.1 hl)];rfl
 |some a=>obtain⟨hi,e⟩:=List.getElem?_eq_some_iff.1 hl;rw[List.drop_eq_getElem_cons hi,List.flatMap_cons,List.getElem?_append_left (by rw[he];exact hj),e];rfl
theorem qz7 {α:Type} {Pr:α→Prop} (enc:α→List AV):∀{n:Nat} {xs:List AV},xs.length=n*sz→(∀i,i<n→∃a,Pr a∧(xs.drop (i*sz)).take sz=enc a)→
  ∃l:List α,l.length=n∧(∀a∈l,Pr a)∧xs=l.flatMap enc:=by
 intro n
 induction n with
 |zero=>intro xs hl _;exact⟨[],rfl,λa h=>(by cases h),iA (by simpa using hl)⟩
 |succ n ih=>
  intro xs hl H;obtain⟨a,ha,e⟩:=H 0 omQ;rw[Nat.zero_mul,List.drop_zero]at e;rw[Nat.add_mul,Nat.one_mul]at hl
  obtain⟨l,h1,h2,h3⟩:=ih (xs:=xs.drop sz) (by simp;omega) (λi hi=>by
   obtain⟨b,hb,e⟩:=H (i+1) omQ;refine⟨b,hb,?_⟩
   rw[List.drop_drop,← e,Nat.add_mul,Nat.one_mul,Nat.add_comm])
  refine⟨a::l,by simp[h1],λb hb=>?_,?_⟩
  ·rcases List.mem_cons.1 hb with rfl |hb
   ·exact ha
   ·exact h2 b hb
  ·rw[List.flatMap_cons,← e,← h3,List.take_append_drop]
theorem Ui {P:Program} {d:Nat} {t e:TypeId} {v:AV} (hu:P.underlying t=some (.slice e)) (hs:P.cellsOf e=sz) (hsz:0<sz) (H:WT P h (d+1) t [v]) :
  ∃n xs,Sl (λb=>b<h.nx) h sz n v xs∧n≤maxLen∧∀i,i<n→WT P h d e ((xs.drop (i*sz)).take sz):=by
 unfold WT at H;simp only[hu]at H;rcases H with h1 |⟨a,h1⟩ |h1 |⟨b,off,len,cap,h1,h2,h3,h4,⟨tt,h5⟩,h6⟩
 ·cases h1;exact⟨0,[],.nils,Nat.zero_le _,λi hi=>by omega⟩
 ·cases h1;exact⟨0,[],.empt a,Nat.zero_le _,λi hi=>by omega⟩
 ·omega
 ·cases h1;rw[hs]at h6;have key:∀k,k<len*sz→∃u,h.at b (off+k)=some u:=by
   intro k hk;have hm:=Nat.mod_lt k hsz;obtain⟨row,r1,r2,_⟩:=h6 (k/sz) ((Nat.div_lt_iff_lt_mul hsz).2 hk);have:=r2 (k%sz) hm;rw[iW omQ,Nat.add_assoc,Nat.mul_comm,Nat.div_add_mod]at this;exact⟨_,this⟩
  refine⟨len,(List.range (len*sz)).map λk=>(h.at b (off+k)).getD .undef,.mk h4 h4 (by unfold AH.rd;rw[h5];trivial) osQ ?_,by omega,?_⟩
  ·intro i hi;obtain⟨u,hu⟩:=key i hi;rw[List.getElem?_map,List.getElem?_range hi,Option.map_some,hu];rfl
  ·intro i hi;obtain⟨row,r1,r2,r3⟩:=h6 i hi;have hle:i*sz+sz≤len*sz:=by rw[← Nat.succ_mul];exact Nat.mul_le_mul_right sz hi
   have:(((List.range (len*sz)).map λk=>(h.at b (off+k)).getD .undef).drop (i*sz)).take sz=row:=by
    apply List.ext_getElem?;intro j;by_cases hj:j<sz
    ·rw[List.getElem?_take_of_lt hj,List.getElem?_drop,List.getElem?_map,List.getElem?_range omQ,Option.map_some,← Nat.add_assoc,r2 j hj,iW omQ];rfl
    ·rw[List.getElem?_eq_none (by simp;omega),List.getElem?_eq_none omQ]
   rw[this];exact r3
end Go.Ae
namespace Go.Ae
open Go
structure SP where
  p:(Nat→Prop)→AH→Prop
  loc:∀{D:Nat→Prop} {h h':AH},p D h→h.nx≤h'.nx→(∀b,D b→h'.get b=h.get b)→p D h'
def Big:List SP→(Nat→Prop)→AH→Prop
 |[],D,_=>∀b,¬D b
 |P::L,D,h=>∃D1 D2:Nat→Prop,(∀b,D b↔D1 b∨D2 b)∧(∀b,D1 b→¬D2 b)∧P.p D1 h∧Big L D2 h
theorem Big.loc {L:List SP}:∀{D:Nat→Prop} {h h':AH},Big L D h→h.nx≤h'.nx→(∀b,D b→h'.get b=h.get b)→Big L D h':=by
 induction L with
 |nil=>intro D h h' H _ _;exact H
 |cons P L ih=>intro D h h' ⟨D1,D2,e,d,p,r⟩ hn hg;exact⟨D1,D2,e,d,P.loc p hn λb hb=>hg b ((e b).2 (.inl hb)),ih r hn λb hb=>hg b ((e b).2 (.inr hb))⟩
structure HS (g h:AH) (L:List SP):Prop where
  old:Old g.nx g h
  own:∃D:Nat→Prop,(∀b,D b→g.nx≤b∧b<h.nx)∧Big L D h
variable {g h h':AH} {P P':SP} {L R:List SP}
theorem HS.nx (H:HS g h L):g.nx≤h.nx:=H.old.nx
theorem HS.act (H:HS g h (P::R)):∃D:Nat→Prop,P.p D h∧(∀b,D b→g.nx≤b∧b<h.nx)∧
  ∀(h':AH) (P':SP) (D':Nat→Prop),Fr D h h'→P'.p D' h'→(∀b,D' b→(D b∨h.nx≤b)∧b<h'.nx)→HS g h' (P'::R):=by
 obtain⟨ho,D0,hb,D1,D2,he,hd,p,r⟩:=H;refine⟨D1,p,λb h1=>hb b ((he b).2 (.inl h1)),λh' P' D' F p' hD'=>?_⟩;have hn:=ho.nx;refine⟨ho.step F λb h1=>(hb b ((he b).2 (.inl h1))).1,λb=>D' b∨D2 b,?_,D',D2,λb=>Iff.rfl,?_,p',?_⟩
 ·rintro b (h1 |h1)
  ·obtain⟨h2 |h2,h3⟩:=hD' b h1
   ·exact⟨(hb b ((he b).2 (.inl h2))).1,h3⟩
   ·exact⟨by omega,h3⟩
  ·have:=hb b ((he b).2 (.inr h1));have h4:=F.nx;exact⟨this.1,by omega⟩
 ·intro b h1 h2;obtain⟨h3 |h3,_⟩:=hD' b h1
  ·exact hd b h3 h2
  ·have:=hb b ((he b).2 (.inr h2));omega
 ·exact r.loc F.nx λb h2=>F.get b (hb b ((he b).2 (.inr h2))).2 λh1=>hd b h1 h2
inductive Sel:List SP→SP→List SP→Prop
  |here {P:SP} {R:List SP}:Sel (P::R) P R
  |there {Q P:SP} {L R:List SP} (s:Sel L P R):Sel (Q::L) P (Q::R)
theorem Sel.big (s:Sel L P R):∀{D:Nat→Prop} {h:AH},Big L D h→∃D1 D2:Nat→Prop,(∀b,D b↔D1 b∨D2 b)∧(∀b,D1 b→¬D2 b)∧P.p D1 h∧Big R D2 h:=by
 induction s with
 |here=>exact λH=>H
 |there s ih=>
  rintro D h ⟨D1,D2,e,d,q,r⟩;obtain⟨E1,E2,e',d',p,r'⟩:=ih r;refine⟨E1,λb=>D1 b∨E2 b,λb=>?_,λb h1 h2=>?_,p,D1,E2,λb=>Iff.rfl,λb h1 h2=>d b h1 ((e' b).2 (.inr h2)),q,r'⟩
  ·rw[e,e'];constructor
   ·rintro(h1 |h1 |h1)
    ·exact .inr (.inl h1)
    ·exact .inl h1
    ·exact .inr (.inr h1)
   ·rintro(h1 |h1 |h1)
    ·exact .inr (.inl h1)
    ·exact .inl h1
    ·exact .inr (.inr h1)
  ·rcases h2 with h2 |h2
   ·exact d b h2 ((e' b).2 (.inl h1))
   ·exact d' b h1 h2
theorem HS.sel (H:HS g h L) (s:Sel L P R):HS g h (P::R):=⟨H.old,H.own.imp λ_ h1=>⟨h1.1,s.big h1.2⟩⟩
theorem Sel.gib (s:Sel L P R):∀{D1 D2:Nat→Prop} {h:AH},(∀b,D1 b→¬D2 b)→P.p D1 h→Big R D2 h→Big L (λb=>D1 b∨D2 b) h:=by
 induction s with
 |here=>exact λ{D1 D2 h} d p r=>⟨D1,D2,λ_=>Iff.rfl,d,p,r⟩
 |there s ih=>
  rintro D1 D2 h d p ⟨E1,E2,e,d',q,r⟩;refine⟨E1,λb=>D1 b∨E2 b,λb=>?_,λb h1 h2=>?_,q,ih (λb h1 h2=>d b h1 ((e b).2 (.inr h2))) p r⟩
  ·simp only[e];constructor
   ·rintro(h1 |h1 |h1)
    ·exact .inr (.inl h1)
    ·exact .inl h1
    ·exact .inr (.inr h1)
   ·rintro(h1 |h1 |h1)
    ·exact .inr (.inl h1)
    ·exact .inl h1
    ·exact .inr (.inr h1)
  ·rcases h2 with h2 |h2
   ·exact d b h2 ((e b).2 (.inl h1))
   ·exact d' b h1 h2
theorem HS.unsel (s:Sel L P R) (H:HS g h (P::R)):HS g h L:=by obtain⟨ho,D,hb,D1,D2,e,d,p,r⟩:=H;refine⟨ho,λb=>D1 b∨D2 b,λb h1=>hb b ((e b).2 h1),s.gib d p r⟩
theorem HS.drop (H:HS g h (P::R)):HS g h R:=by obtain⟨ho,D,hb,D1,D2,e,d,p,r⟩:=H;exact⟨ho,D2,λb h2=>hb b ((e b).2 (.inr h2)),r⟩
theorem Sel.skip (A:List SP) (s:Sel L P R):Sel (A++L) P (A++R):=by
 induction A with
 |nil=>exact s
 |cons Q A ih=>exact .there ih
theorem HS.back {A:List SP} (H:HS g h (P::(A++R))):HS g h (A++P::R):=HS.unsel (Sel.skip A .here) H
inductive Sub:List SP→List SP→Prop
  |refl {L:List SP}:Sub L L
  |cons {L L1 L':List SP} {P:SP} (s:Sel L P L1) (t:Sub L1 L'):Sub L (P::L')
  |drop {Q:SP} {L L':List SP} (t:Sub L L'):Sub (Q::L) L'
theorem Sub.big {L L':List SP} (t:Sub L L'):∀{D:Nat→Prop} {h:AH},Big L D h→∃D':Nat→Prop,(∀b,D' b→D b)∧Big L' D' h:=by
 induction t with
 |refl=>exact λ{D h} H=>⟨D,λ_ h=>h,H⟩
 |cons s t ih=>intro D h H;obtain⟨D1,D2,e,d,p,r⟩:=s.big H;obtain⟨D',h1,h2⟩:=ih r;exact⟨λb=>D1 b∨D' b,λb hb=>(e b).2 (hb.imp id (h1 b)),D1,D',λ_=>Iff.rfl,λb hb h3=>d b hb (h1 b h3),p,h2⟩
 |drop t ih=>intro D h ⟨D1,D2,e,d,p,r⟩;obtain⟨D',h1,h2⟩:=ih r;exact⟨D',λb hb=>(e b).2 (.inr (h1 b hb)),h2⟩
theorem HS.sub {L L':List SP} (H:HS g h L) (t:Sub L L'):HS g h L':=by obtain⟨ho,D,hb,r⟩:=H;obtain⟨D',h1,h2⟩:=t.big r;exact⟨ho,D',λb h=>hb b (h1 b h),h2⟩
def pkS:Nat→List SP→Option (SP×List SP)
 | 0,P::L=>some (P,L)
 |i+1,P::L=>match pkS i L with
  |some x=>some (x.1,P::x.2)
  |none=>none
 |_,[]=>none
def pkD:Nat→List SP→List SP
 | 0,L=>L
 |k+1,_::L=>pkD k L
 |_+1,[]=>[]
def pkL:List Nat→Nat→List SP→List SP
 |[],k,L=>pkD k L
 |i::is,k,L=>match pkS i L with
  |some x=>x.1::pkL is k x.2
  |none=>L
theorem qy8:∀{i:Nat} {L:List SP} {x:SP×List SP},pkS i L=some x→Sel L x.1 x.2:=by
 intro i
 induction i with
 |zero=>
  intro L x h;cases L with
  |nil=>cases h
  |cons P L=>cases h;exact .here
 |succ i ih=>
  intro L x h;cases L with
  |nil=>cases h
  |cons P L=>
   unfold pkS at h
   split at h
   ·rename_i y hy;cases h;exact .there (ih hy)
   ·cases h
theorem Sub.pkD:∀(k:Nat) (L:List SP),Sub L (pkD k L)
 | 0,_=>.refl
 |k+1,_::L=>.drop (Sub.pkD k L)
 |_+1,[]=>.refl
theorem Sub.pk:∀(is:List Nat) (k:Nat) (L:List SP),Sub L (pkL is k L)
 |[],k,L=>Sub.pkD k L
 |i::is,k,L=>by
  unfold pkL
  split
  ·rename_i x hx;exact .cons (qy8 hx) (Sub.pk is k x.2)
  ·exact .refl
theorem HS.pk {L:List SP} (H:HS g h L) (is:List Nat) (k:Nat):HS g h (pkL is k L):=H.sub (Sub.pk is k L)
def SP.emp:SP:=⟨λD _=>∀b,¬D b,λH _ _=>H⟩
def SP.pur (φ:Prop):SP:=⟨λD _=>(∀b,¬D b)∧φ,λH _ _=>H⟩
def SP.ex {α:Type} (f:α→SP):SP:=⟨λD h=>∃a,(f a).p D h,λ⟨a,H⟩ h1 h2=>⟨a,(f a).loc H h1 h2⟩⟩
def SP.all (A:List SP):SP:=⟨Big A,λH h1 h2=>H.loc h1 h2⟩
theorem HS.put (H:HS g h R) (hp:P.p (λ_=>False) h):HS g h (P::R):=by obtain⟨ho,D,hb,r⟩:=H;exact⟨ho,D,hb,λ_=>False,D,λb=>⟨.inr,λh=>h.elim False.elim id⟩,λ_ h=>h.elim,hp,r⟩
theorem HS.exE {α:Type} {f:α→SP} (H:HS g h (.ex f::R)):∃a,HS g h (f a::R):=by obtain⟨ho,D,hb,D1,D2,e,d,⟨a,p⟩,r⟩:=H;exact⟨a,ho,D,hb,D1,D2,e,d,p,r⟩
theorem HS.exI {α:Type} {f:α→SP} (a:α) (H:HS g h (f a::R)):HS g h (.ex f::R):=by obtain⟨ho,D,hb,D1,D2,e,d,p,r⟩:=H;exact⟨ho,D,hb,D1,D2,e,d,⟨a,p⟩,r⟩
theorem HS.purE {φ:Prop} (H:HS g h (.pur φ::R)):φ∧HS g h R:=by refine⟨?_,H.drop⟩;obtain⟨ho,D,hb,D1,D2,e,d,p,r⟩:=H;exact p.2
theorem HS.purI {φ:Prop} (hφ:φ) (H:HS g h R):HS g h (.pur φ::R):=H.put ⟨λ_ h=>h,hφ⟩
theorem qyF {A:List SP}:∀{D1 D2:Nat→Prop} {h:AH},(∀b,D1 b→¬D2 b)→Big A D1 h→Big R D2 h→Big (A++R) (λb=>D1 b∨D2 b) h:=by
 induction A with
 |nil=>intro D1 D2 h _ H1 H2;rw[List.nil_append,show(λb=>D1 b∨D2 b)=D2 from funext λb=>propext ⟨λh=>h.elim (λh=>(H1 b h).elim) id,.inr⟩];exact H2
 |cons P A ih=>
  rintro D1 D2 h hd ⟨E1,E2,e,d,p,r⟩ H2;refine⟨E1,λb=>E2 b∨D2 b,λb=>?_,λb h1 h2=>?_,p,ih (λb h1=>hd b ((e b).2 (.inr h1))) r H2⟩
  ·simp only[e,or_assoc]
  ·rcases h2 with h2 |h2
   ·exact d b h1 h2
   ·exact hd b ((e b).2 (.inl h1)) h2
theorem qvf {A:List SP}:∀{D:Nat→Prop} {h:AH},Big (A++R) D h→∃D1 D2:Nat→Prop,(∀b,D b↔D1 b∨D2 b)∧(∀b,D1 b→¬D2 b)∧Big A D1 h∧Big R D2 h:=by
 induction A with
 |nil=>intro D h H;exact⟨λ_=>False,D,λb=>⟨.inr,λh=>h.elim False.elim id⟩,λ_ h=>h.elim,λ_ h=>h,H⟩
 |cons P A ih=>
  rintro D h ⟨E1,E2,e,d,p,r⟩;obtain⟨F1,F2,f,d',r1,r2⟩:=ih r;refine⟨λb=>E1 b∨F1 b,F2,λb=>?_,λb h1 h2=>?_,⟨E1,F1,λb=>Iff.rfl,λb h1 h2=>d b h1 ((f b).2 (.inl h2)),p,r1⟩,r2⟩
  ·rw[e,f,or_assoc]
  ·rcases h1 with h1 |h1
   ·exact d b h1 ((f b).2 (.inr h2))
   ·exact d' b h1 h2
theorem HS.allE {A:List SP} (H:HS g h (.all A::R)):HS g h (A++R):=by obtain⟨ho,D,hb,D1,D2,e,d,p,r⟩:=H;refine⟨ho,D,hb,?_⟩;rw[show D=(λb=>D1 b∨D2 b)from funext λb=>propext (e b)];exact qyF d p r
theorem HS.allI {A:List SP} (H:HS g h (A++R)):HS g h (.all A::R):=by obtain⟨ho,D,hb,r⟩:=H;exact⟨ho,D,hb,qvf r⟩
theorem HS.nil (g:AH):HS g g []:=⟨Old.refl _ _,λ_=>False,λ_ h=>h.elim,λ_ h=>h⟩
theorem HS.add {D':Nat→Prop} (H:HS g h R) (F:Old h.nx h h') (p:P.p D' h') (hD:∀b,D' b→h.nx≤b∧b<h'.nx):HS g h' (P::R):=by
 obtain⟨D,_,hb,k⟩:=(H.put (P:=.emp) λ_ h=>h).act;obtain⟨ho,D0,hb0,r⟩:=H;have hn:=ho.nx;refine⟨⟨Nat.le_trans hn F.nx,λb h1 h2=>(F.get b omQ omQ).trans (ho.get b h1 h2)⟩,λb=>D' b∨D0 b,?_,D',D0,λb=>Iff.rfl,?_,p,r.loc F.nx λb h1=>F.get b (hb0 b h1).2 (by have:=hb0 b h1;omega)⟩
 ·have:=F.nx;rintro b (h1 |h1)
  ·have:=hD b h1;exact⟨by omega,this.2⟩
  ·have:=hb0 b h1;exact⟨this.1,by omega⟩
 ·intro b h1 h2;have:=hD b h1;have:=hb0 b h2;omega
theorem HS.keep (H:HS g h R) (F:Old h.nx h h'):HS g h' R:=(H.add (P:=.emp) (D':=λ_=>False) F (λ_ h=>h) λ_ h=>h.elim).drop
theorem Fr.none (F:Fr (λ_=>False) h h'):Old h.nx h h':=F.mono λ_ _ h=>h.elim
variable {b off n m sz:Nat} {xs ys l:List AV} {e:TypeId} {o:Bool} {x v:AV} {k:IntKind} {Q:AV→AH→Prop} {i:Nat}
def Cell (b:Nat) (xs:List AV) (e:TypeId) (o:Bool):SP:=⟨λD h=>(∀a,D a↔a=b)∧Row h b xs e o,λ{D h h'} H h1 h2=>⟨H.1,Nat.lt_of_lt_of_le H.2.lt h1,by rw[h2 b ((H.1 b).2 rfl)];exact H.2.blk⟩⟩
def qw (b:Nat) (xs:List AV):SP:=⟨λD h=>(∀a,D a↔a=b)∧∃e,Row h b xs e false,λ{D h h'} H h1 h2=>⟨H.1,H.2.imp λ_ A=>⟨Nat.lt_of_lt_of_le A.lt h1,by rw[h2 b ((H.1 b).2 rfl)];exact A.blk⟩⟩⟩
def kl (b:Nat) (x:Blk):SP:=⟨λD h=>(∀a,D a↔a=b)∧b<h.nx∧h.get b=some x,λ{D h h'} H h1 h2=>⟨H.1,by have:=H.2.1;omega,by rw[h2 b ((H.1 b).2 rfl)];exact H.2.2⟩⟩
def qy (e:TypeId) (sz n:Nat) (v:AV) (xs:List AV):SP :=
  ⟨λD h=>xs.length=n*sz∧((v=.nils∧n=0∧∀b,¬D b)∨∃b cp o ys,v=.slice b 0 n cp o∧(∀a,D a↔a=b)∧Row h b ys e o∧n*sz≤ys.length∧ys.take (n*sz)=xs∧(if o=true then cp=0 else ys.length=cp*sz∧n≤cp)),
   λ{D h h'} H h1 h2=>⟨H.1,H.2.imp id λ⟨b,cp,o,ys,q1,q2,q3,q4⟩=>⟨b,cp,o,ys,q1,q2,⟨Nat.lt_of_lt_of_le q3.lt h1,by rw[h2 b ((q2 b).2 rfl)];exact q3.blk⟩,q4⟩⟩⟩
theorem HS.p (H:HS g h L) (s:Sel L P R):∃D,P.p D h:=by obtain⟨D,p,_⟩:=(H.sel s).act;exact⟨D,p⟩
theorem HS.obj (H:HS g h L) (s:Sel L (qw b xs) R):∃e,Row h b xs e false:=by obtain⟨D,_,p⟩:=H.p s;exact p
theorem HS.sl (H:HS g h L) (s:Sel L (qy e sz n v xs) R):Sl (λ_=>True) h sz n v xs:=by
 obtain⟨D,h1,⟨rfl,rfl,_⟩ |⟨b,cp,o,ys,rfl,_,A,h2,h3,_⟩⟩:=H.p s
 ·obtain rfl:xs=[]:=iA (by simpa using h1);exact .nils
 ·exact .mk trivial A.lt A.rd h1 λi hi=>by rw[A.at,Nat.zero_add,← h3,List.getElem?_take_of_lt hi]
theorem HS.sl_len (H:HS g h L) (s:Sel L (qy e sz n v xs) R):xs.length=n*sz:=(H.sl s).len
def One (v:AV):Prop:=v.cells=[v]∧v.one=true
theorem HS.one (H:HS g h L) (s:Sel L (qy e sz n v xs) R):One v:=by obtain⟨D,h1,⟨rfl,rfl,_⟩ |⟨b,cp,o,ys,rfl,_⟩⟩:=H.p s<;>exact⟨rfl,rfl⟩
variable {K:AV→Go.Ae.R} {K2:AV→AH→Go.Ae.R} {K1:AH→Go.Ae.R}
theorem qX (H:HS g h L) (s:Sel L (qw b xs) R) (hx:xs[off]? =some x) (w:wp (K x) Q):wp (jN h (.ptr b off) K) Q:=by obtain⟨e,A⟩:=H.obj s;exact JB ((A.at _).trans hx) w
theorem HS.lt (H:HS g h L) (s:Sel L (qw b xs) R):b<h.nx:=by obtain⟨e,A⟩:=H.obj s;exact A.lt
theorem qd {g' ha:AH} {L2 R2:List SP} {nx:Nat} {K0:Go.Ae.R} (H:HS g h L) (s:Sel L (qw b xs) R) (hx:xs[off]? =some x) (H2:HS g' ha L2) (s2:Sel L2 (qw b ys) R2) (hx2:ys[off]? =some x) (hlt:b<nx) (w:wp K0 Q):wp (Jz (.ptr b off) none x h ha nx K0) Q:=by obtain⟨e,A⟩:=H.obj s;obtain⟨e2,A2⟩:=H2.obj s2;exact qwl ((A.at _).trans hx) ((A2.at _).trans hx2) hlt w
theorem qF (H:HS g h L) (s:Sel L (qw b xs) R) (hl:l.length=n) (hn:0<n) (hx:(xs.drop off).take n=l) (w:wp (K (.agg l)) Q):wp (zO h (.ptr b off) n K) Q:=by obtain⟨e,A⟩:=H.obj s;exact qQb hl hn (λi hi=>by rw[A.at,← hx,List.getElem?_take_of_lt hi,List.getElem?_drop]) w
theorem qf (H:HS g h L) (s:Sel L (qw b xs) R) (hc:x.cells.length=n) (ho:off+n≤xs.length) (h1:qp x.cells=true) (w:∀h',HS g h' (qw b (kA xs off x.cells)::R)→wp (K1 h') Q):wp (jd h (.ptr b off) x n K1) Q:=by obtain⟨D,⟨hD,e,A⟩,hb,k⟩:=(H.sel s).act;refine Kq A hc ho h1 λh' A' F hx=>w h' (k h' _ D (F.mono λa _ ha=>(hD a).2 ha) ⟨hD,e,A'⟩ λa ha=>⟨.inl ha,?_⟩);have:=(hb a ha).2;omega
theorem qA (H:HS g h L) (s:Sel L (qw b xs) R) (h1:One x) (ho:off<xs.length) (w:∀h',HS g h' (qw b (xs.set off x)::R)→wp (K1 h') Q):wp (jd h (.ptr b off) x 1 K1) Q:=by refine qf H s (by rw[h1.1];rfl) omQ (by rw[h1.1];simp[qp,h1.2]) λh' H'=>w h' ?_;rw[h1.1,Xc ho]at H';exact H'
theorem qQ {f:Nat} (w:wp (K (.ptr b f)) Q):wp (qt (.ptr b 0) f K) Q:=qn (by rw[Nat.zero_add];exact w)
theorem HS.newBlk (H:HS g h L) (x:Blk):HS g (h.new x) (kl h.nx x::L) :=
 H.add (D':=λa=>a=h.nx) ⟨by simp,λa _ h2=>AH.get_new_ne h _ omQ⟩ ⟨λa=>Iff.rfl,by simp,AH.get_new_same ..⟩ (by rintro a rfl;simp)
theorem HS.putBlk {x y:Blk} (H:HS g h L) (s:Sel L (kl b x) R):HS g (h.put b y) (kl b y::R):=by obtain⟨D,⟨hD,hb,_⟩,hb2,k⟩:=(H.sel s).act;exact k _ _ D ⟨Nat.le_refl _,λa _ hn=>AH.get_put_ne h _ λe=>hn ((hD a).2 e.symm)⟩ ⟨hD,hb,AH.get_put_same ..⟩ λa ha=>⟨.inl ha,(hb2 a ha).2⟩
theorem HS.blk {x:Blk} (H:HS g h L) (s:Sel L (kl b x) R):h.get b=some x:=by obtain⟨D,_,_,p⟩:=H.p s;exact p
theorem qVH (H:HS g h L) (h1:qp x.cells=true) (w:∀b h',HS g h' (qw b x.cells::L)→wp (K2 (.ptr b 0) h') Q):wp (gi h e x K2) Q:=by refine qqo h1 λb h' hb A F=>w b h' (H.add (D':=λa=>a=b) F.none ⟨λa=>Iff.rfl,e,A⟩ ?_);rintro a rfl;exact⟨hb,A.lt⟩
theorem qP (H:HS g h L) (h1:qp l=true) (w:∀b h',HS g h' (qw b l::L)→wp (K2 (.ptr b 0) h') Q):wp (gi h e (.agg l) K2) Q:=qVH (x:=.agg l) H h1 w
theorem Yq (H:HS g h L) (h1:One x) (w:∀b h',HS g h' (qw b [x]::L)→wp (K2 (.ptr b 0) h') Q):wp (gi h e x K2) Q :=
 qVH H (by rw[h1.1];simp[qp,h1.2]) (by rw[h1.1];exact w)
theorem Gb {z:List AV} {ln cp:Nat} {k1 k2:IntKind} (H:HS g h L) (hz:z.length=sz) (h1:ln≤cp) (h2:cp≤1073741824)
  (w:∀v h',HS g h' (qy e sz ln v ((vE z cp).take (ln*sz))::L)→wp (K2 v h') Q):wp (Qv h e z (.int k1 (ln:Int)) (.int k2 (cp:Int)) K2) Q:=by
 refine ZA h1 h2 λb h' hb A F=>w _ h' (H.add (D':=λa=>a=b) F.none ⟨?_,.inr ⟨b,cp,false,_,rfl,λa=>Iff.rfl,A,?_,rfl,?_⟩⟩ ?_)
 ·have:=Nat.mul_le_mul_right sz h1;rw[List.length_take,kH,hz];omega
 ·rw[kH,hz];exact Nat.mul_le_mul_right sz h1
 ·rw[iQ osQ];exact⟨by rw[kH,hz],h1⟩
 ·rintro a rfl;exact⟨hb,A.lt⟩
theorem Xe {z:AV} {k1 k2:IntKind} (H:HS g h L) (h2:n≤1073741824)
  (w:∀v h',HS g h' (qy e 1 n v (List.replicate n z)::L)→wp (K2 v h') Q):wp (Qv h e [z] (.int k1 (n:Int)) (.int k2 (n:Int)) K2) Q:=by
 refine Gb (sz:=1) H rfl (Nat.le_refl _) h2 λv h' H'=>w v h' ?_;rw[VW,Nat.mul_one,List.take_of_length_le osQ]at H';exact H'
theorem qh {z:List AV} {vs:List (Nat×Nat×AV)} (H:HS g h L) (_:z.length=sz) (hl:l.length=n*sz) (hf:yM (vE z n) vs=some l) (h1:qp l=true)
  (w:∀v h',HS g h' (qy e sz n v l::L)→wp (K2 v h') Q):wp (xX h e z n vs K2) Q:=by
 refine qGo hf h1 λb h' hb A F=>w _ h' (H.add (D':=λa=>a=b) F.none ⟨hl,.inr ⟨b,n,false,_,rfl,λa=>Iff.rfl,A,by omega,by rw[← hl,List.take_length],?_⟩⟩ ?_)
 ·rw[iQ osQ];exact⟨hl,Nat.le_refl _⟩
 ·rintro a rfl;exact⟨hb,A.lt⟩
theorem HS.nils (H:HS g h L):HS g h (qy e sz 0 .nils []::L):=H.put ⟨by simp,.inl ⟨rfl,rfl,λ_ h=>h⟩⟩
theorem Vh (A:Row h b xs e o) (ho:off+n≤xs.length):yv h b off n=some ((xs.drop off).take n):=by
 by_cases h0:n=0
 ·subst h0;obtain⟨c,c1,c2,c3⟩:=A.blk;unfold yv;rw[c1,List.take_zero];cases c<;>rfl
 ·have hl:((xs.drop off).take n).length=n:=by simp;omega
  have:=Jg (h:=h) (b:=b) (off:=off) (l:=(xs.drop off).take n) omQ (λi hi=>by rw[A.at,List.getElem?_take_of_lt omQ,List.getElem?_drop])
  rwa [hl]at this
theorem qGe (ho:off+ys.length≤xs.length):(kA xs off ys).take (off+ys.length)=xs.take off++ys:=by
 unfold kA;have:(xs.take off++ys).length=off+ys.length:=by simp;omega
 rw[← this,List.take_left]
theorem jf {D':Nat→Prop} (H:HS g h (qy e sz n v xs::R)) (S:Sl D' h sz m x ys) (hsz:0<sz) (hlim:n+m≤67108864) (h1:qp ys=true)
  (w:∀v' h',HS g h' (qy e sz (n+m) v' (xs++ys)::R)→wp (K2 v' h') Q):wp (xx h e sz v x K2) Q:=by
 obtain⟨nc,g1,g2,g3⟩:=qYN S;have hyl:=S.len;unfold xx;simp only[qJ4 S,g1,ob];rw[CT.len_eq,g2,hyl,Nat.beq_refl,cond_true];by_cases h0:m=0
 ·subst h0;obtain rfl:ys=[]:=iA (by simpa using hyl);have wH:=w v h (by rw[Nat.add_zero,List.append_nil];exact H);obtain⟨D,⟨hl,⟨rfl,rfl,hD⟩ |⟨b,cp,o,zs,rfl,hD,A,q1,q2,q3⟩⟩,hb,k⟩:=H.act
  ·exact wH
  ·unfold yc;cases o with
   |false=>rw[iQ osQ]at q3;simp only;rw[iY (show n+0≤cp from q3.2),cond_true,show Nat.beq 0 0=true from rfl,cond_true];exact wH
   |true=>
    rw[iJ rfl]at q3;subst q3;obtain⟨c,c1,c2,c3⟩:=A.blk;simp only[c1];have hcl:c.len=zs.length:=by rw[CT.len_eq,c2]
    rw[hcl];have hcond:(Nat.ble 1 sz&&(Nat.beq 0 (0*sz)&&(Nat.beq e e&&Nat.ble (0+n*sz) zs.length)))=true:=by simp only[Bool.and_eq_true];exact⟨iY hsz,by rw[Nat.zero_mul];rfl,Nat.beq_refl _,iY omQ⟩
    rw[hcond,cond_true,show Nat.beq 0 0=true from rfl,cond_true];exact wH
 ·have hm0:Nat.beq m 0=false:=xR h0;have hmul:(n+m)*sz=n*sz+m*sz:=Nat.add_mul ..;have hmp:0<m*sz:=Nat.mul_pos omQ hsz;have hns:h.nx<(h.new (.cells nc e true)).nx:=by simp
  obtain⟨D,⟨hl,⟨rfl,rfl,hD⟩ |⟨b,cp,o,zs,rfl,hD,A,q1,q2,q3⟩⟩,hb,k⟩:=H.act
  ·obtain rfl:xs=[]:=iA (by simpa using hl);unfold yc;simp only;rw[hm0,cond_false,iY omQ,cond_true];obtain⟨b1,b2⟩:=Row.new (h:=h) (e:=e) (o:=true) g3;rw[g2]at b1;refine w _ _ (k _ _ (λa=>a=h.nx) (b2.mono λ_ _ hf=>hf.elim) ⟨by simp[hyl],.inr ⟨h.nx,0,true,ys,by rw[Nat.zero_add],λ_=>Iff.rfl,b1,by omega,?_,by rw[iJ rfl]⟩⟩ ?_)
   ·rw[List.nil_append,Nat.zero_add,← hyl,List.take_length]
   ·rintro a rfl;exact⟨.inr (Nat.le_refl _),hns⟩
  ·have hbn:=A.lt;have inplace:∀cp',(n+m)*sz≤zs.length→(if o=true then cp'=0 else zs.length=cp'*sz∧n+m≤cp')→
     wp (ob (gV h b (0+n*sz) nc.toList) λh'=>K2 (.slice b 0 (n+m) cp' o) h') Q:=by
    intro cp' hz hcp;obtain⟨h',f1,f2,f3,f4⟩:=Xa (ys:=nc.toList) (off:=0+n*sz) A (by rw[g2];omega) (by rw[g2];exact h1);simp only[f1,ob];rw[g2,Nat.zero_add]at f2;refine w _ _ (k h' _ D (f3.mono λa _ ha=>(hD a).2 ha) ⟨by simp[hl,hyl,hmul],.inr ⟨b,cp',o,_,rfl,hD,f2,?_,?_,?_⟩⟩ λa ha=>⟨.inl ha,by have:=hb a ha;omega⟩)
    ·rw[G7 omQ];exact hz
    ·rw[hmul,← hyl,qGe omQ,q2]
    ·rw[G7 omQ];exact hcp
   unfold yc;cases o with
   |false=>
    rw[iQ osQ]at q3;simp only;by_cases hc:n+m≤cp
    ·rw[iY hc,cond_true,hm0,cond_false];exact inplace cp (by rw[q3.1];exact Nat.mul_le_mul_right sz hc) (by rw[iQ osQ];exact⟨q3.1,hc⟩)
    ·rw[show Nat.ble (n+m) cp=false by
      cases hb:Nat.ble (n+m) cp
      ·rfl
      ·exact absurd (ga hb) hc,cond_false,iY hlim,cond_true]
     rw[Vh A (show 0+n*sz≤zs.length by omega),List.drop_zero,q2];simp only[ob];have key:∀c:CT,c.toList=xs++ys→c.full→wp (K2 (.slice h.nx 0 (n+m) 0 true) (h.new (.cells c e true))) Q:=by
      intro c d1 d2;obtain⟨b1,b2⟩:=Row.new (h:=h) (e:=e) (o:=true) d2;rw[d1]at b1;refine w _ _ (k _ _ (λa=>a=h.nx) (b2.mono λ_ _ hf=>hf.elim) ⟨by simp[hl,hyl,hmul],.inr ⟨h.nx,0,true,xs++ys,rfl,λ_=>Iff.rfl,b1,by simp[hl,hyl,hmul],?_,by rw[iJ rfl]⟩⟩ ?_)
      ·rw[List.take_of_length_le (by simp[hl,hyl,hmul])]
      ·rintro a rfl;exact⟨.inr (Nat.le_refl _),by simp⟩
     by_cases hn0:n=0
     ·subst hn0;rw[show Nat.beq 0 0=true from rfl,cond_true];obtain rfl:xs=[]:=iA (by simpa using hl);exact key nc (by rw[g2,List.nil_append]) g3
     ·rw[show Nat.beq n 0=false from xR hn0,cond_false];exact key _ (by rw[CT.ofList_ok,g2]) (CT.full_ofList _)
   |true=>
    rw[iJ rfl]at q3;subst q3;obtain⟨c,c1,c2,c3⟩:=A.blk;simp only[c1];have hcl:c.len=zs.length:=by rw[CT.len_eq,c2]
    rw[hcl];have hcond:(Nat.ble 1 sz&&(Nat.beq 0 (0*sz)&&(Nat.beq e e&&Nat.ble (0+n*sz) zs.length)))=true:=by simp only[Bool.and_eq_true];exact⟨iY hsz,by rw[Nat.zero_mul];rfl,Nat.beq_refl _,iY omQ⟩
    rw[hcond,cond_true,hm0,cond_false];by_cases hc:0+(n+m)*sz≤zs.length
    ·rw[iY hc,cond_true];exact inplace 0 omQ (by rw[iJ rfl])
    ·rw[show Nat.ble (0+(n+m)*sz) zs.length=false by
      cases hb:Nat.ble (0+(n+m)*sz) zs.length
      ·rfl
      ·exact absurd (ga hb) hc,cond_false]
     have hc2:(Nat.beq 0 0&&(Nat.ble (n+m) 67108864&&qp nc.toList))=true:=by rw[g2,h1,iY hlim];rfl
     rw[hc2,cond_true];obtain⟨c',p1,p2,p3⟩:=CT.pre_full (c:=c) c3 (n:=n*sz) (by rw[c2];exact q1);simp only[p1];have hcl2:(c'.app nc.toList).toList=xs++ys:=by rw[CT.app_ok,p2,c2,g2,q2]
     refine w _ _ (k _ _ (λa=>a=h.nx) ⟨by simp,λa ha hn=>?_⟩ ⟨by simp[hl,hyl,hmul],.inr ⟨(h.put b .dead).nx,0,true,xs++ys,rfl,λ_=>Iff.rfl,⟨by simp,c'.app nc.toList,AH.get_new_same (h.put b .dead) _,hcl2,CT.full_app p3 _⟩,by simp[hl,hyl,hmul],?_,by rw[iJ rfl]⟩⟩ ?_)
     ·rw[AH.get_new_ne _ _ (by simp;omega),AH.get_put_ne h _ (λhab:b=a=>hn ((hD a).2 hab.symm))]
     ·rw[List.take_of_length_le (by simp[hl,hyl,hmul])]
     ·rintro a rfl;exact⟨.inr osQ,by simp⟩
theorem HS.slE (H:HS g h (qy e sz n v xs::R)) (hn:0<n):∃b cp o ys,v=.slice b 0 n cp o∧HS g h (Cell b ys e o::R)∧n*sz≤ys.length∧ys.take (n*sz)=xs∧(if o=true then cp=0 else ys.length=cp*sz∧n≤cp):=by
 obtain⟨D,⟨hl,⟨rfl,rfl,hD⟩ |⟨b,cp,o,zs,rfl,hD,A,q1,q2,q3⟩⟩,hb,k⟩:=H.act
 ·omega
 ·exact⟨b,cp,o,zs,rfl,k h _ D (Fr.refl _ _) ⟨hD,A⟩ λa ha=>⟨.inl ha,(hb a ha).2⟩,q1,q2,q3⟩
theorem HS.slI {cp:Nat} (H:HS g h (Cell b ys e o::R)) (h1:n*sz≤ys.length) (h2:if o=true then cp=0 else ys.length=cp*sz∧n≤cp):HS g h (qy e sz n (.slice b 0 n cp o) (ys.take (n*sz))::R):=by obtain⟨D,⟨hD,A⟩,hb,k⟩:=H.act;exact k h _ D (Fr.refl _ _) ⟨by simp;omega,.inr ⟨b,cp,o,ys,rfl,hD,A,h1,rfl,h2⟩⟩ λa ha=>⟨.inl ha,(hb a ha).2⟩
theorem qzA (H:HS g h (Cell b xs e o::R)) (hc:x.cells.length=n) (ho:off+n≤xs.length) (h1:qp x.cells=true) (w:∀h',HS g h' (Cell b (kA xs off x.cells) e o::R)→wp (K1 h') Q):wp (jd h (.ptr b off) x n K1) Q:=by obtain⟨D,⟨hD,A⟩,hb,k⟩:=H.act;refine Kq A hc ho h1 λh' A' F hx=>w h' (k h' _ D (F.mono λa _ ha=>(hD a).2 ha) ⟨hD,A'⟩ λa ha=>⟨.inl ha,?_⟩);have:=(hb a ha).2;omega
theorem slSt {j:Nat} (H:HS g h (qy e sz n v xs::R)) (hi:i<n) (hj:j+m≤sz) (hc:x.cells.length=m) (h1:qp x.cells=true) (w:∀h',HS g h' (qy e sz n v (kA xs (i*sz+j) x.cells)::R)→wp (K1 h') Q) :
  ∃b cp o,v=.slice b 0 n cp o∧wp (jd h (.ptr b (0+i*sz+j)) x m K1) Q:=by
 obtain⟨b,cp,o,ys,rfl,H',q1,q2,q3⟩:=H.slE omQ;have hle:i*sz+sz≤n*sz:=by rw[← Nat.succ_mul];exact Nat.mul_le_mul_right sz hi
 refine⟨b,cp,o,rfl,qzA H' hc omQ h1 λh' H''=>w h' ?_⟩;have:=H''.slI (n:=n) (sz:=sz) (cp:=cp) (by rw[G7 omQ];exact q1) (by rw[G7 omQ];exact q3);have e1:(kA ys (0+i*sz+j) x.cells).take (n*sz)=kA xs (i*sz+j) x.cells:=by
  rw[← q2,Nat.zero_add];unfold kA;rw[List.take_append,List.take_append,List.take_take,List.take_take,List.drop_take];have t1:min (n*sz) (i*sz+j)=min (i*sz+j) (n*sz):=Nat.min_comm ..;rw[t1,show(List.take (i*sz+j) ys).length=i*sz+j by simp;omega];rw[List.take_of_length_le (show x.cells.length≤n*sz-(i*sz+j) by omega)];simp only[List.length_append,List.length_take,hc];have:min (i*sz+j) ys.length=i*sz+j:=by omega
  congr 2
  omega
 rw[e1]at this;exact this
theorem jQ7 {f:Nat} (H:HS g h (qy e sz n v xs::R)) (hi:i<n) (hf:f<sz) (h1:One x) (w:∀h',HS g h' (qy e sz n v (xs.set (i*sz+f) x)::R)→wp (K1 h') Q) :
  wp (gF v (.int k (i:Int)) sz λp=>qt p f λq=>jd h q x 1 K1) Q:=by
 have hl:=H.sl_len .here;have hle:i*sz+sz≤n*sz:=by rw[← Nat.succ_mul];exact Nat.mul_le_mul_right sz hi
 obtain⟨b,cp,o,rfl,w'⟩:=slSt (x:=x) (m:=1) (j:=f) H hi omQ (by rw[h1.1];rfl) (by rw[h1.1];simp[qp,h1.2]) (λh' H'=>w h' (by rw[h1.1,Xc omQ]at H';exact H'));exact YH hi (qn w')
theorem Yo (H:HS g h (qy e 1 n v xs::R)) (hi:i<n) (h1:One x) (w:∀h',HS g h' (qy e 1 n v (xs.set i x)::R)→wp (K1 h') Q) :
  wp (gF v (.int k (i:Int)) 1 λp=>jd h p x 1 K1) Q:=by
 have hl:=H.sl_len .here;obtain⟨b,cp,o,rfl,w'⟩:=slSt (x:=x) (m:=1) (j:=0) H hi omQ (by rw[h1.1];rfl) (by rw[h1.1];simp[qp,h1.2]) (λh' H'=>w h' (by rw[h1.1,Xc omQ,Nat.mul_one,Nat.add_zero]at H';exact H'));exact YH hi w'
theorem qXe (H:HS g h (qy e sz n v xs::R)) (hi:i<n) (hl:l.length=sz) (h1:qp l=true) (w:∀h',HS g h' (qy e sz n v (kA xs (i*sz) l)::R)→wp (K1 h') Q) :
  wp (gF v (.int k (i:Int)) sz λp=>jd h p (.agg l) sz K1) Q:=by
 obtain⟨b,cp,o,rfl,w'⟩:=slSt (x:=.agg l) (m:=sz) (j:=0) H hi omQ hl h1 (λh' H'=>w h' H');exact YH hi w'
theorem YJ {hi:Nat} (H:HS g h (qy e sz n v xs::R)) (hsz:0<sz) (hle:hi≤n) (w:∀v',HS g h (qy e sz hi v' (xs.take (hi*sz))::R)→wp (K v') Q):wp (xY h e sz v none (some (.int k (hi:Int))) K) Q:=by
  by_cases hn:n=0
  · subst hn;obtain rfl:hi=0:=by omega
    have hH:=H;obtain⟨D,⟨hl,⟨rfl,_,hD⟩ |⟨b,cp,o,zs,rfl,hD,A,q1,q2,q3⟩⟩,hb,k⟩:=H.act
    · exact w .nils (by obtain rfl : xs = [] := iA (by simpa using hl)
                        rw[List.take_nil];exact hH)
    · cases o with
      |false=>
        rw[iQ osQ]at q3;refine Un (hi:=0) (lo:=0) (xD (Nat.zero_le _)) rfl ?_
        have := w (.slice b 0 0 cp false) (by rw [Nat.zero_mul, List.take_zero] ;obtain rfl : xs = [] := iA (by simpa using hl)
                                              exact hH)
        have e0:(bif Nat.beq cp 0 then 0 else 0+0*sz)=0:=by cases Nat.beq cp 0<;>simp
        rw[e0];exact this
      |true=>
        rw[iJ rfl]at q3;subst q3;refine Ua (i0:=0) (hi:=0) (lo:=0) A hsz omQ omQ (xD (Nat.zero_le _)) rfl (.inr rfl) ?_
        have := w (.slice b 0 0 0 true) (by rw [Nat.zero_mul, List.take_zero] ;obtain rfl : xs = [] := iA (by simpa using hl)
                                            exact hH)
        simpa using this
  · obtain⟨b,cp,o,zs,rfl,H',q1,q2,q3⟩:=H.slE omQ;have hle2:=Nat.mul_le_mul_right sz hle;have e1:zs.take (hi*sz)=xs.take (hi*sz):=by rw[← q2,List.take_take,Nat.min_eq_left hle2]
    cases o with
    |false=>
      rw[iQ osQ]at q3;refine Un (hi:=hi) (lo:=0) (xD omQ) rfl ?_;have:=w (.slice b 0 hi cp false) (by rw[← e1];exact H'.slI omQ (by rw[iQ osQ];exact⟨q3.1,by omega⟩));have e0:(bif Nat.beq cp 0 then 0 else 0+0*sz)=0:=by cases Nat.beq cp 0<;>simp
      rw[e0];exact this
    |true=>rw[iJ rfl]at q3;subst q3;obtain⟨D,_,A⟩:=H'.p .here;refine Ua (i0:=0) (hi:=hi) (lo:=0) A hsz omQ omQ (xD hle) rfl (.inr rfl) ?_;have:=w (.slice b 0 hi 0 true) (by rw[← e1];exact H'.slI omQ (by rw[iJ rfl]));simpa using this
theorem JS (H:HS g h L) (s:Sel L (qy e sz n v xs) R) (h1:v=.nils→n=0→wp (K (.bool true)) Q) (h2:wp (K (.bool false)) Q):wp (pEq .slc false v .nils K) Q:=by
 obtain⟨D,hl,⟨rfl,rfl,hD⟩ |⟨b,cp,o,zs,rfl,_⟩⟩:=H.p s
 ·exact h1 rfl rfl
 ·exact h2
theorem qY8 {lo:Nat} (H:HS g h (qy e sz n v xs::R)) (hsz:0<sz) (hlo:lo≤n) (hn:0<n) (w:∀v',Sl (λ_=>True) h sz (n-lo) v' (xs.drop (lo*sz))→wp (K v') Q):wp (xY h e sz v (some (.int k (lo:Int))) none K) Q:=by
 have S:=H.sl .here;obtain⟨D,⟨hl,⟨rfl,rfl,hD⟩ |⟨b,cp,o,ys,rfl,hD,A,q1,q2,q3⟩⟩,hb,_⟩:=H.act
 ·omega
 cases o with
 |false=>rw[iQ osQ]at q3;exact qK0 S rfl q3.2 hlo λv' S' _ _=>w v' S'
 |true=>
  rw[iJ rfl]at q3;subst q3;by_cases h0:lo<n∨lo=0
  ·refine Ua (hi:=n) (lo:=lo) A hsz (by rw[Nat.zero_mul]) (by rw[Nat.zero_add];exact q1) rfl (xD hlo) h0 (w _ ?_);have hle:lo*sz≤n*sz:=Nat.mul_le_mul_right sz hlo;have hsub:(n-lo)*sz=n*sz-lo*sz:=Nat.sub_mul ..;refine .mk trivial A.lt A.rd (by simp[hl,hsub]) λi hi=>?_;rw[A.at,Nat.zero_add,List.getElem?_drop,← q2,List.getElem?_take_of_lt omQ]
  ·obtain rfl:lo=n:=by omega
   refine qgs A hsz (by rw[Nat.zero_mul]) (by rw[Nat.zero_add];exact q1) (xD (Nat.le_refl _)) hn (w _ ?_);rw[Nat.sub_self,List.drop_of_length_le omQ];exact .tail ..
theorem qm (H:HS g h L) (s:Sel L (qy e sz n v xs) R) (w:wp (K (.int .i64 (n:Int))) Q):wp (kF v K) Q:=zu (H.sl s) w
def Rd (g:AH) (R:List SP) (sz n:Nat) (v:AV) (xs:List AV):Prop:=∀h,HS g h R→Sl (λ_=>True) h sz n v xs
theorem Rd.sl (S:Rd g L sz n v xs) (H:HS g h L):Sl (λ_=>True) h sz n v xs:=S h H
theorem Rd.more (S:Rd g R sz n v xs):Rd g (P::R) sz n v xs:=λh H=>S h H.drop
theorem Rd.own (s:Sel L (qy e sz n v xs) R):Rd g L sz n v xs:=λ_ H=>H.sl s
theorem HS.rd (_:HS g h L) (s:Sel L (qy e sz n v xs) R):Rd g L sz n v xs:=.own s
theorem Rd.arg {D:Nat→Prop} (S:Sl D g sz n v xs):Rd g L sz n v xs:=λ_ H=>(S.old H.old).mono λ_ _=>trivial
theorem Rd.len (S:Rd g L sz n v xs) (H:HS g h L):xs.length=n*sz:=(S h H).len
variable {c d:Int}
theorem qg (hc:c=d) (w:wp (K (.bool true)) Q):wp (zG .eql (.int k c) (.int k d) K) Q:=Xh (by rw[iG hc];exact w)
theorem qK (hc:¬c=d) (w:wp (K (.bool false)) Q):wp (zG .eql (.int k c) (.int k d) K) Q:=Xh (by rw[iV hc];exact w)
theorem jX (hc:¬c=d) (w:wp (K (.bool true)) Q):wp (zG .neq (.int k c) (.int k d) K) Q:=MK (by rw[iG hc];exact w)
theorem q9 (hc:c=d) (w:wp (K (.bool false)) Q):wp (zG .neq (.int k c) (.int k d) K) Q:=MK (by rw[iV (not_not_intro hc)];exact w)
theorem jT (hc:c<d) (w:wp (K (.bool true)) Q):wp (zG .lss (.int k c) (.int k d) K) Q:=Q2 (by rw[iG hc];exact w)
theorem jD (hc:¬c<d) (w:wp (K (.bool false)) Q):wp (zG .lss (.int k c) (.int k d) K) Q:=Q2 (by rw[iV hc];exact w)
theorem Ji (hc:c≤d) (w:wp (K (.bool true)) Q):wp (zG .leq (.int k c) (.int k d) K) Q:=OO (by rw[iG hc];exact w)
theorem YV (hc:¬c≤d) (w:wp (K (.bool false)) Q):wp (zG .leq (.int k c) (.int k d) K) Q:=OO (by rw[iV hc];exact w)
theorem yp (hc:d<c) (w:wp (K (.bool true)) Q):wp (zG .gtr (.int k c) (.int k d) K) Q:=qX0 (by rw[iG hc];exact w)
theorem yT (hc:¬d<c) (w:wp (K (.bool false)) Q):wp (zG .gtr (.int k c) (.int k d) K) Q:=qX0 (by rw[iV hc];exact w)
theorem zc (hc:d≤c) (w:wp (K (.bool true)) Q):wp (zG .geq (.int k c) (.int k d) K) Q:=qX6 (by rw[iG hc];exact w)
theorem zF (hc:¬d≤c) (w:wp (K (.bool false)) Q):wp (zG .geq (.int k c) (.int k d) K) Q:=qX6 (by rw[iV hc];exact w)
theorem qJC {tab:BT} {rt:List RT} {N l:Nat} {as:List AV} {pend:Option AX} {f:Nat} {pos Ls:List Nat} {vs:List AV} {d:Nat} {w:VF} (hb:h.get l=some (.loop .ready pend f pos Ls vs d)) (hr:Ys rt f pos Ls=some w) (hn:1≤N)
  (W:∀k,N=k+1→wp (w (callT tab rt k) l vs as h) Q):wp (callT tab rt N (.yield l) as h) Q:=by
 obtain⟨k,rfl⟩:∃k,N=k+1:=⟨N-1,by omega⟩
 show wp (match h.get l with
   |some (.loop .ready _ f pos L vs _)=>(match Ys rt f pos L with |some g=>g (callT tab rt k) l vs as h |none=>none)
   |_=>none) Q
 rw[hb];simp only[hr];exact W k rfl
theorem qQp {l:Nat} {pend:Option AX} {f:Nat} {pos Ls:List Nat} {vs:List AV} {d:Nat} (H:HS g h L) (s:Sel L (kl l (.loop .ready pend f pos Ls vs d)) R) (w:∀h',HS g h' (kl l (.loop .busy pend f pos Ls vs d)::R)→wp (K1 h') Q):wp (Jh h l K1) Q:=by unfold Jh;rw[H.blk s];exact w _ (H.putBlk s)
theorem qVa {l:Nat} {st:LoopState} {pend:Option AX} {f:Nat} {pos Ls:List Nat} {vs:List AV} {d:Nat} (H:HS g h L) (s:Sel L (kl l (.loop st pend f pos Ls vs d)) R) (w:∀h',HS g h' (kl l (.loop .ready none f pos Ls vs d)::R)→Q (.bool true) h'):wp (xc h l none) Q:=by unfold xc;rw[H.blk s];exact⟨_,_,rfl,w _ (H.putBlk s)⟩
theorem qwc {l:Nat} {j:AX} {st:LoopState} {pend:Option AX} {f:Nat} {pos Ls:List Nat} {vs:List AV} {d:Nat} (H:HS g h L) (s:Sel L (kl l (.loop st pend f pos Ls vs d)) R) (w:∀h',HS g h' (kl l (.loop .done (some j) f pos Ls vs d)::R)→Q (.bool false) h'):wp (xc h l (some j)) Q:=by unfold xc;rw[H.blk s];exact⟨_,_,rfl,w _ (H.putBlk s)⟩
theorem O7 {l:Nat} {K':Option AX→AH→Go.Ae.R} {st:LoopState} {pend:Option AX} {f:Nat} {pos Ls:List Nat} {vs:List AV} {d:Nat} (H:HS g h L) (s:Sel L (kl l (.loop st pend f pos Ls vs d)) R) (hst:st≠.busy) (w:∀h',HS g h' (kl l (.loop .exhausted pend f pos Ls vs d)::R)→wp (K' pend h') Q):wp (vC h l K') Q:=by
 unfold vC;rw[H.blk s];cases st with
 |busy=>exact absurd rfl hst
 |_=>exact w _ (H.putBlk s)
theorem KF {d:Nat} (H:HS g h L) (s:Sel L (kl d .dfd) R) (w:∀h',HS g h' (kl d .took::R)→wp (K1 h') Q):wp (z7 [d] h K1) Q:=by unfold z7;rw[H.blk s];unfold z7;exact w _ (H.putBlk s)
theorem qQi {a b:Go.Ae.R} (w:wp a Q):wp (Xj none a b) Q:=w
theorem qxr {p:AX} {a b:Go.Ae.R} (w:wp b Q):wp (Xj (some p) a b) Q:=w
theorem jQm {x:AX} {a b:Go.Ae.R} (hx:qWh x x=true) (w:wp a Q):wp (pIs (some x) x a b) Q:=by show wp (bif qWh x x then a else b) Q;rw[hx];exact w
theorem qJL {c:CV} {f:FuncId} {a1 a2 as:List AV} {Q':AV→AH→Prop} (w:wp (c (.fn f a1 a2) as h) Q') (hk:∀v h',Q' v h'→wp (K2 v h') Q):wp (Jr c (.fn f a1 a2) as h K2) Q:=qG w hk
theorem HS.fits (H:HS g h L) (s:Sel L (qy e sz n v xs) R) (hsz:0<sz) (h1:sz<65536) {N:Nat} (hN:N=e*65536+sz) {u:AV}:zW v (some N) u h=true:=by
 obtain⟨D,hl,⟨rfl,rfl,hD⟩ |⟨b,cp,o,zs,rfl,hD,A,q1,q2,q3⟩⟩:=H.p s
 ·rfl
 ·cases o with
  |false=>rfl
  |true=>
   rw[iJ rfl]at q3;subst q3;obtain⟨c,c1,c2,c3⟩:=A.blk;show yE h (N/65536) b 0 (N%65536) 0 n=true;rw[hN,(Oh e sz h1).1,(Oh e sz h1).2];unfold yE;rw[c1];simp only[Bool.and_eq_true];have hcl:c.len=zs.length:=by rw[CT.len_eq,c2]
   exact⟨Nat.beq_refl _,iY hsz,by rw[Nat.zero_mul];rfl,iY (by rw[hcl];omega)⟩
theorem HS.sl_lt (H:HS g h L) (s:Sel L (qy e sz n v xs) R):Kz v h.nx=true:=by
 obtain⟨D,hl,⟨rfl,rfl,hD⟩ |⟨b,cp,o,zs,rfl,hD,A,q1,q2,q3⟩⟩:=H.p s
 ·rfl
 ·cases o with
  |false=>rfl
  |true=>exact iY A.lt
theorem qza {g1 g2 ha h0:AH} {L1 R1 L2 R2:List SP} {n1 n2 N:Nat} {xs1 xs2:List AV} {u:AV} {K0:Go.Ae.R} (H:HS g h L) (s:Sel L (qy e sz n v xs) R) (H1:HS g1 ha L1) (s1:Sel L1 (qy e sz n1 v xs1) R1) (H2:HS g2 h0 L2) (s2:Sel L2 (qy e sz n2 v xs2) R2)
  (hsz:0<sz) (h1:sz<65536) (hN:N=e*65536+sz) (w:wp K0 Q):wp (Jz v (some N) u h ha h0.nx K0) Q:=by
 unfold Jz;rw[H.fits s hsz h1 hN,H1.fits s1 hsz h1 hN,H2.sl_lt s2];exact w
end Go.Ae
namespace Go.Ae
theorem e_1 {a0 P:SP} {R:List SP}:Sel (a0::P::R) P (a0::R):=.there .here
theorem e_2 {a0 a1 P:SP} {R:List SP}:Sel (a0::a1::P::R) P (a0::a1::R):=.there e_1
theorem e_3 {a0 a1 a2 P:SP} {R:List SP}:Sel (a0::a1::a2::P::R) P (a0::a1::a2::R):=.there e_2
theorem e_4 {a0 a1 a2 a3 P:SP} {R:List SP}:Sel (a0::a1::a2::a3::P::R) P (a0::a1::a2::a3::R):=.there e_3
theorem e_5 {a0 a1 a2 a3 a4 P:SP} {R:List SP}:Sel (a0::a1::a2::a3::a4::P::R) P (a0::a1::a2::a3::a4::R):=.there e_4
theorem e_6 {a0 a1 a2 a3 a4 a5 P:SP} {R:List SP}:Sel (a0::a1::a2::a3::a4::a5::P::R) P (a0::a1::a2::a3::a4::a5::R):=.there e_5
theorem e_7 {a0 a1 a2 a3 a4 a5 a6 P:SP} {R:List SP}:Sel (a0::a1::a2::a3::a4::a5::a6::P::R) P (a0::a1::a2::a3::a4::a5::a6::R):=.there e_6
theorem e_8 {a0 a1 a2 a3 a4 a5 a6 a7 P:SP} {R:List SP}:Sel (a0::a1::a2::a3::a4::a5::a6::a7::P::R) P (a0::a1::a2::a3::a4::a5::a6::a7::R):=.there e_7
theorem e_9 {a0 a1 a2 a3 a4 a5 a6 a7 a8 P:SP} {R:List SP}:Sel (a0::a1::a2::a3::a4::a5::a6::a7::a8::P::R) P (a0::a1::a2::a3::a4::a5::a6::a7::a8::R):=.there e_8
theorem e_10 {a0 a1 a2 a3 a4 a5 a6 a7 a8 a9 P:SP} {R:List SP}:Sel (a0::a1::a2::a3::a4::a5::a6::a7::a8::a9::P::R) P (a0::a1::a2::a3::a4::a5::a6::a7::a8::a9::R):=.there e_9
theorem e_11 {a0 a1 a2 a3 a4 a5 a6 a7 a8 a9 a10 P:SP} {R:List SP}:Sel (a0::a1::a2::a3::a4::a5::a6::a7::a8::a9::a10::P::R) P (a0::a1::a2::a3::a4::a5::a6::a7::a8::a9::a10::R):=.there e_10
theorem e_12 {a0 a1 a2 a3 a4 a5 a6 a7 a8 a9 a10 a11 P:SP} {R:List SP}:Sel (a0::a1::a2::a3::a4::a5::a6::a7::a8::a9::a10::a11::P::R) P (a0::a1::a2::a3::a4::a5::a6::a7::a8::a9::a10::a11::R):=.there e_11
theorem e_13 {a0 a1 a2 a3 a4 a5 a6 a7 a8 a9 a10 a11 a12 P:SP} {R:List SP}:Sel (a0::a1::a2::a3::a4::a5::a6::a7::a8::a9::a10::a11::a12::P::R) P (a0::a1::a2::a3::a4::a5::a6::a7::a8::a9::a10::a11::a12::R):=.there e_12
theorem e_14 {a0 a1 a2 a3 a4 a5 a6 a7 a8 a9 a10 a11 a12 a13 P:SP} {R:List SP}:Sel (a0::a1::a2::a3::a4::a5::a6::a7::a8::a9::a10::a11::a12::a13::P::R) P (a0::a1::a2::a3::a4::a5::a6::a7::a8::a9::a10::a11::a12::a13::R):=.there e_13
theorem e_15 {a0 a1 a2 a3 a4 a5 a6 a7 a8 a9 a10 a11 a12 a13 a14 P:SP} {R:List SP}:Sel (a0::a1::a2::a3::a4::a5::a6::a7::a8::a9::a10::a11::a12::a13::a14::P::R) P (a0::a1::a2::a3::a4::a5::a6::a7::a8::a9::a10::a11::a12::a13::a14::R):=.there e_14
theorem e_16 {a0 a1 a2 a3 a4 a5 a6 a7 a8 a9 a10 a11 a12 a13 a14 a15 P:SP} {R:List SP}:Sel (a0::a1::a2::a3::a4::a5::a6::a7::a8::a9::a10::a11::a12::a13::a14::a15::P::R) P (a0::a1::a2::a3::a4::a5::a6::a7::a8::a9::a10::a11::a12::a13::a14::a15::R):=.there e_15
theorem e_17 {a0 a1 a2 a3 a4 a5 a6 a7 a8 a9 a10 a11 a12 a13 a14 a15 a16 P:SP} {R:List SP}:Sel (a0::a1::a2::a3::a4::a5::a6::a7::a8::a9::a10::a11::a12::a13::a14::a15::a16::P::R) P (a0::a1::a2::a3::a4::a5::a6::a7::a8::a9::a10::a11::a12::a13::a14::a15::a16::R):=.there e_16
theorem e_18 {a0 a1 a2 a3 a4 a5 a6 a7 a8 a9 a10 a11 a12 a13 a14 a15 a16 a17 P:SP} {R:List SP}:Sel (a0::a1::a2::a3::a4::a5::a6::a7::a8::a9::a10::a11::a12::a13::a14::a15::a16::a17::P::R) P (a0::a1::a2::a3::a4::a5::a6::a7::a8::a9::a10::a11::a12::a13::a14::a15::a16::a17::R):=.there e_17
theorem e_19 {a0 a1 a2 a3 a4 a5 a6 a7 a8 a9 a10 a11 a12 a13 a14 a15 a16 a17 a18 P:SP} {R:List SP}:Sel (a0::a1::a2::a3::a4::a5::a6::a7::a8::a9::a10::a11::a12::a13::a14::a15::a16::a17::a18::P::R) P (a0::a1::a2::a3::a4::a5::a6::a7::a8::a9::a10::a11::a12::a13::a14::a15::a16::a17::a18::R):=.there e_18
theorem e_20 {a0 a1 a2 a3 a4 a5 a6 a7 a8 a9 a10 a11 a12 a13 a14 a15 a16 a17 a18 a19 P:SP} {R:List SP}:Sel (a0::a1::a2::a3::a4::a5::a6::a7::a8::a9::a10::a11::a12::a13::a14::a15::a16::a17::a18::a19::P::R) P (a0::a1::a2::a3::a4::a5::a6::a7::a8::a9::a10::a11::a12::a13::a14::a15::a16::a17::a18::a19::R):=.there e_19
theorem e_21 {a0 a1 a2 a3 a4 a5 a6 a7 a8 a9 a10 a11 a12 a13 a14 a15 a16 a17 a18 a19 a20 P:SP} {R:List SP}:Sel (a0::a1::a2::a3::a4::a5::a6::a7::a8::a9::a10::a11::a12::a13::a14::a15::a16::a17::a18::a19::a20::P::R) P (a0::a1::a2::a3::a4::a5::a6::a7::a8::a9::a10::a11::a12::a13::a14::a15::a16::a17::a18::a19::a20::R):=.there e_20
theorem e_22 {a0 a1 a2 a3 a4 a5 a6 a7 a8 a9 a10 a11 a12 a13 a14 a15 a16 a17 a18 a19 a20 a21 P:SP} {R:List SP}:Sel (a0::a1::a2::a3::a4::a5::a6::a7::a8::a9::a10::a11::a12::a13::a14::a15::a16::a17::a18::a19::a20::a21::P::R) P (a0::a1::a2::a3::a4::a5::a6::a7::a8::a9::a10::a11::a12::a13::a14::a15::a16::a17::a18::a19::a20::a21::R):=.there e_21
theorem e_23 {a0 a1 a2 a3 a4 a5 a6 a7 a8 a9 a10 a11 a12 a13 a14 a15 a16 a17 a18 a19 a20 a21 a22 P:SP} {R:List SP}:Sel (a0::a1::a2::a3::a4::a5::a6::a7::a8::a9::a10::a11::a12::a13::a14::a15::a16::a17::a18::a19::a20::a21::a22::P::R) P (a0::a1::a2::a3::a4::a5::a6::a7::a8::a9::a10::a11::a12::a13::a14::a15::a16::a17::a18::a19::a20::a21::a22::R):=.there e_22
end Go.Ae
namespace Go.Ae
open Go
theorem t_e0 {tab:BT} {rt:List RT} {n:Nat} {f:FuncId} {P:Program} {pl:Pl} {S:tE0 P pl f}  {h:AH} {Q:AV→AH→Prop} (hg:tab.get f=some (tD0 S)) (hn:1≤n) (w:∀k,n=k+1→wp (S (callT tab rt k)  h).1 Q):wp (callT tab rt n (.fn f [] []) [] h) Q:=qB hg hn w
theorem t_e1 {tab:BT} {rt:List RT} {n:Nat} {f:FuncId} {P:Program} {pl:Pl} {S:tE1 P pl f} {a0:AV} {h:AH} {Q:AV→AH→Prop} (hg:tab.get f=some (tD1 S)) (hn:1≤n) (w:∀k,n=k+1→wp (S (callT tab rt k) a0 h).1 Q):wp (callT tab rt n (.fn f [] []) [a0] h) Q:=qB hg hn w
theorem t_e2 {tab:BT} {rt:List RT} {n:Nat} {f:FuncId} {P:Program} {pl:Pl} {S:tE2 P pl f} {a0 a1:AV} {h:AH} {Q:AV→AH→Prop} (hg:tab.get f=some (tD2 S)) (hn:1≤n) (w:∀k,n=k+1→wp (S (callT tab rt k) a0 a1 h).1 Q):wp (callT tab rt n (.fn f [] []) [a0,a1] h) Q:=qB hg hn w
theorem t_e3 {tab:BT} {rt:List RT} {n:Nat} {f:FuncId} {P:Program} {pl:Pl} {S:tE3 P pl f} {a0 a1 a2:AV} {h:AH} {Q:AV→AH→Prop} (hg:tab.get f=some (tD3 S)) (hn:1≤n) (w:∀k,n=k+1→wp (S (callT tab rt k) a0 a1 a2 h).1 Q):wp (callT tab rt n (.fn f [] []) [a0,a1,a2] h) Q:=qB hg hn w
theorem t_e4 {tab:BT} {rt:List RT} {n:Nat} {f:FuncId} {P:Program} {pl:Pl} {S:tE4 P pl f} {a0 a1 a2 a3:AV} {h:AH} {Q:AV→AH→Prop} (hg:tab.get f=some (tD4 S)) (hn:1≤n) (w:∀k,n=k+1→wp (S (callT tab rt k) a0 a1 a2 a3 h).1 Q):wp (callT tab rt n (.fn f [] []) [a0,a1,a2,a3] h) Q:=qB hg hn w
theorem t_e5 {tab:BT} {rt:List RT} {n:Nat} {f:FuncId} {P:Program} {pl:Pl} {S:tE5 P pl f} {a0 a1 a2 a3 a4:AV} {h:AH} {Q:AV→AH→Prop} (hg:tab.get f=some (tD5 S)) (hn:1≤n) (w:∀k,n=k+1→wp (S (callT tab rt k) a0 a1 a2 a3 a4 h).1 Q):wp (callT tab rt n (.fn f [] []) [a0,a1,a2,a3,a4] h) Q:=qB hg hn w
theorem t_e7 {tab:BT} {rt:List RT} {n:Nat} {f:FuncId} {P:Program} {pl:Pl} {S:tE7 P pl f} {a0 a1 a2 a3 a4 a5 a6:AV} {h:AH} {Q:AV→AH→Prop} (hg:tab.get f=some (tD7 S)) (hn:1≤n) (w:∀k,n=k+1→wp (S (callT tab rt k) a0 a1 a2 a3 a4 a5 a6 h).1 Q):wp (callT tab rt n (.fn f [] []) [a0,a1,a2,a3,a4,a5,a6] h) Q:=qB hg hn w
end Go.Ae
