/- An ask on both; what both show. -/
import Derived.Test.YtaepnpodenmmoaaArenaR
import Derived.Test.YtaepnpodenmmoaaBookWithin
import Derived.Test.YtaepnpodenmmoaaBookSameI
import Derived.Test.YtaepnpodenmmoaaBookSameU
import Derived.Test.YtaepnpodenmmoaaBookSameC
namespace Go.Proofs.Ytaepnpodenmmoaa
open Go Go.Ae
set_option maxRecDepth 100000

variable {g h : AH} {L R : List SP}

theorem same_ok {n : Nat} (hn : 11 ≤ n) {v o : Nat} {M : VM} (H : HS g h (ViewC v M :: RvC o M :: R)) (O : OkV M) (hf : frS M.lv < 100000) :
    wp (callT tab rtab n (.fn 25 [] []) [.ptr v 0, .ptr o 0] h) fun r h' => r = .bool true ∧ HS g h' (ViewC v M :: RvC o M :: R) := by
  (refine ww_fn (g := W25) rfl (by omega) fun k hk => ?_; show wp (S25 (callT tab rtab k) _ _ _) _; unfold S25; try simp only [Int.ofNat_eq_natCast])
  obtain ⟨kv, q, H⟩ := RvC.E (H.sel (.there .here))
  have hml := mergeL_len M.lv []
  have hhe := O.lvs.held
  have hle := O.lvs.le
  with_reducible (refine ww_nil ?_; refine ww_field0 ?_; refine ww_ldH (by assumption) .here (by with_unfolding_all exact rfl) ?_)
  refine ww_call (rlwhole_ok (by omega) (H.sel (.there (.there .here))) O.lvs (by omega)) ?_
  rintro _ h1 ⟨cv, fv, rfl, H1⟩
  obtain ⟨rv, ps, e, H2⟩ := RgC.E (H1.sel (.there (.there .here)))
  clear H H1
  have o3 := H2.one (.there (.there (.there .here)))
  have o4 := H2.one (.there (.there (.there (.there .here))))
  refine ww_boxA H2 rfl fun b1 h2 H3 => ww_stH H3 .here rfl (by show 0 + 2 ≤ 2; omega) (by simp [allOne, AV.cells, o3.2, o4.2]) fun h3 H => ?_
  have H : HS g h3 (ObjC b1 [cv, fv] :: ObjC q [.int .i64 (M.most : Int), rv] :: SliC 96 2 M.lv.length rv (cellsR ps) :: .all (List.zipWith RlC ps M.lv) ::
    SliC 83 2 (mergeL M.lv).length cv ((mergeL M.lv).flatMap encC) :: SliC 3 1 (freesL M.lv).length fv ((freesL M.lv).map (.int .i64)) ::
    ObjC o [.int .i64 (M.sz : Int), kv, .ptr q 0, .int .i64 M.need] :: SliC 83 2 M.K.length kv (M.K.flatMap encC) :: ViewC v M :: R) := H
  clear H2 H3
  with_reducible (refine ww_joinS ?_; (try dsimp only))
  refine ww_call (vcells_ok (by omega) (H.sel (.there (.there (.there (.there (.there (.there (.there (.there .here))))))))) O) fun vc h4 H4 => ?_
  with_reducible (refine ww_field0 ?_; refine ww_ldH (by assumption) (.there (.there .here)) (by with_unfolding_all exact rfl) ?_)
  refine ww_call (sameC_ok (by omega) (H4.sl .here) (H4.sl (.there (.there (.there (.there (.there (.there .here))))))) (by simp at hml; unfold mergeL; omega)) ?_
  rintro _ _ ⟨rfl, rfl⟩
  rw [decide_eq_true rfl]
  with_reducible (refine ww_wantTT ?_; (try dsimp only))
  refine ww_call (vfrees_ok (by omega) (H4.sel (.there .here)) O) fun vf h5 H5 => ?_
  with_reducible (refine ww_field0 ?_; refine ww_ldH (by assumption) (.there (.there (.there .here))) (by with_unfolding_all exact rfl) ?_)
  have hfl := freesL_frS M.lv
  refine ww_call (sameI_ok (by omega) (H5.sl .here) (H5.sl (.there (.there (.there (.there (.there (.there (.there (.there .here))))))))) (by omega)) ?_
  rintro _ _ ⟨rfl, rfl⟩
  rw [decide_eq_true rfl]
  with_reducible (refine ww_pickT ?_; refine ww_wantTT ?_; (try dsimp only))
  refine ww_call (vneed_ok (by omega) (H5.sel (.there .here))) ?_
  rintro _ _ ⟨rfl, rfl⟩
  with_reducible (refine ww_nil ?_; refine ww_field0 ?_; refine ww_ldH (by assumption) (.there (.there (.there (.there (.there (.there (.there (.there (.there .here))))))))) (by with_unfolding_all exact rfl) ?_; refine ww_eqlT (by omega) ?_; refine ww_pickT ?_; refine ww_wantTT ?_; (try dsimp only))
  refine ww_call (vdepth_ok (by omega) (H5.sel (.there .here))) ?_
  rintro _ _ ⟨rfl, rfl⟩
  with_reducible (refine ww_nil ?_; refine ww_field0 ?_; refine ww_ldH (by assumption) (.there (.there (.there (.there (.there (.there (.there (.there (.there .here))))))))) (by with_unfolding_all exact rfl) ?_; refine ww_nil ?_; refine ww_field0 ?_; refine ww_ldH (by assumption) (.there (.there (.there (.there .here)))) (by with_unfolding_all exact rfl) ?_; refine ww_lenH (by assumption) (.there (.there (.there (.there (.there .here))))) ?_; refine ww_eqlT (by omega) ?_; refine ww_pickT ?_; refine ww_chkH (by assumption) (.there (.there (.there (.there .here)))) (by with_unfolding_all exact rfl) (by assumption) (.there (.there (.there (.there .here)))) (by with_unfolding_all exact rfl) (HS.lt (by assumption) (.there .here)) ?_; refine ww_chkH (by assumption) (.there (.there (.there (.there (.there (.there (.there (.there (.there .here))))))))) (by with_unfolding_all exact rfl) (by assumption) (.there (.there (.there (.there (.there (.there (.there (.there (.there .here))))))))) (by with_unfolding_all exact rfl) (HS.lt (by assumption) (.there (.there (.there (.there (.there (.there .here))))))) ?_; refine ww_chkH (by assumption) (.there (.there (.there (.there (.there (.there (.there (.there (.there .here))))))))) (by with_unfolding_all exact rfl) (by assumption) (.there (.there (.there (.there (.there (.there (.there (.there (.there .here))))))))) (by with_unfolding_all exact rfl) (HS.lt (by assumption) (.there (.there (.there (.there (.there (.there .here))))))) ?_; refine ww_chkH (by assumption) (.there (.there .here)) (by with_unfolding_all exact rfl) (by assumption) (.there (.there (.there .here))) (by with_unfolding_all exact rfl) (HS.lt (by assumption) .here) ?_; refine ww_chkH (by assumption) .here (by with_unfolding_all exact rfl) (by assumption) (.there (.there .here)) (by with_unfolding_all exact rfl) (HS.lt (by assumption) .here) ?_)
  refine ww_ret ⟨rfl, ?_⟩
  have H6 := RgC.I (q := q) (v := rv) (ps := ps) e (H5.sub (.cons (.there (.there (.there (.there .here)))) (.cons (.there (.there (.there (.there .here)))) (.cons (.there (.there (.there (.there .here)))) .refl))))
  have H7 := RvC.I (o := o) (M := M) (kv := kv) (q := q) (R := ViewC v M :: R) (H6.sub (.cons (.there (.there (.there (.there (.there (.there (.there .here))))))) (.cons (.there (.there (.there (.there (.there (.there (.there .here))))))) (.cons .here (.cons (.there .here) (.drop (.drop (.drop (.drop (.drop .refl))))))))))
  exact H7.sub (.cons (.there .here) (.refl))

/-! ### what an ask leaves alone -/
/-- nothing but what is asked for; or nothing is asked for anew -/
def AskP (M M' : VM) : Prop := M'.sz = M.sz ∧ M'.K = M.K ∧ M'.most = M.most ∧ (M'.need = M.need ∨ M'.lv = M.lv ∧ 1 ≤ M'.need ∧ M'.need < M.sz ∧ getC M'.need M.K = none)
theorem AskP.refl (M : VM) : AskP M M := ⟨rfl, rfl, rfl, .inl rfl⟩
theorem read_zero {M : VM} {p : Int} (h : (readV M p).1.2 = 0) : (readV M p).2 = M := by
  unfold readV at h ⊢
  split
  · rename_i h1
    rw [if_pos h1] at h
    split
    · rfl
    · rename_i h2
      rw [h2] at h
      dsimp only at h ⊢
      split
      · rfl
      · rename_i h3
        rw [h3] at h
        cases h
  · rfl
theorem read_ask (M : VM) (p : Int) : AskP M (readV M p).2 := by
  unfold readV
  split
  · rename_i h1
    split
    · exact .refl M
    · split
      · exact .refl M
      · rename_i h3
        exact ⟨rfl, rfl, rfl, .inr ⟨rfl, h1.1, h1.2, h3⟩⟩
  · exact .refl M
theorem take_ask {M N : VM} {cs : List Cl} (h : N = M) : AskP M (takeV N cs).2 := by
  subst h
  unfold takeV
  split
  · exact ⟨rfl, rfl, rfl, .inl rfl⟩
  · exact .refl N
theorem ask_ask (M : VM) (b : Int) : AskP M (askV M b).2 ∧ ((askV M b).1.2.2 = 0 → (askV M b).2 = M) := by
  unfold askV
  split
  · exact ⟨.refl M, fun _ => rfl⟩
  · split
    · rename_i h1
      split
      · exact ⟨read_ask M _, fun _ => read_zero h1⟩
      · exact ⟨read_ask M _, fun _ => read_zero h1⟩
    · rename_i h1
      exact ⟨read_ask M _, fun h => absurd h h1⟩
theorem free_ask (M : VM) (b : Int) : AskP M (freeA M b).2 := by
  have ha := ask_ask M b
  unfold freeA
  split
  · rename_i h1
    have e := ha.2 h1
    split
    · split
      · have := take_ask (M := M) (cs := [(b - 1, (askV M b).1.1)]) e
        obtain ⟨t1, t2, t3, t4⟩ := this
        refine ⟨t1, t2, t3, ?_⟩
        show (takeV (askV M b).2 [(b - 1, (askV M b).1.1)]).2.need = M.need ∨ _
        rw [e]
        left
        unfold takeV
        split <;> rfl
      · exact take_ask e
    · exact ha.1
  · exact ha.1
theorem give_ask (M : VM) (b : Int) : AskP M (giveA M b).2 := by
  have ha := ask_ask M b
  unfold giveA
  split
  · rename_i h1
    have e := ha.2 h1
    split
    · exact ha.1
    · split
      · rename_i h2
        exact take_ask ((read_zero h2).trans e)
      · rw [e]; exact read_ask M _
  · exact ha.1
theorem again_ask (M : VM) (c b : Int) : AskP M (againV M c b).2 := by
  unfold againV
  split
  · exact .refl M
  · split
    · rename_i h1
      have e := read_zero h1
      split
      · exact take_ask e
      · exact take_ask e
    · exact read_ask M _
theorem grown_ask (M : VM) (c : Int) : AskP M (grownV M c).2 := by
  unfold grownV
  split
  · rename_i h1
    have e := read_zero h1
    split
    · exact read_ask M _
    · split
      · exact take_ask e
      · exact take_ask e
  · exact read_ask M _
theorem alloc_ask (M : VM) (x : Int) : AskP M (allocV M x).2 := by
  unfold allocV
  split
  · exact .refl M
  · split
    · rename_i h1
      have e := read_zero h1
      split
      · rw [e]; exact grown_ask M _
      · rw [e]; exact again_ask M _ _
    · exact read_ask M _

/-! ### lengths, words -/
theorem frS_put {most : Nat} {lv : List LvM} {p v : Int} : frS (putL most lv p v).2 = frS lv := by
  cases lv with
  | nil => rfl
  | cons x r =>
    obtain ⟨c, hc⟩ := putL_tail (most := most) (x := x) (r := r) (p := p) (v := v)
    rw [hc, frS_cons, frS_cons]
theorem frS_takeL {most : Nat} {was : List LvM} : ∀ {cs : List Cl} {lv : List LvM}, frS lv = frS was → frS (takeL most was lv cs).2 = frS was := by
  intro cs
  induction cs with
  | nil => intro lv h; exact h
  | cons c cs ih =>
    intro lv h
    rw [takeL_cons]
    split
    · exact ih (frS_put.trans h)
    · rfl
theorem frS_take {M : VM} {cs : List Cl} : frS (takeV M cs).2.lv = frS M.lv := by
  unfold takeV
  split
  · exact frS_takeL rfl
  · rfl
theorem frS_read {M : VM} {p : Int} : frS (readV M p).2.lv = frS M.lv := by
  unfold readV
  repeat' split
  all_goals rfl
theorem frS_ask {M : VM} {b : Int} : frS (askV M b).2.lv = frS M.lv := by
  unfold askV
  repeat' split
  all_goals first | rfl | exact frS_read
theorem frS_freeL {lv : List LvM} {b : Int} : frS (freeL lv b) ≤ frS lv + 1 := by
  cases lv with
  | nil => simp [freeL]
  | cons x r =>
    show frS ((x.1, x.2 ++ [b]) :: r) ≤ _
    rw [frS_cons, frS_cons, List.length_append]; simp; omega
theorem fr_le : ∀ {lv : List LvM} {x : LvM}, x ∈ lv → x.2.length ≤ frS lv := by
  intro l
  induction l with
  | nil => intro x hx; cases hx
  | cons y r ih =>
    intro x hx
    rw [frS_cons]
    rcases List.mem_cons.1 hx with rfl | hx
    · omega
    · have := ih hx; omega

/-- all that is to be kept of a view -/
structure GoodV (M : VM) : Prop where
  ok : OkV M
  wd : WdV M
theorem wd_small {l : List Cl} (h : ∀ c ∈ l, 0 ≤ c.2 ∧ c.2 < 18446744073709551616) : WdC l := h
theorem GoodV.read {M : VM} {p : Int} (G : GoodV M) : GoodV (readV M p).2 := ⟨readV_ok G.ok, G.wd.read2⟩
theorem GoodV.take {M : VM} {cs : List Cl} (G : GoodV M) (h : WdC cs) : GoodV (takeV M cs).2 := ⟨takeV_ok G.ok, G.wd.take h⟩
theorem GoodV.ask {M : VM} {b : Int} (G : GoodV M) : GoodV (askV M b).2 := ⟨askV_ok G.ok, askV_wd G.wd⟩
theorem WdC.two {a b : Cl} (ha : 0 ≤ a.2 ∧ a.2 < 18446744073709551616) (hb : 0 ≤ b.2 ∧ b.2 < 18446744073709551616) : WdC [a, b] := by
  intro c hc
  rcases List.mem_cons.1 hc with rfl | hc
  · exact ha
  · rw [List.mem_singleton] at hc; subst hc; exact hb
theorem WdC.one1 {a : Cl} (ha : 0 ≤ a.2 ∧ a.2 < 18446744073709551616) : WdC [a] := by
  intro c hc
  rw [List.mem_singleton] at hc; subst hc; exact ha
theorem GoodV.freeV {M : VM} {b : Int} (G : GoodV M) (hf : frS M.lv < 90000) : GoodV (freeV M b) := by
  refine ⟨freeV_ok G.ok fun x hx => by have := fr_le hx; omega, G.wd.k, ?_⟩
  show ∀ x ∈ freeL M.lv b, ∀ c ∈ x.1, 0 ≤ c.2 ∧ c.2 < 18446744073709551616
  have := G.wd.l
  cases hl : M.lv with
  | nil => intro x hx; cases hx
  | cons y r =>
    rw [hl] at this
    intro x hx
    rcases List.mem_cons.1 hx with rfl | hx
    · exact this y (List.mem_cons_self ..)
    · exact this x (List.mem_cons_of_mem _ hx)
theorem GoodV.free {M : VM} {b : Int} (G : GoodV M) (hf : frS M.lv < 90000) : GoodV (freeA M b).2 ∧ frS (freeA M b).2.lv ≤ frS M.lv + 1 := by
  have hb := askV_b M b
  have hc : WdC [(b - 1, (askV M b).1.1)] := .one1 ⟨hb.1, by dsimp only; omega⟩
  unfold freeA
  repeat' split
  · refine ⟨(G.ask.take hc).freeV (by rw [frS_take, frS_ask]; exact hf), ?_⟩
    have := frS_freeL (lv := (takeV (askV M b).2 [(b - 1, (askV M b).1.1)]).2.lv) (b := b)
    rw [frS_take, frS_ask] at this
    exact this
  · exact ⟨G.ask.take hc, by rw [frS_take, frS_ask]; omega⟩
  · exact ⟨G.ask, by rw [frS_ask]; omega⟩
  · exact ⟨G.ask, by rw [frS_ask]; omega⟩
theorem GoodV.give {M : VM} {b : Int} (G : GoodV M) : GoodV (giveA M b).2 ∧ frS (giveA M b).2.lv = frS M.lv := by
  have hb := askV_b M b
  have hO := G.ok.hi
  unfold giveA
  split
  · rename_i h1
    have hbb := hb.2.2 h1
    split
    · exact ⟨G.ask, frS_ask⟩
    · split
      · refine ⟨(G.ask.read).take (.two G.ask.wd.read ⟨by dsimp only; omega, by dsimp only; omega⟩), by rw [frS_take, frS_read, frS_ask]⟩
      · exact ⟨G.ask.read, by rw [frS_read, frS_ask]⟩
  · exact ⟨G.ask, frS_ask⟩
theorem GoodV.again {M : VM} {c b : Int} (G : GoodV M) (hc : 0 ≤ c ∧ c ≤ 4) : GoodV (againV M c b).2 ∧ frS (againV M c b).2.lv = frS M.lv := by
  have ht : WdC [(c, (readV M b).1.1), (b - 1, c + 8)] := .two G.wd.read ⟨by dsimp only; omega, by dsimp only; omega⟩
  unfold againV
  repeat' split
  · exact ⟨G, rfl⟩
  · exact ⟨G.read.take ht, by rw [frS_take, frS_read]⟩
  · exact ⟨G.read.take ht, by rw [frS_take, frS_read]⟩
  · exact ⟨G.read, frS_read⟩
theorem GoodV.grown {M : VM} {c : Int} (G : GoodV M) (hc : 0 ≤ c ∧ c ≤ 4) : GoodV (grownV M c).2 ∧ frS (grownV M c).2.lv = frS M.lv := by
  have hs := sizeA_b c
  have hw := G.wd.read (p := 5)
  unfold grownV
  split
  · split
    · exact ⟨G.read, frS_read⟩
    · rename_i h1
      have ht : WdC [(5, (readV M 5).1.1 + 1 + sizeA c), ((readV M 5).1.1, c + 8)] := .two ⟨by dsimp only; omega, by dsimp only; omega⟩ ⟨by dsimp only; omega, by dsimp only; omega⟩
      split
      · exact ⟨G.read.take ht, by rw [frS_take, frS_read]⟩
      · exact ⟨G.read.take ht, by rw [frS_take, frS_read]⟩
  · exact ⟨G.read, frS_read⟩
theorem GoodV.alloc {M : VM} {x : Int} (G : GoodV M) : GoodV (allocV M x).2 ∧ frS (allocV M x).2.lv = frS M.lv := by
  have hc := classA_b x
  unfold allocV
  repeat' split
  · exact ⟨G, rfl⟩
  · exact ⟨(G.read.grown hc).1, by rw [(G.read.grown hc).2, frS_read]⟩
  · exact ⟨(G.read.again hc).1, by rw [(G.read.again hc).2, frS_read]⟩
  · exact ⟨G.read, frS_read⟩
theorem GoodV.openG {M : VM} (G : GoodV M) : GoodV (openV M).2 ∧ frS (openV M).2.lv = frS M.lv := by
  have e : (openL M.lv).2 = M.lv ∨ (openL M.lv).2 = ([], []) :: M.lv := by unfold openL; split <;> simp
  refine ⟨⟨⟨G.ok.lo, G.ok.hi, openL_ok G.ok.lvs, G.ok.ins, G.ok.un, ?_⟩, G.wd.k, ?_⟩, ?_⟩
  · show ∀ x ∈ (openL M.lv).2, _
    rcases e with e | e
    · rw [e]; exact G.ok.fr
    · rw [e]; intro x hx
      rcases List.mem_cons.1 hx with rfl | hx
      · simp
      · exact G.ok.fr x hx
  · show ∀ x ∈ (openL M.lv).2, _
    rcases e with e | e
    · rw [e]; exact G.wd.l
    · rw [e]; intro x hx
      rcases List.mem_cons.1 hx with rfl | hx
      · intro c hc; cases hc
      · exact G.wd.l x hx
  · show frS (openL M.lv).2 = _
    rcases e with e | e
    · rw [e]
    · rw [e, frS_cons]; simp
theorem GoodV.dropG {M : VM} (G : GoodV M) : GoodV (dropV M).2 ∧ frS (dropV M).2.lv ≤ frS M.lv := by
  have e : (dropL M.lv).2 = M.lv ∨ (dropL M.lv).2 = M.lv.tail := by unfold dropL; split <;> simp
  have hs : ∀ x ∈ (dropL M.lv).2, x ∈ M.lv := by
    rcases e with e | e
    · rw [e]; exact fun x hx => hx
    · rw [e]; exact fun x hx => List.mem_of_mem_tail hx
  refine ⟨⟨⟨G.ok.lo, G.ok.hi, dropL_ok G.ok.lvs, G.ok.ins, G.ok.un, fun x hx => G.ok.fr x (hs x hx)⟩, G.wd.k, fun x hx => G.wd.l x (hs x hx)⟩, ?_⟩
  show frS (dropL M.lv).2 ≤ _
  rcases e with e | e
  · rw [e]; exact Nat.le_refl _
  · rw [e]
    cases M.lv with
    | nil => exact Nat.le_refl _
    | cons x r => rw [frS_cons]; show frS r ≤ _; omega
theorem GoodV.keepG {M : VM} (G : GoodV M) (hf : frS M.lv < 90000) : GoodV (keepV M).2 ∧ frS (keepV M).2.lv = frS M.lv := by
  have hd := keepL_ok G.ok.lvs
  have hfr := fun x (hx : x ∈ (keepL M.lv).2) => fr_le hx
  obtain ⟨sz, K, most, lv, need⟩ := M
  rcases lv with _ | ⟨x, _ | ⟨y, r⟩⟩
  · exact ⟨G, rfl⟩
  · exact ⟨G, rfl⟩
  · have e := frS_keep (x := x) (y := y) (r := r)
    refine ⟨⟨⟨G.ok.lo, G.ok.hi, hd, G.ok.ins, G.ok.un, fun z hz => ?_⟩, G.wd.k, fun z hz => ?_⟩, e⟩
    · have := hfr z hz
      rw [e] at this
      have hf : frS (x :: y :: r) < 90000 := hf
      omega
    · have hl := G.wd.l
      have hx : WdC x.1 := hl x (by simp)
      have hy : WdC y.1 := hl y (by simp)
      have hz : z ∈ (putsC y.1 x.1, y.2 ++ x.2) :: r := hz
      rcases List.mem_cons.1 hz with rfl | hz
      · exact hy.puts hx
      · exact hl z (by simp [hz])

/-! ### an ask -/
theorem do_ok {n : Nat} (hn : 13 ≤ n) {v o : Nat} {M : VM} {a b : Int} {t : Bool} {tv : AV} {td : List Int} (H : HS g h (ViewC v M :: RvC o M :: SliC 3 1 td.length tv (td.map (.int .i64)) :: R)) (G : GoodV M) (hf : frS M.lv < 80000) (ht : td.length < 100000) :
    wp (callT tab rtab n (.fn 24 [] []) [.ptr v 0, .ptr o 0, .agg [.int .i64 a, .int .i64 b, .bool t], tv] h) fun r h' => ∃ (M' : VM) (tv' : AV) (td' : List Int), r = .tup [tv', .bool true] ∧ GoodV M' ∧ frS M'.lv ≤ frS M.lv + 1 ∧ td'.length ≤ td.length + 1 ∧
      AskP M M' ∧ HS g h' (ViewC v M' :: RvC o M' :: SliC 3 1 td'.length tv' (td'.map (.int .i64)) :: R) := by
  (refine ww_fn (g := W24) rfl (by omega) fun k hk => ?_; show wp (S24 (callT tab rtab k) _ _ _ _ _) _; unfold S24; try simp only [Int.ofNat_eq_natCast])
  refine ww_boxA H rfl fun b0 h1 H => ?_
  refine ww_field0 (ww_ldH H .here rfl ?_)
  refine ww_call (within_ok (by omega) (by omega) (by omega) (by omega)) ?_
  rintro _ h1 ⟨rfl, rfl⟩
  refine ww_joinD [] (fun s g' => ∃ x : Int, s = (.int .i64 x, .ptr b0 0, tv, .ptr o 0, .ptr v 0, ()) ∧ g' = h1) ?_ ?_
  · intro j hj
    with_reducible (refine ww_field0 ?_; refine ww_ldH (by assumption) .here (by with_unfolding_all exact rfl) ?_; refine ww_joinS ?_; (try dsimp only))
    cases t with
    | false =>
      with_reducible (refine ww_wantFT ?_; (try dsimp only); refine ww_pickF ?_; refine ww_condF ?_)
      exact hj _ _ ⟨_, rfl, rfl⟩
    | true =>
      with_reducible (refine ww_wantTT ?_; (try dsimp only); refine ww_lenH (by assumption) (.there (.there (.there .here))) ?_)
      by_cases hl : 0 < td.length
      · with_reducible (refine ww_gtrT (by omega) ?_; refine ww_pickT ?_; refine ww_condT ?_; refine ww_field0 ?_; refine ww_ldH (by assumption) .here (by with_unfolding_all exact rfl) ?_; refine ww_lenH (by assumption) (.there (.there (.there .here))) ?_; refine ww_subI (by omega) ?_)
        refine ww_call (within_ok (by omega) (by omega) (by omega) (by omega)) ?_
        rintro _ _ ⟨rfl, rfl⟩
        have hb := within_bounds b (show ((0 : Nat) : Int) ≤ (td.length : Int) - ((1 : Nat) : Int) by omega)
        generalize withinZ b ((0 : Nat) : Int) ((td.length : Int) - ((1 : Nat) : Int)) = w at hb ⊢
        obtain ⟨i, rfl⟩ : ∃ i : Nat, w = (i : Int) := ⟨w.toNat, by omega⟩
        refine ww_idx1 (H.sl (.there (.there (.there .here)))) (x := .int .i64 (td[i]'(by omega))) (by rw [List.getElem?_map, List.getElem?_eq_getElem (by omega)]; rfl) ?_
        exact hj _ _ ⟨_, rfl, rfl⟩
      · with_reducible (refine ww_gtrF (by omega) ?_; refine ww_pickT ?_; refine ww_condF ?_)
        exact hj _ _ ⟨_, rfl, rfl⟩
  rintro s _ ⟨x, rfl, rfl⟩
  dsimp only
  refine ww_field0 (ww_ldH H .here rfl ?_)
  refine ww_call (within_ok (by omega) (by omega) (by omega) (by omega)) ?_
  rintro _ _ ⟨rfl, rfl⟩
  have hb := within_bounds a (show ((0 : Nat) : Int) ≤ ((9 : Nat) : Int) by omega)
  generalize withinZ a ((0 : Nat) : Int) ((9 : Nat) : Int) = w at hb ⊢
  rcases (show (w = 0 ∨ w = 5) ∨ (w = 1 ∨ w = 6) ∨ w = 2 ∨ w = 3 ∨ w = 4 ∨ 7 ≤ w by omega) with hw | hw | hw | hw | hw | hw
  · have hG := G.free (b := x) (by omega)
    rcases hw with rfl | rfl
    all_goals
      (first | with_reducible (refine ww_joinS ?_; (try dsimp only); refine ww_eqlF (by omega) ?_; refine ww_condF ?_; refine ww_eqlT (by omega) ?_; refine ww_condT ?_) | with_reducible (refine ww_joinS ?_; (try dsimp only); refine ww_eqlT (by omega) ?_; refine ww_condT ?_; refine ww_condT ?_))
      refine ww_call (afree_ok (by omega) (H.sel (.there .here)) G.ok) ?_
      rintro _ h2 ⟨rfl, H2⟩
      refine ww_call (rfree_ok (by omega) (H2.sel (.there (.there .here))) G.ok G.wd) ?_
      rintro _ h3 ⟨rfl, H3⟩
      with_reducible (refine ww_eqlT (by omega) ?_; refine ww_leave ?_)
      exact ww_ret ⟨(freeA M x).2, tv, td, rfl, hG.1, hG.2, by omega, free_ask M x, H3.sub (.cons (.there .here) (.cons .here (.cons (.there .here) (.drop (.refl)))))⟩
  · have hG := G.give (b := x)
    rcases hw with rfl | rfl
    all_goals
      (first | with_reducible (refine ww_joinS ?_; (try dsimp only); refine ww_eqlF (by omega) ?_; refine ww_condF ?_; refine ww_eqlF (by omega) ?_; refine ww_condF ?_; refine ww_joinS ?_; (try dsimp only); refine ww_eqlF (by omega) ?_; refine ww_condF ?_; refine ww_eqlT (by omega) ?_; refine ww_condT ?_) | with_reducible (refine ww_joinS ?_; (try dsimp only); refine ww_eqlF (by omega) ?_; refine ww_condF ?_; refine ww_eqlF (by omega) ?_; refine ww_condF ?_; refine ww_joinS ?_; (try dsimp only); refine ww_eqlT (by omega) ?_; refine ww_condT ?_; refine ww_condT ?_))
      refine ww_call (agive_ok (by omega) (H.sel (.there .here)) G.ok) ?_
      rintro _ h2 ⟨rfl, H2⟩
      refine ww_call (rgive_ok (by omega) (H2.sel (.there (.there .here))) G.ok G.wd) ?_
      rintro _ h3 ⟨rfl, H3⟩
      with_reducible (refine ww_eqlT (by omega) ?_; refine ww_leave ?_)
      exact ww_ret ⟨(giveA M x).2, tv, td, rfl, hG.1, by omega, by omega, give_ask M x, H3.sub (.cons (.there .here) (.cons .here (.cons (.there .here) (.drop (.refl)))))⟩
  · have hG := G.openG
    obtain ⟨kv, q, H⟩ := RvC.E (H.sel (.there (.there .here)))
    subst hw
    with_reducible (refine ww_joinS ?_; (try dsimp only); refine ww_eqlF (by omega) ?_; refine ww_condF ?_; refine ww_eqlF (by omega) ?_; refine ww_condF ?_; refine ww_joinS ?_; (try dsimp only); refine ww_eqlF (by omega) ?_; refine ww_condF ?_; refine ww_eqlF (by omega) ?_; refine ww_condF ?_; refine ww_eqlT (by omega) ?_; refine ww_condT ?_; refine ww_joinS ?_; (try dsimp only))
    refine ww_call (vopen_ok (by omega) (H.sel (.there (.there (.there (.there .here))))) G.ok) ?_
    rintro _ h2 ⟨rfl, H2⟩
    with_reducible (refine ww_nil ?_; refine ww_field0 ?_; refine ww_ldH (by assumption) (.there .here) (by with_unfolding_all exact rfl) ?_)
    refine ww_call (rlopen_ok (by omega) (H2.sel (.there (.there (.there .here)))) G.ok.lvs) ?_
    rintro _ h3 ⟨rfl, H3⟩
    have H4 := RvC.I (M := (openV M).2) (kv := kv) (q := q) (R := ViewC v (openV M).2 :: SliC 3 1 td.length tv (td.map (.int .i64)) :: R) (H3.sub (.cons (.there (.there .here)) (.cons (.there (.there .here)) (.cons .here (.cons .here (.cons (.there .here) (.drop (.refl))))))))
    refine ww_eqlT rfl ?_
    with_reducible (refine ww_chkH (by assumption) .here (by with_unfolding_all exact rfl) (by assumption) (.there .here) (by with_unfolding_all exact rfl) (HS.lt (by assumption) .here) ?_; refine ww_leave ?_)
    exact ww_ret ⟨(openV M).2, tv, td, rfl, hG.1, by omega, by omega, ⟨rfl, rfl, rfl, .inl rfl⟩, H4.sub (.cons (.there .here) (.refl))⟩
  · have hG := G.keepG (by omega)
    obtain ⟨kv, q, H⟩ := RvC.E (H.sel (.there (.there .here)))
    subst hw
    with_reducible (refine ww_joinS ?_; (try dsimp only); refine ww_eqlF (by omega) ?_; refine ww_condF ?_; refine ww_eqlF (by omega) ?_; refine ww_condF ?_; refine ww_joinS ?_; (try dsimp only); refine ww_eqlF (by omega) ?_; refine ww_condF ?_; refine ww_eqlF (by omega) ?_; refine ww_condF ?_; refine ww_eqlF (by omega) ?_; refine ww_condF ?_; refine ww_eqlT (by omega) ?_; refine ww_condT ?_; refine ww_joinS ?_; (try dsimp only))
    refine ww_call (vkeep_ok (by omega) (H.sel (.there (.there (.there (.there .here))))) G.ok) ?_
    rintro _ h2 ⟨rfl, H2⟩
    with_reducible (refine ww_nil ?_; refine ww_field0 ?_; refine ww_ldH (by assumption) (.there .here) (by with_unfolding_all exact rfl) ?_)
    refine ww_call (rlkeep_ok (by omega) (H2.sel (.there (.there (.there .here)))) G.ok.lvs (by omega)) ?_
    rintro _ h3 ⟨rfl, H3⟩
    have H4 := RvC.I (M := (keepV M).2) (kv := kv) (q := q) (R := ViewC v (keepV M).2 :: SliC 3 1 td.length tv (td.map (.int .i64)) :: R) (H3.sub (.cons (.there (.there .here)) (.cons (.there (.there .here)) (.cons .here (.cons .here (.cons (.there .here) (.drop (.refl))))))))
    refine ww_eqlT rfl ?_
    with_reducible (refine ww_chkH (by assumption) .here (by with_unfolding_all exact rfl) (by assumption) (.there .here) (by with_unfolding_all exact rfl) (HS.lt (by assumption) .here) ?_; refine ww_leave ?_)
    exact ww_ret ⟨(keepV M).2, tv, td, rfl, hG.1, by omega, by omega, ⟨rfl, rfl, rfl, .inl rfl⟩, H4.sub (.cons (.there .here) (.refl))⟩
  · have hG := G.dropG
    obtain ⟨kv, q, H⟩ := RvC.E (H.sel (.there (.there .here)))
    subst hw
    with_reducible (refine ww_joinS ?_; (try dsimp only); refine ww_eqlF (by omega) ?_; refine ww_condF ?_; refine ww_eqlF (by omega) ?_; refine ww_condF ?_; refine ww_joinS ?_; (try dsimp only); refine ww_eqlF (by omega) ?_; refine ww_condF ?_; refine ww_eqlF (by omega) ?_; refine ww_condF ?_; refine ww_eqlF (by omega) ?_; refine ww_condF ?_; refine ww_eqlF (by omega) ?_; refine ww_condF ?_; refine ww_eqlT (by omega) ?_; refine ww_condT ?_; refine ww_joinS ?_; (try dsimp only))
    refine ww_call (vdrop_ok (by omega) (H.sel (.there (.there (.there (.there .here))))) G.ok) ?_
    rintro _ h2 ⟨rfl, H2⟩
    with_reducible (refine ww_nil ?_; refine ww_field0 ?_; refine ww_ldH (by assumption) (.there .here) (by with_unfolding_all exact rfl) ?_)
    refine ww_call (rldrop_ok (by omega) (H2.sel (.there (.there (.there .here)))) G.ok.lvs) ?_
    rintro _ h3 ⟨rfl, H3⟩
    have H4 := RvC.I (M := (dropV M).2) (kv := kv) (q := q) (R := ViewC v (dropV M).2 :: SliC 3 1 td.length tv (td.map (.int .i64)) :: R) (H3.sub (.cons (.there (.there .here)) (.cons (.there (.there .here)) (.cons .here (.cons .here (.cons (.there .here) (.drop (.refl))))))))
    refine ww_eqlT rfl ?_
    with_reducible (refine ww_chkH (by assumption) .here (by with_unfolding_all exact rfl) (by assumption) (.there .here) (by with_unfolding_all exact rfl) (HS.lt (by assumption) .here) ?_; refine ww_leave ?_)
    exact ww_ret ⟨(dropV M).2, tv, td, rfl, hG.1, by omega, by omega, ⟨rfl, rfl, rfl, .inl rfl⟩, H4.sub (.cons (.there .here) (.refl))⟩
  · with_reducible (refine ww_joinS ?_; (try dsimp only); refine ww_eqlF (by omega) ?_; refine ww_condF ?_; refine ww_eqlF (by omega) ?_; refine ww_condF ?_; refine ww_joinS ?_; (try dsimp only); refine ww_eqlF (by omega) ?_; refine ww_condF ?_; refine ww_eqlF (by omega) ?_; refine ww_condF ?_; refine ww_eqlF (by omega) ?_; refine ww_condF ?_; refine ww_eqlF (by omega) ?_; refine ww_condF ?_; refine ww_eqlF (by omega) ?_; refine ww_condF ?_; refine ww_field0 ?_; refine ww_ldH (by assumption) .here (by with_unfolding_all exact rfl) ?_)
    refine ww_call (within_ok (by omega) (by show Int.negSucc 0 ≤ _; omega) (by show -1000000000 ≤ Int.negSucc 0; omega) (by omega)) ?_
    rintro _ _ ⟨rfl, rfl⟩
    generalize withinZ b (Int.negSucc 0) ((17 : Nat) : Int) = y
    have hG := G.alloc (x := y)
    refine ww_call (aalloc_ok (by omega) (H.sel (.there .here)) G.ok G.wd) ?_
    rintro _ h2 ⟨rfl, H2⟩
    with_reducible (refine ww_extract (by with_unfolding_all exact rfl) ?_; refine ww_extract (by with_unfolding_all exact rfl) ?_)
    refine ww_call (ralloc_ok (by omega) (H2.sel (.there (.there .here))) G.ok G.wd) ?_
    rintro _ h3 ⟨rfl, H3⟩
    with_reducible (refine ww_extract (by with_unfolding_all exact rfl) ?_; refine ww_extract (by with_unfolding_all exact rfl) ?_; refine ww_joinS ?_; (try dsimp only))
    by_cases he : (allocV M y).1.2 = 0
    · with_reducible (refine ww_eqlT (by omega) ?_; refine ww_condT ?_)
      refine ww_appN H3 (H3.sl (.there (.there (.there .here)))) (by omega) (by omega) (allOne_ints _) fun v4 h4 H4 => ?_
      refine ww_buildSH (n := 1) (l := [.int .i64 (allocV M y).1.1]) (sz := 1) H4 rfl rfl rfl rfl fun v5 h5 H5 => ?_
      refine ww_appH (H5.sel (.there .here)) (H5.sl .here) (by omega) (by omega) rfl fun v6 h6 H6 => ?_
      refine ww_eqlT rfl ?_
      with_reducible (refine ww_joinS ?_; (try dsimp only); refine ww_wantTT ?_; (try dsimp only); refine ww_eqlT (by omega) ?_; refine ww_pickT ?_; refine ww_leave ?_)
      refine ww_ret ⟨(allocV M y).2, v6, td ++ [(allocV M y).1.1], rfl, hG.1, by omega, by simp, alloc_ask M y, ?_⟩
      rw [List.map_append, List.length_append]
      exact H6.sub (.cons (.there (.there (.there .here))) (.cons (.there (.there .here)) (.cons .here (.drop (.drop (.drop (.refl)))))))
    · with_reducible (refine ww_eqlF (by omega) ?_; refine ww_condF ?_; refine ww_eqlT (by omega) ?_; refine ww_joinS ?_; (try dsimp only); refine ww_wantTT ?_; (try dsimp only); refine ww_eqlT (by omega) ?_; refine ww_pickT ?_; refine ww_leave ?_)
      exact ww_ret ⟨(allocV M y).2, tv, td, rfl, hG.1, by omega, by omega, alloc_ask M y, H3.sub (.cons (.there .here) (.cons .here (.cons (.there .here) (.drop (.refl)))))⟩
end Go.Proofs.Ytaepnpodenmmoaa
