/- An ask on both; what both show. -/
import Derived.Test.YtpohfcljfemhlaaArenaR
import Derived.Test.YtpohfcljfemhlaaBookWithin
import Derived.Test.YtpohfcljfemhlaaBookSameI
import Derived.Test.YtpohfcljfemhlaaBookSameU
import Derived.Test.YtpohfcljfemhlaaBookSameC
namespace Go.Proofs.Ytpohfcljfemhlaa
open Go Go.Ae
set_option maxRecDepth 100000

variable {g h : AH} {L R : List SP}

/-! ### what an ask leaves alone -/
/-- nothing but what is asked for; or nothing is asked for anew -/
def AskP (M M' : VM) : Prop := M'.sz = M.sz ∧ M'.K = M.K ∧ M'.most = M.most ∧ (M'.need = M.need ∨ M'.lv = M.lv ∧ 1 ≤ M'.need ∧ M'.need < M.sz ∧ getC M'.need M.K = none)
theorem AskP.refl (M : VM) : AskP M M := ⟨rfl, rfl, rfl, .inl rfl⟩
theorem read_zero {M : VM} {p : Int} (h : (readV M p).1.2 = 0) : (readV M p).2 = M := by
  unfold readV at h ⊢
  split
  · rename_i h1
    rw [if_pos h1] at h
    split
    · rfl
    · rename_i h2
      rw [h2] at h
      dsimp only at h ⊢
      split
      · rfl
      · rename_i h3
        rw [h3] at h
        cases h
  · rfl
theorem read_ask (M : VM) (p : Int) : AskP M (readV M p).2 := by
  unfold readV
  split
  · rename_i h1
    split
    · exact .refl M
    · split
      · exact .refl M
      · rename_i h3
        exact ⟨rfl, rfl, rfl, .inr ⟨rfl, h1.1, h1.2, h3⟩⟩
  · exact .refl M
theorem take_ask {M N : VM} {cs : List Cl} (h : N = M) : AskP M (takeV N cs).2 := by
  subst h
  unfold takeV
  split
  · exact ⟨rfl, rfl, rfl, .inl rfl⟩
  · exact .refl N
theorem ask_ask (M : VM) (b : Int) : AskP M (askV M b).2 ∧ ((askV M b).1.2.2 = 0 → (askV M b).2 = M) := by
  unfold askV
  split
  · exact ⟨.refl M, fun _ => rfl⟩
  · split
    · rename_i h1
      split
      · exact ⟨read_ask M _, fun _ => read_zero h1⟩
      · exact ⟨read_ask M _, fun _ => read_zero h1⟩
    · rename_i h1
      exact ⟨read_ask M _, fun h => absurd h h1⟩
theorem free_ask (M : VM) (b : Int) : AskP M (freeA M b).2 := by
  have ha := ask_ask M b
  unfold freeA
  split
  · rename_i h1
    have e := ha.2 h1
    split
    · split
      · have := take_ask (M := M) (cs := [(b - 1, (askV M b).1.1)]) e
        obtain ⟨t1, t2, t3, t4⟩ := this
        refine ⟨t1, t2, t3, ?_⟩
        show (takeV (askV M b).2 [(b - 1, (askV M b).1.1)]).2.need = M.need ∨ _
        rw [e]
        left
        unfold takeV
        split <;> rfl
      · exact take_ask e
    · exact ha.1
  · exact ha.1
theorem give_ask (M : VM) (b : Int) : AskP M (giveA M b).2 := by
  have ha := ask_ask M b
  unfold giveA
  split
  · rename_i h1
    have e := ha.2 h1
    split
    · exact ha.1
    · split
      · rename_i h2
        exact take_ask ((read_zero h2).trans e)
      · rw [e]; exact read_ask M _
  · exact ha.1
theorem again_ask (M : VM) (c b : Int) : AskP M (againV M c b).2 := by
  unfold againV
  split
  · exact .refl M
  · split
    · rename_i h1
      have e := read_zero h1
      split
      · exact take_ask e
      · exact take_ask e
    · exact read_ask M _
theorem grown_ask (M : VM) (c : Int) : AskP M (grownV M c).2 := by
  unfold grownV
  split
  · rename_i h1
    have e := read_zero h1
    split
    · exact read_ask M _
    · split
      · exact take_ask e
      · exact take_ask e
  · exact read_ask M _
theorem alloc_ask (M : VM) (x : Int) : AskP M (allocV M x).2 := by
  unfold allocV
  split
  · exact .refl M
  · split
    · rename_i h1
      have e := read_zero h1
      split
      · rw [e]; exact grown_ask M _
      · rw [e]; exact again_ask M _ _
    · exact read_ask M _

/-! ### lengths, words -/
theorem frS_put {most : Nat} {lv : List LvM} {p v : Int} : frS (putL most lv p v).2 = frS lv := by
  cases lv with
  | nil => rfl
  | cons x r =>
    obtain ⟨c, hc⟩ := putL_tail (most := most) (x := x) (r := r) (p := p) (v := v)
    rw [hc, frS_cons, frS_cons]
theorem frS_takeL {most : Nat} {was : List LvM} : ∀ {cs : List Cl} {lv : List LvM}, frS lv = frS was → frS (takeL most was lv cs).2 = frS was := by
  intro cs
  induction cs with
  | nil => intro lv h; exact h
  | cons c cs ih =>
    intro lv h
    rw [takeL_cons]
    split
    · exact ih (frS_put.trans h)
    · rfl
theorem frS_take {M : VM} {cs : List Cl} : frS (takeV M cs).2.lv = frS M.lv := by
  unfold takeV
  split
  · exact frS_takeL rfl
  · rfl
theorem frS_read {M : VM} {p : Int} : frS (readV M p).2.lv = frS M.lv := by
  unfold readV
  repeat' split
  all_goals rfl
theorem frS_ask {M : VM} {b : Int} : frS (askV M b).2.lv = frS M.lv := by
  unfold askV
  repeat' split
  all_goals first | rfl | exact frS_read
theorem frS_freeL {lv : List LvM} {b : Int} : frS (freeL lv b) ≤ frS lv + 1 := by
  cases lv with
  | nil => simp [freeL]
  | cons x r =>
    show frS ((x.1, x.2 ++ [b]) :: r) ≤ _
    rw [frS_cons, frS_cons, List.length_append]; simp; omega
theorem fr_le : ∀ {lv : List LvM} {x : LvM}, x ∈ lv → x.2.length ≤ frS lv := by
  intro l
  induction l with
  | nil => intro x hx; cases hx
  | cons y r ih =>
    intro x hx
    rw [frS_cons]
    rcases List.mem_cons.1 hx with rfl | hx
    · omega
    · have := ih hx; omega

/-- all that is to be kept of a view -/
structure GoodV (M : VM) : Prop where
  ok : OkV M
  wd : WdV M
theorem wd_small {l : List Cl} (h : ∀ c ∈ l, 0 ≤ c.2 ∧ c.2 < 18446744073709551616) : WdC l := h
theorem GoodV.read {M : VM} {p : Int} (G : GoodV M) : GoodV (readV M p).2 := ⟨readV_ok G.ok, G.wd.read2⟩
theorem GoodV.take {M : VM} {cs : List Cl} (G : GoodV M) (h : WdC cs) : GoodV (takeV M cs).2 := ⟨takeV_ok G.ok, G.wd.take h⟩
theorem GoodV.ask {M : VM} {b : Int} (G : GoodV M) : GoodV (askV M b).2 := ⟨askV_ok G.ok, askV_wd G.wd⟩
theorem WdC.two {a b : Cl} (ha : 0 ≤ a.2 ∧ a.2 < 18446744073709551616) (hb : 0 ≤ b.2 ∧ b.2 < 18446744073709551616) : WdC [a, b] := by
  intro c hc
  rcases List.mem_cons.1 hc with rfl | hc
  · exact ha
  · rw [List.mem_singleton] at hc; subst hc; exact hb
theorem WdC.one1 {a : Cl} (ha : 0 ≤ a.2 ∧ a.2 < 18446744073709551616) : WdC [a] := by
  intro c hc
  rw [List.mem_singleton] at hc; subst hc; exact ha
theorem GoodV.freeV {M : VM} {b : Int} (G : GoodV M) (hf : frS M.lv < 90000) : GoodV (freeV M b) := by
  refine ⟨freeV_ok G.ok fun x hx => by have := fr_le hx; omega, G.wd.k, ?_⟩
  show ∀ x ∈ freeL M.lv b, ∀ c ∈ x.1, 0 ≤ c.2 ∧ c.2 < 18446744073709551616
  have := G.wd.l
  cases hl : M.lv with
  | nil => intro x hx; cases hx
  | cons y r =>
    rw [hl] at this
    intro x hx
    rcases List.mem_cons.1 hx with rfl | hx
    · exact this y (List.mem_cons_self ..)
    · exact this x (List.mem_cons_of_mem _ hx)
theorem GoodV.free {M : VM} {b : Int} (G : GoodV M) (hf : frS M.lv < 90000) : GoodV (freeA M b).2 ∧ frS (freeA M b).2.lv ≤ frS M.lv + 1 := by
  have hb := askV_b M b
  have hc : WdC [(b - 1, (askV M b).1.1)] := .one1 ⟨hb.1, by dsimp only; omega⟩
  unfold freeA
  repeat' split
  · refine ⟨(G.ask.take hc).freeV (by rw [frS_take, frS_ask]; exact hf), ?_⟩
    have := frS_freeL (lv := (takeV (askV M b).2 [(b - 1, (askV M b).1.1)]).2.lv) (b := b)
    rw [frS_take, frS_ask] at this
    exact this
  · exact ⟨G.ask.take hc, by rw [frS_take, frS_ask]; omega⟩
  · exact ⟨G.ask, by rw [frS_ask]; omega⟩
  · exact ⟨G.ask, by rw [frS_ask]; omega⟩
theorem GoodV.give {M : VM} {b : Int} (G : GoodV M) : GoodV (giveA M b).2 ∧ frS (giveA M b).2.lv = frS M.lv := by
  have hb := askV_b M b
  have hO := G.ok.hi
  unfold giveA
  split
  · rename_i h1
    have hbb := hb.2.2 h1
    split
    · exact ⟨G.ask, frS_ask⟩
    · split
      · refine ⟨(G.ask.read).take (.two G.ask.wd.read ⟨by dsimp only; omega, by dsimp only; omega⟩), by rw [frS_take, frS_read, frS_ask]⟩
      · exact ⟨G.ask.read, by rw [frS_read, frS_ask]⟩
  · exact ⟨G.ask, frS_ask⟩
theorem GoodV.again {M : VM} {c b : Int} (G : GoodV M) (hc : 0 ≤ c ∧ c ≤ 4) : GoodV (againV M c b).2 ∧ frS (againV M c b).2.lv = frS M.lv := by
  have ht : WdC [(c, (readV M b).1.1), (b - 1, c + 8)] := .two G.wd.read ⟨by dsimp only; omega, by dsimp only; omega⟩
  unfold againV
  repeat' split
  · exact ⟨G, rfl⟩
  · exact ⟨G.read.take ht, by rw [frS_take, frS_read]⟩
  · exact ⟨G.read.take ht, by rw [frS_take, frS_read]⟩
  · exact ⟨G.read, frS_read⟩
theorem GoodV.grown {M : VM} {c : Int} (G : GoodV M) (hc : 0 ≤ c ∧ c ≤ 4) : GoodV (grownV M c).2 ∧ frS (grownV M c).2.lv = frS M.lv := by
  have hs := sizeA_b c
  have hw := G.wd.read (p := 5)
  unfold grownV
  split
  · split
    · exact ⟨G.read, frS_read⟩
    · rename_i h1
      have ht : WdC [(5, (readV M 5).1.1 + 1 + sizeA c), ((readV M 5).1.1, c + 8)] := .two ⟨by dsimp only; omega, by dsimp only; omega⟩ ⟨by dsimp only; omega, by dsimp only; omega⟩
      split
      · exact ⟨G.read.take ht, by rw [frS_take, frS_read]⟩
      · exact ⟨G.read.take ht, by rw [frS_take, frS_read]⟩
  · exact ⟨G.read, frS_read⟩
theorem GoodV.alloc {M : VM} {x : Int} (G : GoodV M) : GoodV (allocV M x).2 ∧ frS (allocV M x).2.lv = frS M.lv := by
  have hc := classA_b x
  unfold allocV
  repeat' split
  · exact ⟨G, rfl⟩
  · exact ⟨(G.read.grown hc).1, by rw [(G.read.grown hc).2, frS_read]⟩
  · exact ⟨(G.read.again hc).1, by rw [(G.read.again hc).2, frS_read]⟩
  · exact ⟨G.read, frS_read⟩
theorem GoodV.openG {M : VM} (G : GoodV M) : GoodV (openV M).2 ∧ frS (openV M).2.lv = frS M.lv := by
  have e : (openL M.lv).2 = M.lv ∨ (openL M.lv).2 = ([], []) :: M.lv := by unfold openL; split <;> simp
  refine ⟨⟨⟨G.ok.lo, G.ok.hi, openL_ok G.ok.lvs, G.ok.ins, G.ok.un, ?_⟩, G.wd.k, ?_⟩, ?_⟩
  · show ∀ x ∈ (openL M.lv).2, _
    rcases e with e | e
    · rw [e]; exact G.ok.fr
    · rw [e]; intro x hx
      rcases List.mem_cons.1 hx with rfl | hx
      · simp
      · exact G.ok.fr x hx
  · show ∀ x ∈ (openL M.lv).2, _
    rcases e with e | e
    · rw [e]; exact G.wd.l
    · rw [e]; intro x hx
      rcases List.mem_cons.1 hx with rfl | hx
      · intro c hc; cases hc
      · exact G.wd.l x hx
  · show frS (openL M.lv).2 = _
    rcases e with e | e
    · rw [e]
    · rw [e, frS_cons]; simp
theorem GoodV.dropG {M : VM} (G : GoodV M) : GoodV (dropV M).2 ∧ frS (dropV M).2.lv ≤ frS M.lv := by
  have e : (dropL M.lv).2 = M.lv ∨ (dropL M.lv).2 = M.lv.tail := by unfold dropL; split <;> simp
  have hs : ∀ x ∈ (dropL M.lv).2, x ∈ M.lv := by
    rcases e with e | e
    · rw [e]; exact fun x hx => hx
    · rw [e]; exact fun x hx => List.mem_of_mem_tail hx
  refine ⟨⟨⟨G.ok.lo, G.ok.hi, dropL_ok G.ok.lvs, G.ok.ins, G.ok.un, fun x hx => G.ok.fr x (hs x hx)⟩, G.wd.k, fun x hx => G.wd.l x (hs x hx)⟩, ?_⟩
  show frS (dropL M.lv).2 ≤ _
  rcases e with e | e
  · rw [e]; exact Nat.le_refl _
  · rw [e]
    cases M.lv with
    | nil => exact Nat.le_refl _
    | cons x r => rw [frS_cons]; show frS r ≤ _; omega
theorem GoodV.keepG {M : VM} (G : GoodV M) (hf : frS M.lv < 90000) : GoodV (keepV M).2 ∧ frS (keepV M).2.lv = frS M.lv := by
  have hd := keepL_ok G.ok.lvs
  have hfr := fun x (hx : x ∈ (keepL M.lv).2) => fr_le hx
  obtain ⟨sz, K, most, lv, need⟩ := M
  rcases lv with _ | ⟨x, _ | ⟨y, r⟩⟩
  · exact ⟨G, rfl⟩
  · exact ⟨G, rfl⟩
  · have e := frS_keep (x := x) (y := y) (r := r)
    refine ⟨⟨⟨G.ok.lo, G.ok.hi, hd, G.ok.ins, G.ok.un, fun z hz => ?_⟩, G.wd.k, fun z hz => ?_⟩, e⟩
    · have := hfr z hz
      rw [e] at this
      have hf : frS (x :: y :: r) < 90000 := hf
      omega
    · have hl := G.wd.l
      have hx : WdC x.1 := hl x (by simp)
      have hy : WdC y.1 := hl y (by simp)
      have hz : z ∈ (putsC y.1 x.1, y.2 ++ x.2) :: r := hz
      rcases List.mem_cons.1 hz with rfl | hz
      · exact hy.puts hx
      · exact hl z (by simp [hz])

/-! ### an ask -/
end Go.Proofs.Ytpohfcljfemhlaa
