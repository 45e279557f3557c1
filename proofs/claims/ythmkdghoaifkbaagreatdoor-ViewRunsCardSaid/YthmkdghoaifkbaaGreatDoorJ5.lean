/- Contracts of functions of the program, joined from Hb, Hc, Hd, He, Hf, Hg, Hp, Hq, Hr, Sh32, Hh, Hi, Hu, Hs: no condition. -/
import Derived.Test.YthmkdghoaifkbaaGreatDoorJ4
set_option linter.unusedSimpArgs false
set_option linter.unusedVariables false
/- Contracts, part Hb: small codices; numbers of articles. -/
namespace Go.Proofs.YthmkdghoaifkbaaGreatDoor
open Go Go.Sh
set_option maxRecDepth 10000
set_option maxHeartbeats 2000000
variable (G : List (Nat × D))

def artIx (n : Int) : List Article → Nat → Int
  | [], _ => -1
  | d :: r, i => if d.number = n then i else artIx n r (i + 1)

theorem numbered_spec (c : Codex) (n : Int) (hsz : c.arts.length ≤ 9223372036854775807) : SPure Tryz.prog G 47 [c.sv, sI n] (sI (artIx n c.arts 0)) := by
  refine spure_enter Tryz.func47 rfl (by rw [Tryz.ntmps47]; simp) rfl rfl ?_; intro E hH hK
  have hlen : (c.arts.map Article.cells).length = c.arts.length := by simp
  (refine sgo_sound [] 1000 ?_; conv => whnf)
  refine sw_keep [1, 2, 5] ?_
  refine sw_each c.arts (fun i (_ : Unit) => [(1, sI n), (2, .ptr 0 0), (5, sI i)]) (fun _ _ => [.cells [.imm (dDecls c.facts), .imm (dDecls c.lines), .imm (dArts c.arts)]])
    (fun done rest _ => artIx n c.arts 0 = artIx n rest done.length) () rfl ?_ ?_
  · rintro _ h1
    (refine sgo_sound [] 1000 ?_; conv => whnf)
    repeat' ((first | with_reducible refine bdec (fun h => ?_) (fun h => ?_) | with_reducible refine bndec (fun h => ?_) (fun h => ?_) | with_reducible refine bwtd (fun h => ?_) (fun h => ?_) | with_reducible refine bwfd (fun h => ?_) (fun h => ?_) | with_reducible refine bwtn (fun h => ?_) (fun h => ?_) | with_reducible refine bwfn (fun h => ?_) (fun h => ?_) | with_reducible refine bwtb (fun h => ?_) (fun h => ?_) | with_reducible refine bwfb (fun h => ?_) (fun h => ?_) | with_reducible refine bwt (fun h => ?_) (fun h => ?_) | with_reducible refine bwf (fun h => ?_) (fun h => ?_) | with_reducible refine bnt (fun h => ?_) (fun h => ?_) | with_reducible refine bcase (fun h => ?_) (fun h => ?_)) <;> (conv => whnf))
    all_goals try (exfalso; omega)
    exact kI hK (by rw [h1]; rfl)
  · rintro done d rest _ ha hl h1 ih
    have hw := wrap_succ (n := done.length) (by omega)
    simp only [artIx] at h1
    (refine sgo_sound [] 1000 ?_; conv => whnf)
    repeat' ((first | with_reducible refine bdec (fun h => ?_) (fun h => ?_) | with_reducible refine bndec (fun h => ?_) (fun h => ?_) | with_reducible refine bwtd (fun h => ?_) (fun h => ?_) | with_reducible refine bwfd (fun h => ?_) (fun h => ?_) | with_reducible refine bwtn (fun h => ?_) (fun h => ?_) | with_reducible refine bwfn (fun h => ?_) (fun h => ?_) | with_reducible refine bwtb (fun h => ?_) (fun h => ?_) | with_reducible refine bwfb (fun h => ?_) (fun h => ?_) | with_reducible refine bwt (fun h => ?_) (fun h => ?_) | with_reducible refine bwf (fun h => ?_) (fun h => ?_) | with_reducible refine bnt (fun h => ?_) (fun h => ?_) | with_reducible refine bcase (fun h => ?_) (fun h => ?_)) <;> (conv => whnf))
    all_goals try (exfalso; omega)
    refine swr_index rfl rfl rfl rfl rfl rfl rfl rfl  (row := d.cells) (by simp [ha]) ?_
    (refine sgor_sound [] 1000 ?_; conv => whnf)
    repeat' ((first | with_reducible refine bdec (fun h => ?_) (fun h => ?_) | with_reducible refine bndec (fun h => ?_) (fun h => ?_) | with_reducible refine bwtd (fun h => ?_) (fun h => ?_) | with_reducible refine bwfd (fun h => ?_) (fun h => ?_) | with_reducible refine bwtn (fun h => ?_) (fun h => ?_) | with_reducible refine bwfn (fun h => ?_) (fun h => ?_) | with_reducible refine bwtb (fun h => ?_) (fun h => ?_) | with_reducible refine bwfb (fun h => ?_) (fun h => ?_) | with_reducible refine bwt (fun h => ?_) (fun h => ?_) | with_reducible refine bwf (fun h => ?_) (fun h => ?_) | with_reducible refine bnt (fun h => ?_) (fun h => ?_) | with_reducible refine bcase (fun h => ?_) (fun h => ?_)) <;> (conv => whnf))
    · exact kI hK (by rw [h1, if_pos h])
    · rw [hw]; exact sw_kc [1, 2, 5] 1 (by simp [hH]) (by simp) rfl rfl (ih () (by rw [h1, if_neg h]; simp))

theorem artIx_range (n : Int) : ∀ (l : List Article) (i : Nat), artIx n l i = -1 ∨ ((i : Int) ≤ artIx n l i ∧ artIx n l i < i + l.length ∧ ∃ a, l[(artIx n l i).toNat - i]? = some a ∧ a.number = n)
  | [], i => .inl rfl
  | a :: r, i => by
    simp only [artIx]
    split
    · rename_i h
      right
      refine ⟨by omega, by simp; omega, a, by simp, h⟩
    · rcases artIx_range n r (i + 1) with h | ⟨h1, h2, x, h3, h4⟩
      · exact .inl h
      · right
        refine ⟨by omega, by simp; omega, x, ?_, h4⟩
        rw [show (artIx n r (i + 1)).toNat - i = ((artIx n r (i + 1)).toNat - (i + 1)) + 1 by omega]
        simpa using h3
theorem artIx_some (n : Int) : ∀ (l : List Article) (i : Nat), artIx n l i = -1 ↔ ∀ a ∈ l, a.number ≠ n
  | [], i => by simp [artIx]
  | a :: r, i => by
    simp only [artIx]
    split
    · rename_i h
      constructor
      · intro h'; omega
      · intro h'; exact absurd h (h' a (by simp))
    · rename_i h
      rw [artIx_some n r (i + 1)]
      simp [h]

def artFew (L : Int) (a : Article) : Bool := decide (a.when_.length ≤ 40) && decide (a.unless_.length ≤ 80) && decide ((exSize a.amount : Int) ≤ L) && a.when_.all (fun e => decide ((exSize e : Int) ≤ L))
def fewOK (c : Codex) (L : Int) : Bool := decide (c.facts.length ≤ 40) && decide (c.lines.length ≤ 40) && decide (c.arts.length ≤ 70) && c.arts.all (artFew L)

theorem few_spec (c : Codex) (L : Int) (h0 : 0 ≤ L) (h1 : L ≤ 999999) : SPure Tryz.prog G 26 [c.sv, sI L] (sB (fewOK c L)) := by
  refine spure_enter Tryz.func26 rfl (by rw [Tryz.ntmps26]; simp) rfl rfl ?_; intro E hH hK
  have hlf : (c.facts.map Decl.cells).length = c.facts.length := by simp
  have hll : (c.lines.map Decl.cells).length = c.lines.length := by simp
  have hla : (c.arts.map Article.cells).length = c.arts.length := by simp
  (refine sgo_sound [] 1000 ?_; conv => whnf)
  repeat' ((first | with_reducible refine bdec (fun h => ?_) (fun h => ?_) | with_reducible refine bndec (fun h => ?_) (fun h => ?_) | with_reducible refine bwtd (fun h => ?_) (fun h => ?_) | with_reducible refine bwfd (fun h => ?_) (fun h => ?_) | with_reducible refine bwtn (fun h => ?_) (fun h => ?_) | with_reducible refine bwfn (fun h => ?_) (fun h => ?_) | with_reducible refine bwtb (fun h => ?_) (fun h => ?_) | with_reducible refine bwfb (fun h => ?_) (fun h => ?_) | with_reducible refine bwt (fun h => ?_) (fun h => ?_) | with_reducible refine bwf (fun h => ?_) (fun h => ?_) | with_reducible refine bnt (fun h => ?_) (fun h => ?_) | with_reducible refine bcase (fun h => ?_) (fun h => ?_)) <;> (conv => whnf))
  all_goals try exact kB hK (by simp [fewOK]; intros; omega)
  have hsz : c.facts.length ≤ 40 ∧ c.lines.length ≤ 40 ∧ c.arts.length ≤ 70 := by omega
  have hok : fewOK c L = c.arts.all (artFew L) := by simp [fewOK, hsz]
  refine sw_keep [1, 2, 5] ?_
  refine sw_each c.arts (fun i (_ : Unit) => [(1, sI L), (2, .ptr 0 0), (5, sI i)]) (fun _ _ => [.cells [.imm (dDecls c.facts), .imm (dDecls c.lines), .imm (dArts c.arts)]])
    (fun done rest _ => c.arts.all (artFew L) = rest.all (artFew L)) () rfl ?_ ?_
  · rintro _ h1
    (refine sgo_sound [] 1000 ?_; conv => whnf)
    repeat' ((first | with_reducible refine bdec (fun h => ?_) (fun h => ?_) | with_reducible refine bndec (fun h => ?_) (fun h => ?_) | with_reducible refine bwtd (fun h => ?_) (fun h => ?_) | with_reducible refine bwfd (fun h => ?_) (fun h => ?_) | with_reducible refine bwtn (fun h => ?_) (fun h => ?_) | with_reducible refine bwfn (fun h => ?_) (fun h => ?_) | with_reducible refine bwtb (fun h => ?_) (fun h => ?_) | with_reducible refine bwfb (fun h => ?_) (fun h => ?_) | with_reducible refine bwt (fun h => ?_) (fun h => ?_) | with_reducible refine bwf (fun h => ?_) (fun h => ?_) | with_reducible refine bnt (fun h => ?_) (fun h => ?_) | with_reducible refine bcase (fun h => ?_) (fun h => ?_)) <;> (conv => whnf))
    all_goals try (exfalso; omega)
    exact kB hK (by rw [hok, h1]; rfl)
  · rintro done a rest _ ha hl hinv ih
    have hw := wrap_succ (n := done.length) (by omega)
    simp only [List.all_cons] at hinv
    obtain ⟨op, n, u, den, ps, ks, ham⟩ : ∃ op n u den ps ks, a.amount = .mk op n u den ps ks := by cases h : a.amount; exact ⟨_, _, _, _, _, _, rfl⟩
    have hrow : (c.arts.map Article.cells)[((done.length : Nat) : Int).toNat]? = some [dI a.number, dI a.line, dI a.rank, dI a.lo, dI a.hi, dI a.known, dExprs a.when_, dInts a.unless_, dI op, dI n, dS u, dI den, .isl 3 (ps.map Piece.cells), .isl 6 (exprRows ks)] := by
      simp [ha, Article.cells, ham, exprRows_eq, Ex.op, Ex.n, Ex.unit, Ex.den, Ex.pieces, Ex.kids]
    have hwl : (a.when_.map Ex.cells).length = a.when_.length := by simp
    have hul : (a.unless_.map fun n => [dI n]).length = a.unless_.length := by simp
    have bad : artFew L a = false → fewOK c L = false := fun h => by rw [hok, hinv, h]; rfl
    (refine sgo_sound [] 1000 ?_; conv => whnf)
    repeat' ((first | with_reducible refine bdec (fun h => ?_) (fun h => ?_) | with_reducible refine bndec (fun h => ?_) (fun h => ?_) | with_reducible refine bwtd (fun h => ?_) (fun h => ?_) | with_reducible refine bwfd (fun h => ?_) (fun h => ?_) | with_reducible refine bwtn (fun h => ?_) (fun h => ?_) | with_reducible refine bwfn (fun h => ?_) (fun h => ?_) | with_reducible refine bwtb (fun h => ?_) (fun h => ?_) | with_reducible refine bwfb (fun h => ?_) (fun h => ?_) | with_reducible refine bwt (fun h => ?_) (fun h => ?_) | with_reducible refine bwf (fun h => ?_) (fun h => ?_) | with_reducible refine bnt (fun h => ?_) (fun h => ?_) | with_reducible refine bcase (fun h => ?_) (fun h => ?_)) <;> (conv => whnf))
    all_goals try (exfalso; omega)
    refine swr_index rfl rfl rfl rfl rfl rfl rfl rfl  (row := [dI a.number, dI a.line, dI a.rank, dI a.lo, dI a.hi, dI a.known, dExprs a.when_, dInts a.unless_, dI op, dI n, dS u, dI den, .isl 3 (ps.map Piece.cells), .isl 6 (exprRows ks)]) hrow ?_
    (refine sgor_sound [] 1000 ?_; conv => whnf)
    repeat' ((first | with_reducible refine bdec (fun h => ?_) (fun h => ?_) | with_reducible refine bndec (fun h => ?_) (fun h => ?_) | with_reducible refine bwtd (fun h => ?_) (fun h => ?_) | with_reducible refine bwfd (fun h => ?_) (fun h => ?_) | with_reducible refine bwtn (fun h => ?_) (fun h => ?_) | with_reducible refine bwfn (fun h => ?_) (fun h => ?_) | with_reducible refine bwtb (fun h => ?_) (fun h => ?_) | with_reducible refine bwfb (fun h => ?_) (fun h => ?_) | with_reducible refine bwt (fun h => ?_) (fun h => ?_) | with_reducible refine bwf (fun h => ?_) (fun h => ?_) | with_reducible refine bnt (fun h => ?_) (fun h => ?_) | with_reducible refine bcase (fun h => ?_) (fun h => ?_)) <;> (conv => whnf))
    all_goals try exact kB hK (bad (by simp [artFew]; intros; omega))
    refine swr_pure rfl rfl rfl rfl rfl rfl  (small_spec G (.mk op n u den ps ks) L h0 h1) ?_
    (refine sgor_sound [] 1000 ?_; conv => whnf)
    repeat' ((first | with_reducible refine bdec (fun h => ?_) (fun h => ?_) | with_reducible refine bndec (fun h => ?_) (fun h => ?_) | with_reducible refine bwtd (fun h => ?_) (fun h => ?_) | with_reducible refine bwfd (fun h => ?_) (fun h => ?_) | with_reducible refine bwtn (fun h => ?_) (fun h => ?_) | with_reducible refine bwfn (fun h => ?_) (fun h => ?_) | with_reducible refine bwtb (fun h => ?_) (fun h => ?_) | with_reducible refine bwfb (fun h => ?_) (fun h => ?_) | with_reducible refine bwt (fun h => ?_) (fun h => ?_) | with_reducible refine bwf (fun h => ?_) (fun h => ?_) | with_reducible refine bnt (fun h => ?_) (fun h => ?_) | with_reducible refine bcase (fun h => ?_) (fun h => ?_)) <;> (conv => whnf))
    · exact kB hK (bad (by simp [artFew, ham]; intros; omega))
    have hgood : artFew L a = a.when_.all (fun e => decide ((exSize e : Int) ≤ L)) := by
      simp only [artFew, ham]
      rw [decide_eq_true (by omega), decide_eq_true (by omega), decide_eq_true h]; rfl
    refine sw_keep [1, 2, 5, 6, 7] ?_
    refine sw_each a.when_ (fun i (_ : Unit) => [(1, sI L), (2, .ptr 0 0), (5, sI done.length), (6, .ptr 1 0), (7, sI i)])
      (fun _ _ => [.cells [.imm (dDecls c.facts), .imm (dDecls c.lines), .imm (dArts c.arts)], .cells (artList a op n u den ps ks)])
      (fun done rest _ => a.when_.all (fun e => decide ((exSize e : Int) ≤ L)) = rest.all (fun e => decide ((exSize e : Int) ≤ L))) () rfl ?_ ?_
    · rintro _ h2
      (refine sgo_sound [] 1000 ?_; conv => whnf)
      repeat' ((first | with_reducible refine bdec (fun h => ?_) (fun h => ?_) | with_reducible refine bndec (fun h => ?_) (fun h => ?_) | with_reducible refine bwtd (fun h => ?_) (fun h => ?_) | with_reducible refine bwfd (fun h => ?_) (fun h => ?_) | with_reducible refine bwtn (fun h => ?_) (fun h => ?_) | with_reducible refine bwfn (fun h => ?_) (fun h => ?_) | with_reducible refine bwtb (fun h => ?_) (fun h => ?_) | with_reducible refine bwfb (fun h => ?_) (fun h => ?_) | with_reducible refine bwt (fun h => ?_) (fun h => ?_) | with_reducible refine bwf (fun h => ?_) (fun h => ?_) | with_reducible refine bnt (fun h => ?_) (fun h => ?_) | with_reducible refine bcase (fun h => ?_) (fun h => ?_)) <;> (conv => whnf))
      all_goals try (exfalso; omega)
      rw [hw]
      exact sw_kc [1, 2, 5] 1 (by simp [hH]) (by simp) rfl rfl (ih () (by rw [hinv, hgood, h2]; rfl))
    · rintro d2 e r2 _ ha2 hl2 h2 ih2
      have hw2 := wrap_succ (n := d2.length) (by omega)
      simp only [List.all_cons] at h2
      obtain ⟨o1, n1, u1, d1, p1, q1⟩ := e
      (refine sgo_sound [] 1000 ?_; conv => whnf)
      repeat' ((first | with_reducible refine bdec (fun h => ?_) (fun h => ?_) | with_reducible refine bndec (fun h => ?_) (fun h => ?_) | with_reducible refine bwtd (fun h => ?_) (fun h => ?_) | with_reducible refine bwfd (fun h => ?_) (fun h => ?_) | with_reducible refine bwtn (fun h => ?_) (fun h => ?_) | with_reducible refine bwfn (fun h => ?_) (fun h => ?_) | with_reducible refine bwtb (fun h => ?_) (fun h => ?_) | with_reducible refine bwfb (fun h => ?_) (fun h => ?_) | with_reducible refine bwt (fun h => ?_) (fun h => ?_) | with_reducible refine bwf (fun h => ?_) (fun h => ?_) | with_reducible refine bnt (fun h => ?_) (fun h => ?_) | with_reducible refine bcase (fun h => ?_) (fun h => ?_)) <;> (conv => whnf))
      all_goals try (exfalso; omega)
      refine swr_index rfl rfl rfl rfl rfl rfl rfl rfl  (row := (Ex.mk o1 n1 u1 d1 p1 q1).cells) (by simp [ha2]) ?_
      (refine sgor_sound [] 1000 ?_; conv => whnf)
      refine swr_pure rfl rfl rfl rfl rfl rfl  (small_spec G (.mk o1 n1 u1 d1 p1 q1) L h0 h1) ?_
      (refine sgor_sound [] 1000 ?_; conv => whnf)
      repeat' ((first | with_reducible refine bdec (fun h => ?_) (fun h => ?_) | with_reducible refine bndec (fun h => ?_) (fun h => ?_) | with_reducible refine bwtd (fun h => ?_) (fun h => ?_) | with_reducible refine bwfd (fun h => ?_) (fun h => ?_) | with_reducible refine bwtn (fun h => ?_) (fun h => ?_) | with_reducible refine bwfn (fun h => ?_) (fun h => ?_) | with_reducible refine bwtb (fun h => ?_) (fun h => ?_) | with_reducible refine bwfb (fun h => ?_) (fun h => ?_) | with_reducible refine bwt (fun h => ?_) (fun h => ?_) | with_reducible refine bwf (fun h => ?_) (fun h => ?_) | with_reducible refine bnt (fun h => ?_) (fun h => ?_) | with_reducible refine bcase (fun h => ?_) (fun h => ?_)) <;> (conv => whnf))
      · exact kB hK (bad (by rw [hgood, h2, decide_eq_false h]; rfl))
      · rw [hw2]
        exact sw_kc [1, 2, 5, 6, 7] 2 (by simp [hH]) (by simp) rfl rfl (ih2 () (by rw [h2, decide_eq_true h]; rfl))

def smallOK (c : Codex) (l : List Fact) : Bool := fewOK c 420 && decide (l.length ≤ 402)
theorem lawSmall_spec (c : Codex) (l : List Fact) : SPure Tryz.prog G 10 [c.sv, storeSV l] (sB (smallOK c l)) := by
  refine spure_enter Tryz.func10 rfl (by rw [Tryz.ntmps10]; simp) rfl rfl ?_; intro E hH hK
  have hlen : (l.map Fact.cells).length = l.length := by simp
  (refine sgo_sound [] 1000 ?_; conv => whnf)
  refine swr_pure rfl rfl rfl rfl rfl rfl  (few_spec G c 420 (by omega) (by omega)) ?_
  cases hf : fewOK c 420 with
  | true =>
    (refine sgor_sound [] 1000 ?_; conv => whnf)
    exact kB hK (by simp only [smallOK, hf, Bool.true_and]; exact decide_eq_decide.2 (by omega))
  | false =>
    (refine sgor_sound [] 1000 ?_; conv => whnf)
    exact kB hK (by simp only [smallOK, hf, Bool.false_and])
end Go.Proofs.YthmkdghoaifkbaaGreatDoor

/- Contracts, part Hc: which expressions fit a codex (reference). -/
namespace Go.Proofs.YthmkdghoaifkbaaGreatDoor
open Go Go.Sh
set_option maxRecDepth 10000
set_option maxHeartbeats 4000000
variable (G : List (Nat × D))

def refLeaf (c : Codex) (op n : Int) (u : ByteArray) : Bool :=
  if op = 1 then unitOK u && decide (0 ≤ n) && decide (n ≤ 999999999999) && (!decide (u = tT) || decide (n ≤ 1))
  else if op = 2 then decide (0 ≤ n) && decide (n < c.facts.length) && unitAt c.facts n u
  else if op = 3 then (match c.arts[(artIx n c.arts 0).toNat]? with
    | some a => decide (0 ≤ artIx n c.arts 0) && decide (0 ≤ a.line) && decide (a.line < c.lines.length) && unitAt c.lines a.line u
    | none => false)
  else if op = 4 then decide (1 ≤ n) && decide (n ≤ 4) && decide (u = tN)
  else false

theorem refLeaf_spec (c : Codex) (op n : Int) (u : ByteArray) (den : Int) (ps : List Piece) (ks : List Ex) (hsz : c.arts.length ≤ 9223372036854775807) :
    SPure Tryz.prog G 82 [c.sv, (Ex.mk op n u den ps ks).sv] (sB (refLeaf c op n u)) := by
  refine spure_enter Tryz.func82 rfl (by rw [Tryz.ntmps82]; simp) rfl rfl ?_; intro E hH hK
  have hf : (c.facts.map Decl.cells).length = c.facts.length := by simp
  have hl : (c.lines.map Decl.cells).length = c.lines.length := by simp
  by_cases h1 : op = 1
  · subst h1
    have hr : refLeaf c 1 n u = (unitOK u && decide (0 ≤ n) && decide (n ≤ 999999999999) && (!decide (u = tT) || decide (n ≤ 1))) := rfl
    rw [hr] at hK
    (refine sgo_sound [] 1000 ?_; conv => whnf)
    refine swr_pure rfl rfl rfl rfl rfl rfl  (unit_spec G u) ?_
    (refine sgor_sound [] 1000 ?_; conv => whnf)
    repeat' ((first | with_reducible refine bdec (fun h => ?_) (fun h => ?_) | with_reducible refine bndec (fun h => ?_) (fun h => ?_) | with_reducible refine bwtd (fun h => ?_) (fun h => ?_) | with_reducible refine bwfd (fun h => ?_) (fun h => ?_) | with_reducible refine bwtn (fun h => ?_) (fun h => ?_) | with_reducible refine bwfn (fun h => ?_) (fun h => ?_) | with_reducible refine bwtb (fun h => ?_) (fun h => ?_) | with_reducible refine bwfb (fun h => ?_) (fun h => ?_) | with_reducible refine bwt (fun h => ?_) (fun h => ?_) | with_reducible refine bwf (fun h => ?_) (fun h => ?_) | with_reducible refine bnt (fun h => ?_) (fun h => ?_) | with_reducible refine bcase (fun h => ?_) (fun h => ?_)) <;> (conv => whnf))
    all_goals exact kB hK (by first | (rw [‹unitOK u = true›]; simp [*]; done) | (simp [*]; done))
  by_cases h2 : op = 2
  · subst h2
    have hr : refLeaf c 2 n u = (decide (0 ≤ n) && decide (n < c.facts.length) && unitAt c.facts n u) := rfl
    rw [hr] at hK
    (refine sgo_sound [] 1000 ?_; conv => whnf)
    (refine swd_start mixed rfl ?_; refine sgod_sound [] ?_; conv => whnf)
    repeat' ((first | with_reducible refine bdec (fun h => ?_) (fun h => ?_) | with_reducible refine bndec (fun h => ?_) (fun h => ?_) | with_reducible refine bwtd (fun h => ?_) (fun h => ?_) | with_reducible refine bwfd (fun h => ?_) (fun h => ?_) | with_reducible refine bwtn (fun h => ?_) (fun h => ?_) | with_reducible refine bwfn (fun h => ?_) (fun h => ?_) | with_reducible refine bwtb (fun h => ?_) (fun h => ?_) | with_reducible refine bwfb (fun h => ?_) (fun h => ?_) | with_reducible refine bwt (fun h => ?_) (fun h => ?_) | with_reducible refine bwf (fun h => ?_) (fun h => ?_) | with_reducible refine bnt (fun h => ?_) (fun h => ?_) | with_reducible refine bcase (fun h => ?_) (fun h => ?_)) <;> (conv => whnf))
    · have hlt : n.toNat < c.facts.length := by omega
      obtain ⟨d, hd⟩ : ∃ d, c.facts[n.toNat]? = some d := ⟨c.facts[n.toNat], List.getElem?_eq_getElem hlt⟩
      refine swd_index rfl rfl rfl rfl rfl rfl rfl (i := n.toNat) (by omega) (row := d.cells) (by simp [hd]) ?_
      (refine sgod_sound [] ?_; conv => whnf)
      (refine sgo_sound [] 1000 ?_; conv => whnf)
      refine kB hK ?_
      have hua : unitAt c.facts n u = decide (u = d.unit) := by simp only [unitAt, hd]
      rw [hua, decide_eq_true (by omega), decide_eq_true (by omega)]
      rfl
    all_goals (refine sgo_sound [] 1000 ?_; conv => whnf)
    · exact kB hK (by rw [decide_eq_false (p := n < c.facts.length) (by omega)]; simp)
    · exact kB hK (by rw [decide_eq_false (p := 0 ≤ n) (by omega)]; simp)
  by_cases h3 : op = 3
  · subst h3
    have hr : refLeaf c 3 n u = (match c.arts[(artIx n c.arts 0).toNat]? with
      | some a => decide (0 ≤ artIx n c.arts 0) && decide (0 ≤ a.line) && decide (a.line < c.lines.length) && unitAt c.lines a.line u
      | none => false) := rfl
    rw [hr] at hK
    (refine sgo_sound [] 1000 ?_; conv => whnf)
    refine swr_pure rfl rfl rfl rfl rfl rfl  (numbered_spec G c n hsz) ?_
    (refine sgor_sound [] 1000 ?_; conv => whnf)
    rcases artIx_range n c.arts 0 with h | ⟨g1, g2, a, g3, g4⟩
    · rw [h] at hK ⊢
      (refine swd_start mixed rfl ?_; refine sgod_sound [] ?_; conv => whnf)
      (refine sgo_sound [] 1000 ?_; conv => whnf)
      refine kB hK ?_
      split <;> rfl
    · rw [Nat.sub_zero] at g3
      rw [g3] at hK
      simp only [decide_eq_true (show (0 : Int) ≤ artIx n c.arts 0 from g1), Bool.true_and] at hK
      generalize artIx n c.arts 0 = ix at hK g1 g2 g3 ⊢
      (refine swd_start mixed rfl ?_; refine sgod_sound [] ?_; conv => whnf)
      repeat' ((first | with_reducible refine bdec (fun h => ?_) (fun h => ?_) | with_reducible refine bndec (fun h => ?_) (fun h => ?_) | with_reducible refine bwtd (fun h => ?_) (fun h => ?_) | with_reducible refine bwfd (fun h => ?_) (fun h => ?_) | with_reducible refine bwtn (fun h => ?_) (fun h => ?_) | with_reducible refine bwfn (fun h => ?_) (fun h => ?_) | with_reducible refine bwtb (fun h => ?_) (fun h => ?_) | with_reducible refine bwfb (fun h => ?_) (fun h => ?_) | with_reducible refine bwt (fun h => ?_) (fun h => ?_) | with_reducible refine bwf (fun h => ?_) (fun h => ?_) | with_reducible refine bnt (fun h => ?_) (fun h => ?_) | with_reducible refine bcase (fun h => ?_) (fun h => ?_)) <;> (conv => whnf))
      all_goals try (exfalso; omega)
      refine swd_index rfl rfl rfl rfl rfl rfl rfl (i := ix.toNat) (by omega) (row := a.cells) (by simp [g3]) ?_
      (refine sgod_sound [] ?_; conv => whnf)
      repeat' ((first | with_reducible refine bdec (fun h => ?_) (fun h => ?_) | with_reducible refine bndec (fun h => ?_) (fun h => ?_) | with_reducible refine bwtd (fun h => ?_) (fun h => ?_) | with_reducible refine bwfd (fun h => ?_) (fun h => ?_) | with_reducible refine bwtn (fun h => ?_) (fun h => ?_) | with_reducible refine bwfn (fun h => ?_) (fun h => ?_) | with_reducible refine bwtb (fun h => ?_) (fun h => ?_) | with_reducible refine bwfb (fun h => ?_) (fun h => ?_) | with_reducible refine bwt (fun h => ?_) (fun h => ?_) | with_reducible refine bwf (fun h => ?_) (fun h => ?_) | with_reducible refine bnt (fun h => ?_) (fun h => ?_) | with_reducible refine bcase (fun h => ?_) (fun h => ?_)) <;> (conv => whnf))
      · refine swd_index rfl rfl rfl rfl rfl rfl rfl (i := ix.toNat) (by omega) (row := a.cells) (by simp [g3]) ?_
        (refine sgod_sound [] ?_; conv => whnf)
        repeat' ((first | with_reducible refine bdec (fun h => ?_) (fun h => ?_) | with_reducible refine bndec (fun h => ?_) (fun h => ?_) | with_reducible refine bwtd (fun h => ?_) (fun h => ?_) | with_reducible refine bwfd (fun h => ?_) (fun h => ?_) | with_reducible refine bwtn (fun h => ?_) (fun h => ?_) | with_reducible refine bwfn (fun h => ?_) (fun h => ?_) | with_reducible refine bwtb (fun h => ?_) (fun h => ?_) | with_reducible refine bwfb (fun h => ?_) (fun h => ?_) | with_reducible refine bwt (fun h => ?_) (fun h => ?_) | with_reducible refine bwf (fun h => ?_) (fun h => ?_) | with_reducible refine bnt (fun h => ?_) (fun h => ?_) | with_reducible refine bcase (fun h => ?_) (fun h => ?_)) <;> (conv => whnf))
        · refine swd_index rfl rfl rfl rfl rfl rfl rfl (i := ix.toNat) (by omega) (row := a.cells) (by simp [g3]) ?_
          (refine sgod_sound [] ?_; conv => whnf)
          obtain ⟨d, hd⟩ : ∃ d, c.lines[a.line.toNat]? = some d := ⟨c.lines[a.line.toNat]'(by omega), List.getElem?_eq_getElem _⟩
          refine swd_index rfl rfl rfl rfl rfl rfl rfl (i := a.line.toNat) (by omega) (row := d.cells) (by simp [hd]) ?_
          (refine sgod_sound [] ?_; conv => whnf)
          (refine sgo_sound [] 1000 ?_; conv => whnf)
          refine kB hK ?_
          have hua : unitAt c.lines a.line u = decide (u = d.unit) := by simp only [unitAt, hd]
          rw [hua, decide_eq_true (p := 0 ≤ a.line) (by omega), decide_eq_true (p := a.line < c.lines.length) (by omega)]
          rfl
        · (refine sgo_sound [] 1000 ?_; conv => whnf)
          exact kB hK (by rw [decide_eq_false (p := a.line < c.lines.length) (by omega)]; simp)
      · (refine sgo_sound [] 1000 ?_; conv => whnf)
        exact kB hK (by rw [decide_eq_false (p := 0 ≤ a.line) (by omega)]; simp)
  · (refine sgo_sound [] 1000 ?_; conv => whnf)
    repeat' ((first | with_reducible refine bdec (fun h => ?_) (fun h => ?_) | with_reducible refine bndec (fun h => ?_) (fun h => ?_) | with_reducible refine bwtd (fun h => ?_) (fun h => ?_) | with_reducible refine bwfd (fun h => ?_) (fun h => ?_) | with_reducible refine bwtn (fun h => ?_) (fun h => ?_) | with_reducible refine bwfn (fun h => ?_) (fun h => ?_) | with_reducible refine bwtb (fun h => ?_) (fun h => ?_) | with_reducible refine bwfb (fun h => ?_) (fun h => ?_) | with_reducible refine bwt (fun h => ?_) (fun h => ?_) | with_reducible refine bwf (fun h => ?_) (fun h => ?_) | with_reducible refine bnt (fun h => ?_) (fun h => ?_) | with_reducible refine bcase (fun h => ?_) (fun h => ?_)) <;> (conv => whnf))
    all_goals try (exfalso; omega)
    all_goals exact kB hK (by simp only [refLeaf, if_neg h1, if_neg h2, if_neg h3]; simp [*])

theorem opOK16 (u : ByteArray) (f l : Ex) (len : Int) (h : 2 ≤ len) : opOK 16 u f l len true = (!decide (f.unit = tT) && decide (u = f.unit)) := by simp [opOK, h]
theorem opOK17 (u : ByteArray) (f l : Ex) (len : Int) (h : 2 ≤ len) : opOK 17 u f l len true = (!decide (f.unit = tT) && decide (u = f.unit)) := by simp [opOK, h]
theorem opOK6 (u : ByteArray) (f l : Ex) : opOK 6 u f l 2 (decide (l.unit = f.unit)) = (decide (u = tT) && decide (f.unit = tT) && decide (l.unit = tT)) := by
  by_cases e : f.unit = tT
  · simp [opOK, e]
  · simp [opOK, e]
theorem opOK7 (u : ByteArray) (f l : Ex) : opOK 7 u f l 2 (decide (l.unit = f.unit)) = (decide (u = tT) && decide (f.unit = tT) && decide (l.unit = tT)) := by
  by_cases e : f.unit = tT
  · simp [opOK, e]
  · simp [opOK, e]
theorem opOK8 (u : ByteArray) (f l : Ex) : opOK 8 u f l 2 (decide (l.unit = f.unit)) = (decide (u = tT) && decide (f.unit = l.unit)) := by
  simp [opOK, eq_comm (a := l.unit)]
theorem opOK9 (u : ByteArray) (f l : Ex) : opOK 9 u f l 2 (decide (l.unit = f.unit)) = (decide (u = tT) && decide (f.unit = l.unit) && !decide (f.unit = tT)) := by
  simp [opOK, Bool.and_assoc, eq_comm (a := l.unit)]
theorem opOK10 (u : ByteArray) (f l : Ex) : opOK 10 u f l 2 (decide (l.unit = f.unit)) = (decide (u = tT) && decide (f.unit = l.unit) && !decide (f.unit = tT)) := by
  simp [opOK, Bool.and_assoc, eq_comm (a := l.unit)]
theorem opOK11 (u : ByteArray) (f l : Ex) : opOK 11 u f l 2 (decide (l.unit = f.unit)) = (decide (u = f.unit) && decide (f.unit = l.unit) && !decide (f.unit = tT)) := by
  by_cases e1 : u = f.unit <;> by_cases e2 : l.unit = f.unit <;> simp [opOK, e1, e2, eq_comm (a := f.unit)]
theorem opOK12 (u : ByteArray) (f l : Ex) : opOK 12 u f l 2 (decide (l.unit = f.unit)) = (decide (u = f.unit) && decide (f.unit = l.unit) && !decide (f.unit = tT)) := by
  by_cases e1 : u = f.unit <;> by_cases e2 : l.unit = f.unit <;> simp [opOK, e1, e2, eq_comm (a := f.unit)]
theorem opOK13 (u : ByteArray) (f l : Ex) (s : Bool) : opOK 13 u f l 2 s = (!decide (f.unit = tT) && !decide (l.unit = tT) && ((decide (f.unit = tN) && decide (u = l.unit)) || (decide (l.unit = tN) && decide (u = f.unit)))) := by
  by_cases e1 : f.unit = tN
  · by_cases e2 : l.unit = tN
    · simp [opOK, e1, e2]
    · simp [opOK, e1, e2]
  · simp [opOK, e1, Bool.and_assoc]
theorem opOK14 (u : ByteArray) (f l : Ex) (s : Bool) : opOK 14 u f l 2 s = (decide (u = f.unit) && !decide (f.unit = tT) && decide (l.op = 1) && decide (l.unit = tN) && decide (1 ≤ l.n) && decide (l.n ≤ 1000000)) := by
  have e1 : (!decide (l.n < 1)) = decide (1 ≤ l.n) := by rw [Bool.eq_iff_iff]; simp
  have e2 : (!decide (1000000 < l.n)) = decide (l.n ≤ 1000000) := by rw [Bool.eq_iff_iff]; simp
  simp only [opOK]
  rw [e1, e2]
  by_cases f1 : u = f.unit <;> by_cases f2 : f.unit = tT <;> simp [f1, f2, Bool.and_assoc]
theorem opOK15 (u : ByteArray) (f l : Ex) (s : Bool) : opOK 15 u f l 2 s = (decide (f.unit = tM) && curOK l.unit && decide (u = l.unit)) := by simp [opOK]
theorem opOKelse (op : Int) (u : ByteArray) (f l : Ex) (s : Bool) (h : op < 6 ∨ 17 < op) : opOK op u f l 2 s = false := by
  by_cases e5 : op = 5
  · subst e5; simp [opOK]
  · simp only [opOK]
    rw [if_neg e5, if_neg (by omega), if_neg (by omega), if_neg (by omega), if_neg (by omega), if_neg (by omega), if_neg (by omega), if_neg (by omega), if_neg (by omega)]

end Go.Proofs.YthmkdghoaifkbaaGreatDoor

/- Contracts, part Hd: operations with two kids or more (reference). Printed by gen_many.py. -/
namespace Go.Proofs.YthmkdghoaifkbaaGreatDoor
open Go Go.Sh
set_option maxRecDepth 10000
set_option maxHeartbeats 4000000
variable (G : List (Nat × D))

theorem many6_spec (n : Int) (u : ByteArray) (den : Int) (ps : List Piece) (k0 k1 : Ex) : SPure Tryz.prog G 84 [(Ex.mk 6 n u den ps [k0, k1]).sv] (sB (opOK 6 u k0 k1 2 (decide (k1.unit = k0.unit)))) := by
  have hrows := exprRows_eq [k0, k1]
  have hlen : (exprRows [k0, k1]).length = 2 := by rw [hrows]; rfl
  have h0 : (exprRows [k0, k1])[0]? = some k0.cells := by rw [hrows]; rfl
  have h1 : (exprRows [k0, k1])[1]? = some k1.cells := by rw [hrows]; rfl
  have hkl : [k0, k1].length = 2 := rfl
  generalize [k0, k1] = ks at hrows hlen h0 h1 hkl ⊢
  refine spure_enter Tryz.func84 rfl (by rw [Tryz.ntmps84]; simp) rfl rfl ?_; intro E hH hK
  obtain ⟨o0, n0, u0, d0, p0, q0⟩ := k0
  obtain ⟨o1, n1, u1, d1, p1, q1⟩ := k1
  replace hK : ∀ H', E.K (sB (decide (u = tT) && decide (u0 = tT) && decide (u1 = tT))) H' := by
    intro H'
    have := hK H'
    rw [opOK6] at this
    exact this
  (refine sgo_sound [] 1000 ?_; conv => whnf)
  refine swr_index rfl rfl rfl rfl rfl rfl rfl rfl  (row := (Ex.mk o0 n0 u0 d0 p0 q0).cells) h0 ?_
  (refine sgor_sound [] 1000 ?_; conv => whnf)
  refine swr_index rfl rfl rfl rfl rfl rfl rfl rfl  (row := (Ex.mk o1 n1 u1 d1 p1 q1).cells) h1 ?_
  (refine sgor_sound [] 1000 ?_; conv => whnf)
  refine sw_keep [1, 3, 4, 5] ?_
  refine sw_each ks (fun i (_ : Unit) => [(1, .ptr 0 0), (3, sS u0), (4, sS u1), (5, sI i)]) (fun _ _ => [.cells [sI 6, sI n, sS u, sI den, .imm (.isl 3 (ps.map Piece.cells)), .imm (.isl 6 (exprRows ks))]])
    (fun _ _ _ => True) () trivial ?_ ?_
  · as_aux_lemma =>
      rintro _ _
      (refine sgo_sound [] 1000 ?_; conv => whnf)
      repeat' ((first | with_reducible refine bdec (fun h => ?_) (fun h => ?_) | with_reducible refine bndec (fun h => ?_) (fun h => ?_) | with_reducible refine bwtd (fun h => ?_) (fun h => ?_) | with_reducible refine bwfd (fun h => ?_) (fun h => ?_) | with_reducible refine bwtn (fun h => ?_) (fun h => ?_) | with_reducible refine bwfn (fun h => ?_) (fun h => ?_) | with_reducible refine bwtb (fun h => ?_) (fun h => ?_) | with_reducible refine bwfb (fun h => ?_) (fun h => ?_) | with_reducible refine bwt (fun h => ?_) (fun h => ?_) | with_reducible refine bwf (fun h => ?_) (fun h => ?_) | with_reducible refine bnt (fun h => ?_) (fun h => ?_) | with_reducible refine bcase (fun h => ?_) (fun h => ?_)) <;> (conv => whnf))
      all_goals try (exfalso; omega)
      all_goals exact kB hK (by simp [tT, tN, *])
  · as_aux_lemma =>
      rintro done k rest _ ha hl _ ih
      have hw := wrap_succ (n := done.length) (by omega)
      (refine sgo_sound [] 1000 ?_; conv => whnf)
      repeat' ((first | with_reducible refine bdec (fun h => ?_) (fun h => ?_) | with_reducible refine bndec (fun h => ?_) (fun h => ?_) | with_reducible refine bwtd (fun h => ?_) (fun h => ?_) | with_reducible refine bwfd (fun h => ?_) (fun h => ?_) | with_reducible refine bwtn (fun h => ?_) (fun h => ?_) | with_reducible refine bwfn (fun h => ?_) (fun h => ?_) | with_reducible refine bwtb (fun h => ?_) (fun h => ?_) | with_reducible refine bwfb (fun h => ?_) (fun h => ?_) | with_reducible refine bwt (fun h => ?_) (fun h => ?_) | with_reducible refine bwf (fun h => ?_) (fun h => ?_) | with_reducible refine bnt (fun h => ?_) (fun h => ?_) | with_reducible refine bcase (fun h => ?_) (fun h => ?_)) <;> (conv => whnf))
      all_goals try (exfalso; omega)
      all_goals (rw [hw]; exact sw_kc [1, 3, 4, 5] 1 (by simp [hH]) (by simp) rfl rfl (ih () trivial))

theorem many7_spec (n : Int) (u : ByteArray) (den : Int) (ps : List Piece) (k0 k1 : Ex) : SPure Tryz.prog G 84 [(Ex.mk 7 n u den ps [k0, k1]).sv] (sB (opOK 7 u k0 k1 2 (decide (k1.unit = k0.unit)))) := by
  have hrows := exprRows_eq [k0, k1]
  have hlen : (exprRows [k0, k1]).length = 2 := by rw [hrows]; rfl
  have h0 : (exprRows [k0, k1])[0]? = some k0.cells := by rw [hrows]; rfl
  have h1 : (exprRows [k0, k1])[1]? = some k1.cells := by rw [hrows]; rfl
  have hkl : [k0, k1].length = 2 := rfl
  generalize [k0, k1] = ks at hrows hlen h0 h1 hkl ⊢
  refine spure_enter Tryz.func84 rfl (by rw [Tryz.ntmps84]; simp) rfl rfl ?_; intro E hH hK
  obtain ⟨o0, n0, u0, d0, p0, q0⟩ := k0
  obtain ⟨o1, n1, u1, d1, p1, q1⟩ := k1
  replace hK : ∀ H', E.K (sB (decide (u = tT) && decide (u0 = tT) && decide (u1 = tT))) H' := by
    intro H'
    have := hK H'
    rw [opOK7] at this
    exact this
  (refine sgo_sound [] 1000 ?_; conv => whnf)
  refine swr_index rfl rfl rfl rfl rfl rfl rfl rfl  (row := (Ex.mk o0 n0 u0 d0 p0 q0).cells) h0 ?_
  (refine sgor_sound [] 1000 ?_; conv => whnf)
  refine swr_index rfl rfl rfl rfl rfl rfl rfl rfl  (row := (Ex.mk o1 n1 u1 d1 p1 q1).cells) h1 ?_
  (refine sgor_sound [] 1000 ?_; conv => whnf)
  refine sw_keep [1, 3, 4, 5] ?_
  refine sw_each ks (fun i (_ : Unit) => [(1, .ptr 0 0), (3, sS u0), (4, sS u1), (5, sI i)]) (fun _ _ => [.cells [sI 7, sI n, sS u, sI den, .imm (.isl 3 (ps.map Piece.cells)), .imm (.isl 6 (exprRows ks))]])
    (fun _ _ _ => True) () trivial ?_ ?_
  · as_aux_lemma =>
      rintro _ _
      (refine sgo_sound [] 1000 ?_; conv => whnf)
      repeat' ((first | with_reducible refine bdec (fun h => ?_) (fun h => ?_) | with_reducible refine bndec (fun h => ?_) (fun h => ?_) | with_reducible refine bwtd (fun h => ?_) (fun h => ?_) | with_reducible refine bwfd (fun h => ?_) (fun h => ?_) | with_reducible refine bwtn (fun h => ?_) (fun h => ?_) | with_reducible refine bwfn (fun h => ?_) (fun h => ?_) | with_reducible refine bwtb (fun h => ?_) (fun h => ?_) | with_reducible refine bwfb (fun h => ?_) (fun h => ?_) | with_reducible refine bwt (fun h => ?_) (fun h => ?_) | with_reducible refine bwf (fun h => ?_) (fun h => ?_) | with_reducible refine bnt (fun h => ?_) (fun h => ?_) | with_reducible refine bcase (fun h => ?_) (fun h => ?_)) <;> (conv => whnf))
      all_goals try (exfalso; omega)
      all_goals exact kB hK (by simp [tT, tN, *])
  · as_aux_lemma =>
      rintro done k rest _ ha hl _ ih
      have hw := wrap_succ (n := done.length) (by omega)
      (refine sgo_sound [] 1000 ?_; conv => whnf)
      repeat' ((first | with_reducible refine bdec (fun h => ?_) (fun h => ?_) | with_reducible refine bndec (fun h => ?_) (fun h => ?_) | with_reducible refine bwtd (fun h => ?_) (fun h => ?_) | with_reducible refine bwfd (fun h => ?_) (fun h => ?_) | with_reducible refine bwtn (fun h => ?_) (fun h => ?_) | with_reducible refine bwfn (fun h => ?_) (fun h => ?_) | with_reducible refine bwtb (fun h => ?_) (fun h => ?_) | with_reducible refine bwfb (fun h => ?_) (fun h => ?_) | with_reducible refine bwt (fun h => ?_) (fun h => ?_) | with_reducible refine bwf (fun h => ?_) (fun h => ?_) | with_reducible refine bnt (fun h => ?_) (fun h => ?_) | with_reducible refine bcase (fun h => ?_) (fun h => ?_)) <;> (conv => whnf))
      all_goals try (exfalso; omega)
      all_goals (rw [hw]; exact sw_kc [1, 3, 4, 5] 1 (by simp [hH]) (by simp) rfl rfl (ih () trivial))

theorem many8_spec (n : Int) (u : ByteArray) (den : Int) (ps : List Piece) (k0 k1 : Ex) : SPure Tryz.prog G 84 [(Ex.mk 8 n u den ps [k0, k1]).sv] (sB (opOK 8 u k0 k1 2 (decide (k1.unit = k0.unit)))) := by
  have hrows := exprRows_eq [k0, k1]
  have hlen : (exprRows [k0, k1]).length = 2 := by rw [hrows]; rfl
  have h0 : (exprRows [k0, k1])[0]? = some k0.cells := by rw [hrows]; rfl
  have h1 : (exprRows [k0, k1])[1]? = some k1.cells := by rw [hrows]; rfl
  have hkl : [k0, k1].length = 2 := rfl
  generalize [k0, k1] = ks at hrows hlen h0 h1 hkl ⊢
  refine spure_enter Tryz.func84 rfl (by rw [Tryz.ntmps84]; simp) rfl rfl ?_; intro E hH hK
  obtain ⟨o0, n0, u0, d0, p0, q0⟩ := k0
  obtain ⟨o1, n1, u1, d1, p1, q1⟩ := k1
  replace hK : ∀ H', E.K (sB (decide (u = tT) && decide (u0 = u1))) H' := by
    intro H'
    have := hK H'
    rw [opOK8] at this
    exact this
  (refine sgo_sound [] 1000 ?_; conv => whnf)
  refine swr_index rfl rfl rfl rfl rfl rfl rfl rfl  (row := (Ex.mk o0 n0 u0 d0 p0 q0).cells) h0 ?_
  (refine sgor_sound [] 1000 ?_; conv => whnf)
  refine swr_index rfl rfl rfl rfl rfl rfl rfl rfl  (row := (Ex.mk o1 n1 u1 d1 p1 q1).cells) h1 ?_
  (refine sgor_sound [] 1000 ?_; conv => whnf)
  refine sw_keep [1, 3, 4, 5] ?_
  refine sw_each ks (fun i (_ : Unit) => [(1, .ptr 0 0), (3, sS u0), (4, sS u1), (5, sI i)]) (fun _ _ => [.cells [sI 8, sI n, sS u, sI den, .imm (.isl 3 (ps.map Piece.cells)), .imm (.isl 6 (exprRows ks))]])
    (fun _ _ _ => True) () trivial ?_ ?_
  · as_aux_lemma =>
      rintro _ _
      (refine sgo_sound [] 1000 ?_; conv => whnf)
      repeat' ((first | with_reducible refine bdec (fun h => ?_) (fun h => ?_) | with_reducible refine bndec (fun h => ?_) (fun h => ?_) | with_reducible refine bwtd (fun h => ?_) (fun h => ?_) | with_reducible refine bwfd (fun h => ?_) (fun h => ?_) | with_reducible refine bwtn (fun h => ?_) (fun h => ?_) | with_reducible refine bwfn (fun h => ?_) (fun h => ?_) | with_reducible refine bwtb (fun h => ?_) (fun h => ?_) | with_reducible refine bwfb (fun h => ?_) (fun h => ?_) | with_reducible refine bwt (fun h => ?_) (fun h => ?_) | with_reducible refine bwf (fun h => ?_) (fun h => ?_) | with_reducible refine bnt (fun h => ?_) (fun h => ?_) | with_reducible refine bcase (fun h => ?_) (fun h => ?_)) <;> (conv => whnf))
      all_goals try (exfalso; omega)
      all_goals exact kB hK (by simp [tT, tN, *])
  · as_aux_lemma =>
      rintro done k rest _ ha hl _ ih
      have hw := wrap_succ (n := done.length) (by omega)
      (refine sgo_sound [] 1000 ?_; conv => whnf)
      repeat' ((first | with_reducible refine bdec (fun h => ?_) (fun h => ?_) | with_reducible refine bndec (fun h => ?_) (fun h => ?_) | with_reducible refine bwtd (fun h => ?_) (fun h => ?_) | with_reducible refine bwfd (fun h => ?_) (fun h => ?_) | with_reducible refine bwtn (fun h => ?_) (fun h => ?_) | with_reducible refine bwfn (fun h => ?_) (fun h => ?_) | with_reducible refine bwtb (fun h => ?_) (fun h => ?_) | with_reducible refine bwfb (fun h => ?_) (fun h => ?_) | with_reducible refine bwt (fun h => ?_) (fun h => ?_) | with_reducible refine bwf (fun h => ?_) (fun h => ?_) | with_reducible refine bnt (fun h => ?_) (fun h => ?_) | with_reducible refine bcase (fun h => ?_) (fun h => ?_)) <;> (conv => whnf))
      all_goals try (exfalso; omega)
      all_goals (rw [hw]; exact sw_kc [1, 3, 4, 5] 1 (by simp [hH]) (by simp) rfl rfl (ih () trivial))

theorem many9_spec (n : Int) (u : ByteArray) (den : Int) (ps : List Piece) (k0 k1 : Ex) : SPure Tryz.prog G 84 [(Ex.mk 9 n u den ps [k0, k1]).sv] (sB (opOK 9 u k0 k1 2 (decide (k1.unit = k0.unit)))) := by
  have hrows := exprRows_eq [k0, k1]
  have hlen : (exprRows [k0, k1]).length = 2 := by rw [hrows]; rfl
  have h0 : (exprRows [k0, k1])[0]? = some k0.cells := by rw [hrows]; rfl
  have h1 : (exprRows [k0, k1])[1]? = some k1.cells := by rw [hrows]; rfl
  have hkl : [k0, k1].length = 2 := rfl
  generalize [k0, k1] = ks at hrows hlen h0 h1 hkl ⊢
  refine spure_enter Tryz.func84 rfl (by rw [Tryz.ntmps84]; simp) rfl rfl ?_; intro E hH hK
  obtain ⟨o0, n0, u0, d0, p0, q0⟩ := k0
  obtain ⟨o1, n1, u1, d1, p1, q1⟩ := k1
  replace hK : ∀ H', E.K (sB (decide (u = tT) && decide (u0 = u1) && !decide (u0 = tT))) H' := by
    intro H'
    have := hK H'
    rw [opOK9] at this
    exact this
  (refine sgo_sound [] 1000 ?_; conv => whnf)
  refine swr_index rfl rfl rfl rfl rfl rfl rfl rfl  (row := (Ex.mk o0 n0 u0 d0 p0 q0).cells) h0 ?_
  (refine sgor_sound [] 1000 ?_; conv => whnf)
  refine swr_index rfl rfl rfl rfl rfl rfl rfl rfl  (row := (Ex.mk o1 n1 u1 d1 p1 q1).cells) h1 ?_
  (refine sgor_sound [] 1000 ?_; conv => whnf)
  refine sw_keep [1, 3, 4, 5] ?_
  refine sw_each ks (fun i (_ : Unit) => [(1, .ptr 0 0), (3, sS u0), (4, sS u1), (5, sI i)]) (fun _ _ => [.cells [sI 9, sI n, sS u, sI den, .imm (.isl 3 (ps.map Piece.cells)), .imm (.isl 6 (exprRows ks))]])
    (fun _ _ _ => True) () trivial ?_ ?_
  · as_aux_lemma =>
      rintro _ _
      (refine sgo_sound [] 1000 ?_; conv => whnf)
      repeat' ((first | with_reducible refine bdec (fun h => ?_) (fun h => ?_) | with_reducible refine bndec (fun h => ?_) (fun h => ?_) | with_reducible refine bwtd (fun h => ?_) (fun h => ?_) | with_reducible refine bwfd (fun h => ?_) (fun h => ?_) | with_reducible refine bwtn (fun h => ?_) (fun h => ?_) | with_reducible refine bwfn (fun h => ?_) (fun h => ?_) | with_reducible refine bwtb (fun h => ?_) (fun h => ?_) | with_reducible refine bwfb (fun h => ?_) (fun h => ?_) | with_reducible refine bwt (fun h => ?_) (fun h => ?_) | with_reducible refine bwf (fun h => ?_) (fun h => ?_) | with_reducible refine bnt (fun h => ?_) (fun h => ?_) | with_reducible refine bcase (fun h => ?_) (fun h => ?_)) <;> (conv => whnf))
      all_goals try (exfalso; omega)
      all_goals exact kB hK (by simp [tT, tN, *])
  · as_aux_lemma =>
      rintro done k rest _ ha hl _ ih
      have hw := wrap_succ (n := done.length) (by omega)
      (refine sgo_sound [] 1000 ?_; conv => whnf)
      repeat' ((first | with_reducible refine bdec (fun h => ?_) (fun h => ?_) | with_reducible refine bndec (fun h => ?_) (fun h => ?_) | with_reducible refine bwtd (fun h => ?_) (fun h => ?_) | with_reducible refine bwfd (fun h => ?_) (fun h => ?_) | with_reducible refine bwtn (fun h => ?_) (fun h => ?_) | with_reducible refine bwfn (fun h => ?_) (fun h => ?_) | with_reducible refine bwtb (fun h => ?_) (fun h => ?_) | with_reducible refine bwfb (fun h => ?_) (fun h => ?_) | with_reducible refine bwt (fun h => ?_) (fun h => ?_) | with_reducible refine bwf (fun h => ?_) (fun h => ?_) | with_reducible refine bnt (fun h => ?_) (fun h => ?_) | with_reducible refine bcase (fun h => ?_) (fun h => ?_)) <;> (conv => whnf))
      all_goals try (exfalso; omega)
      all_goals (rw [hw]; exact sw_kc [1, 3, 4, 5] 1 (by simp [hH]) (by simp) rfl rfl (ih () trivial))

theorem many10_spec (n : Int) (u : ByteArray) (den : Int) (ps : List Piece) (k0 k1 : Ex) : SPure Tryz.prog G 84 [(Ex.mk 10 n u den ps [k0, k1]).sv] (sB (opOK 10 u k0 k1 2 (decide (k1.unit = k0.unit)))) := by
  have hrows := exprRows_eq [k0, k1]
  have hlen : (exprRows [k0, k1]).length = 2 := by rw [hrows]; rfl
  have h0 : (exprRows [k0, k1])[0]? = some k0.cells := by rw [hrows]; rfl
  have h1 : (exprRows [k0, k1])[1]? = some k1.cells := by rw [hrows]; rfl
  have hkl : [k0, k1].length = 2 := rfl
  generalize [k0, k1] = ks at hrows hlen h0 h1 hkl ⊢
  refine spure_enter Tryz.func84 rfl (by rw [Tryz.ntmps84]; simp) rfl rfl ?_; intro E hH hK
  obtain ⟨o0, n0, u0, d0, p0, q0⟩ := k0
  obtain ⟨o1, n1, u1, d1, p1, q1⟩ := k1
  replace hK : ∀ H', E.K (sB (decide (u = tT) && decide (u0 = u1) && !decide (u0 = tT))) H' := by
    intro H'
    have := hK H'
    rw [opOK10] at this
    exact this
  (refine sgo_sound [] 1000 ?_; conv => whnf)
  refine swr_index rfl rfl rfl rfl rfl rfl rfl rfl  (row := (Ex.mk o0 n0 u0 d0 p0 q0).cells) h0 ?_
  (refine sgor_sound [] 1000 ?_; conv => whnf)
  refine swr_index rfl rfl rfl rfl rfl rfl rfl rfl  (row := (Ex.mk o1 n1 u1 d1 p1 q1).cells) h1 ?_
  (refine sgor_sound [] 1000 ?_; conv => whnf)
  refine sw_keep [1, 3, 4, 5] ?_
  refine sw_each ks (fun i (_ : Unit) => [(1, .ptr 0 0), (3, sS u0), (4, sS u1), (5, sI i)]) (fun _ _ => [.cells [sI 10, sI n, sS u, sI den, .imm (.isl 3 (ps.map Piece.cells)), .imm (.isl 6 (exprRows ks))]])
    (fun _ _ _ => True) () trivial ?_ ?_
  · as_aux_lemma =>
      rintro _ _
      (refine sgo_sound [] 1000 ?_; conv => whnf)
      repeat' ((first | with_reducible refine bdec (fun h => ?_) (fun h => ?_) | with_reducible refine bndec (fun h => ?_) (fun h => ?_) | with_reducible refine bwtd (fun h => ?_) (fun h => ?_) | with_reducible refine bwfd (fun h => ?_) (fun h => ?_) | with_reducible refine bwtn (fun h => ?_) (fun h => ?_) | with_reducible refine bwfn (fun h => ?_) (fun h => ?_) | with_reducible refine bwtb (fun h => ?_) (fun h => ?_) | with_reducible refine bwfb (fun h => ?_) (fun h => ?_) | with_reducible refine bwt (fun h => ?_) (fun h => ?_) | with_reducible refine bwf (fun h => ?_) (fun h => ?_) | with_reducible refine bnt (fun h => ?_) (fun h => ?_) | with_reducible refine bcase (fun h => ?_) (fun h => ?_)) <;> (conv => whnf))
      all_goals try (exfalso; omega)
      all_goals exact kB hK (by simp [tT, tN, *])
  · as_aux_lemma =>
      rintro done k rest _ ha hl _ ih
      have hw := wrap_succ (n := done.length) (by omega)
      (refine sgo_sound [] 1000 ?_; conv => whnf)
      repeat' ((first | with_reducible refine bdec (fun h => ?_) (fun h => ?_) | with_reducible refine bndec (fun h => ?_) (fun h => ?_) | with_reducible refine bwtd (fun h => ?_) (fun h => ?_) | with_reducible refine bwfd (fun h => ?_) (fun h => ?_) | with_reducible refine bwtn (fun h => ?_) (fun h => ?_) | with_reducible refine bwfn (fun h => ?_) (fun h => ?_) | with_reducible refine bwtb (fun h => ?_) (fun h => ?_) | with_reducible refine bwfb (fun h => ?_) (fun h => ?_) | with_reducible refine bwt (fun h => ?_) (fun h => ?_) | with_reducible refine bwf (fun h => ?_) (fun h => ?_) | with_reducible refine bnt (fun h => ?_) (fun h => ?_) | with_reducible refine bcase (fun h => ?_) (fun h => ?_)) <;> (conv => whnf))
      all_goals try (exfalso; omega)
      all_goals (rw [hw]; exact sw_kc [1, 3, 4, 5] 1 (by simp [hH]) (by simp) rfl rfl (ih () trivial))

theorem many11_spec (n : Int) (u : ByteArray) (den : Int) (ps : List Piece) (k0 k1 : Ex) : SPure Tryz.prog G 84 [(Ex.mk 11 n u den ps [k0, k1]).sv] (sB (opOK 11 u k0 k1 2 (decide (k1.unit = k0.unit)))) := by
  have hrows := exprRows_eq [k0, k1]
  have hlen : (exprRows [k0, k1]).length = 2 := by rw [hrows]; rfl
  have h0 : (exprRows [k0, k1])[0]? = some k0.cells := by rw [hrows]; rfl
  have h1 : (exprRows [k0, k1])[1]? = some k1.cells := by rw [hrows]; rfl
  have hkl : [k0, k1].length = 2 := rfl
  generalize [k0, k1] = ks at hrows hlen h0 h1 hkl ⊢
  refine spure_enter Tryz.func84 rfl (by rw [Tryz.ntmps84]; simp) rfl rfl ?_; intro E hH hK
  obtain ⟨o0, n0, u0, d0, p0, q0⟩ := k0
  obtain ⟨o1, n1, u1, d1, p1, q1⟩ := k1
  replace hK : ∀ H', E.K (sB (decide (u = u0) && decide (u0 = u1) && !decide (u0 = tT))) H' := by
    intro H'
    have := hK H'
    rw [opOK11] at this
    exact this
  (refine sgo_sound [] 1000 ?_; conv => whnf)
  refine swr_index rfl rfl rfl rfl rfl rfl rfl rfl  (row := (Ex.mk o0 n0 u0 d0 p0 q0).cells) h0 ?_
  (refine sgor_sound [] 1000 ?_; conv => whnf)
  refine swr_index rfl rfl rfl rfl rfl rfl rfl rfl  (row := (Ex.mk o1 n1 u1 d1 p1 q1).cells) h1 ?_
  (refine sgor_sound [] 1000 ?_; conv => whnf)
  refine sw_keep [1, 3, 4, 5] ?_
  refine sw_each ks (fun i (_ : Unit) => [(1, .ptr 0 0), (3, sS u0), (4, sS u1), (5, sI i)]) (fun _ _ => [.cells [sI 11, sI n, sS u, sI den, .imm (.isl 3 (ps.map Piece.cells)), .imm (.isl 6 (exprRows ks))]])
    (fun _ _ _ => True) () trivial ?_ ?_
  · as_aux_lemma =>
      rintro _ _
      (refine sgo_sound [] 1000 ?_; conv => whnf)
      repeat' ((first | with_reducible refine bdec (fun h => ?_) (fun h => ?_) | with_reducible refine bndec (fun h => ?_) (fun h => ?_) | with_reducible refine bwtd (fun h => ?_) (fun h => ?_) | with_reducible refine bwfd (fun h => ?_) (fun h => ?_) | with_reducible refine bwtn (fun h => ?_) (fun h => ?_) | with_reducible refine bwfn (fun h => ?_) (fun h => ?_) | with_reducible refine bwtb (fun h => ?_) (fun h => ?_) | with_reducible refine bwfb (fun h => ?_) (fun h => ?_) | with_reducible refine bwt (fun h => ?_) (fun h => ?_) | with_reducible refine bwf (fun h => ?_) (fun h => ?_) | with_reducible refine bnt (fun h => ?_) (fun h => ?_) | with_reducible refine bcase (fun h => ?_) (fun h => ?_)) <;> (conv => whnf))
      all_goals try (exfalso; omega)
      all_goals exact kB hK (by simp [tT, tN, *])
  · as_aux_lemma =>
      rintro done k rest _ ha hl _ ih
      have hw := wrap_succ (n := done.length) (by omega)
      (refine sgo_sound [] 1000 ?_; conv => whnf)
      repeat' ((first | with_reducible refine bdec (fun h => ?_) (fun h => ?_) | with_reducible refine bndec (fun h => ?_) (fun h => ?_) | with_reducible refine bwtd (fun h => ?_) (fun h => ?_) | with_reducible refine bwfd (fun h => ?_) (fun h => ?_) | with_reducible refine bwtn (fun h => ?_) (fun h => ?_) | with_reducible refine bwfn (fun h => ?_) (fun h => ?_) | with_reducible refine bwtb (fun h => ?_) (fun h => ?_) | with_reducible refine bwfb (fun h => ?_) (fun h => ?_) | with_reducible refine bwt (fun h => ?_) (fun h => ?_) | with_reducible refine bwf (fun h => ?_) (fun h => ?_) | with_reducible refine bnt (fun h => ?_) (fun h => ?_) | with_reducible refine bcase (fun h => ?_) (fun h => ?_)) <;> (conv => whnf))
      all_goals try (exfalso; omega)
      all_goals (rw [hw]; exact sw_kc [1, 3, 4, 5] 1 (by simp [hH]) (by simp) rfl rfl (ih () trivial))

theorem many12_spec (n : Int) (u : ByteArray) (den : Int) (ps : List Piece) (k0 k1 : Ex) : SPure Tryz.prog G 84 [(Ex.mk 12 n u den ps [k0, k1]).sv] (sB (opOK 12 u k0 k1 2 (decide (k1.unit = k0.unit)))) := by
  have hrows := exprRows_eq [k0, k1]
  have hlen : (exprRows [k0, k1]).length = 2 := by rw [hrows]; rfl
  have h0 : (exprRows [k0, k1])[0]? = some k0.cells := by rw [hrows]; rfl
  have h1 : (exprRows [k0, k1])[1]? = some k1.cells := by rw [hrows]; rfl
  have hkl : [k0, k1].length = 2 := rfl
  generalize [k0, k1] = ks at hrows hlen h0 h1 hkl ⊢
  refine spure_enter Tryz.func84 rfl (by rw [Tryz.ntmps84]; simp) rfl rfl ?_; intro E hH hK
  obtain ⟨o0, n0, u0, d0, p0, q0⟩ := k0
  obtain ⟨o1, n1, u1, d1, p1, q1⟩ := k1
  replace hK : ∀ H', E.K (sB (decide (u = u0) && decide (u0 = u1) && !decide (u0 = tT))) H' := by
    intro H'
    have := hK H'
    rw [opOK12] at this
    exact this
  (refine sgo_sound [] 1000 ?_; conv => whnf)
  refine swr_index rfl rfl rfl rfl rfl rfl rfl rfl  (row := (Ex.mk o0 n0 u0 d0 p0 q0).cells) h0 ?_
  (refine sgor_sound [] 1000 ?_; conv => whnf)
  refine swr_index rfl rfl rfl rfl rfl rfl rfl rfl  (row := (Ex.mk o1 n1 u1 d1 p1 q1).cells) h1 ?_
  (refine sgor_sound [] 1000 ?_; conv => whnf)
  refine sw_keep [1, 3, 4, 5] ?_
  refine sw_each ks (fun i (_ : Unit) => [(1, .ptr 0 0), (3, sS u0), (4, sS u1), (5, sI i)]) (fun _ _ => [.cells [sI 12, sI n, sS u, sI den, .imm (.isl 3 (ps.map Piece.cells)), .imm (.isl 6 (exprRows ks))]])
    (fun _ _ _ => True) () trivial ?_ ?_
  · as_aux_lemma =>
      rintro _ _
      (refine sgo_sound [] 1000 ?_; conv => whnf)
      repeat' ((first | with_reducible refine bdec (fun h => ?_) (fun h => ?_) | with_reducible refine bndec (fun h => ?_) (fun h => ?_) | with_reducible refine bwtd (fun h => ?_) (fun h => ?_) | with_reducible refine bwfd (fun h => ?_) (fun h => ?_) | with_reducible refine bwtn (fun h => ?_) (fun h => ?_) | with_reducible refine bwfn (fun h => ?_) (fun h => ?_) | with_reducible refine bwtb (fun h => ?_) (fun h => ?_) | with_reducible refine bwfb (fun h => ?_) (fun h => ?_) | with_reducible refine bwt (fun h => ?_) (fun h => ?_) | with_reducible refine bwf (fun h => ?_) (fun h => ?_) | with_reducible refine bnt (fun h => ?_) (fun h => ?_) | with_reducible refine bcase (fun h => ?_) (fun h => ?_)) <;> (conv => whnf))
      all_goals try (exfalso; omega)
      all_goals exact kB hK (by simp [tT, tN, *])
  · as_aux_lemma =>
      rintro done k rest _ ha hl _ ih
      have hw := wrap_succ (n := done.length) (by omega)
      (refine sgo_sound [] 1000 ?_; conv => whnf)
      repeat' ((first | with_reducible refine bdec (fun h => ?_) (fun h => ?_) | with_reducible refine bndec (fun h => ?_) (fun h => ?_) | with_reducible refine bwtd (fun h => ?_) (fun h => ?_) | with_reducible refine bwfd (fun h => ?_) (fun h => ?_) | with_reducible refine bwtn (fun h => ?_) (fun h => ?_) | with_reducible refine bwfn (fun h => ?_) (fun h => ?_) | with_reducible refine bwtb (fun h => ?_) (fun h => ?_) | with_reducible refine bwfb (fun h => ?_) (fun h => ?_) | with_reducible refine bwt (fun h => ?_) (fun h => ?_) | with_reducible refine bwf (fun h => ?_) (fun h => ?_) | with_reducible refine bnt (fun h => ?_) (fun h => ?_) | with_reducible refine bcase (fun h => ?_) (fun h => ?_)) <;> (conv => whnf))
      all_goals try (exfalso; omega)
      all_goals (rw [hw]; exact sw_kc [1, 3, 4, 5] 1 (by simp [hH]) (by simp) rfl rfl (ih () trivial))

theorem many13_spec (n : Int) (u : ByteArray) (den : Int) (ps : List Piece) (k0 k1 : Ex) : SPure Tryz.prog G 84 [(Ex.mk 13 n u den ps [k0, k1]).sv] (sB (opOK 13 u k0 k1 2 (decide (k1.unit = k0.unit)))) := by
  have hrows := exprRows_eq [k0, k1]
  have hlen : (exprRows [k0, k1]).length = 2 := by rw [hrows]; rfl
  have h0 : (exprRows [k0, k1])[0]? = some k0.cells := by rw [hrows]; rfl
  have h1 : (exprRows [k0, k1])[1]? = some k1.cells := by rw [hrows]; rfl
  have hkl : [k0, k1].length = 2 := rfl
  generalize [k0, k1] = ks at hrows hlen h0 h1 hkl ⊢
  refine spure_enter Tryz.func84 rfl (by rw [Tryz.ntmps84]; simp) rfl rfl ?_; intro E hH hK
  obtain ⟨o0, n0, u0, d0, p0, q0⟩ := k0
  obtain ⟨o1, n1, u1, d1, p1, q1⟩ := k1
  replace hK : ∀ H', E.K (sB (!decide (u0 = tT) && !decide (u1 = tT) && ((decide (u0 = tN) && decide (u = u1)) || (decide (u1 = tN) && decide (u = u0))))) H' := by
    intro H'
    have := hK H'
    rw [opOK13] at this
    exact this
  (refine sgo_sound [] 1000 ?_; conv => whnf)
  refine swr_index rfl rfl rfl rfl rfl rfl rfl rfl  (row := (Ex.mk o0 n0 u0 d0 p0 q0).cells) h0 ?_
  (refine sgor_sound [] 1000 ?_; conv => whnf)
  refine swr_index rfl rfl rfl rfl rfl rfl rfl rfl  (row := (Ex.mk o1 n1 u1 d1 p1 q1).cells) h1 ?_
  (refine sgor_sound [] 1000 ?_; conv => whnf)
  refine sw_keep [1, 3, 4, 5] ?_
  refine sw_each ks (fun i (_ : Unit) => [(1, .ptr 0 0), (3, sS u0), (4, sS u1), (5, sI i)]) (fun _ _ => [.cells [sI 13, sI n, sS u, sI den, .imm (.isl 3 (ps.map Piece.cells)), .imm (.isl 6 (exprRows ks))]])
    (fun _ _ _ => True) () trivial ?_ ?_
  · as_aux_lemma =>
      rintro _ _
      (refine sgo_sound [] 1000 ?_; conv => whnf)
      repeat' ((first | with_reducible refine bdec (fun h => ?_) (fun h => ?_) | with_reducible refine bndec (fun h => ?_) (fun h => ?_) | with_reducible refine bwtd (fun h => ?_) (fun h => ?_) | with_reducible refine bwfd (fun h => ?_) (fun h => ?_) | with_reducible refine bwtn (fun h => ?_) (fun h => ?_) | with_reducible refine bwfn (fun h => ?_) (fun h => ?_) | with_reducible refine bwtb (fun h => ?_) (fun h => ?_) | with_reducible refine bwfb (fun h => ?_) (fun h => ?_) | with_reducible refine bwt (fun h => ?_) (fun h => ?_) | with_reducible refine bwf (fun h => ?_) (fun h => ?_) | with_reducible refine bnt (fun h => ?_) (fun h => ?_) | with_reducible refine bcase (fun h => ?_) (fun h => ?_)) <;> (conv => whnf))
      all_goals try (exfalso; omega)
      all_goals exact kB hK (by simp [tT, tN, *])
  · as_aux_lemma =>
      rintro done k rest _ ha hl _ ih
      have hw := wrap_succ (n := done.length) (by omega)
      (refine sgo_sound [] 1000 ?_; conv => whnf)
      repeat' ((first | with_reducible refine bdec (fun h => ?_) (fun h => ?_) | with_reducible refine bndec (fun h => ?_) (fun h => ?_) | with_reducible refine bwtd (fun h => ?_) (fun h => ?_) | with_reducible refine bwfd (fun h => ?_) (fun h => ?_) | with_reducible refine bwtn (fun h => ?_) (fun h => ?_) | with_reducible refine bwfn (fun h => ?_) (fun h => ?_) | with_reducible refine bwtb (fun h => ?_) (fun h => ?_) | with_reducible refine bwfb (fun h => ?_) (fun h => ?_) | with_reducible refine bwt (fun h => ?_) (fun h => ?_) | with_reducible refine bwf (fun h => ?_) (fun h => ?_) | with_reducible refine bnt (fun h => ?_) (fun h => ?_) | with_reducible refine bcase (fun h => ?_) (fun h => ?_)) <;> (conv => whnf))
      all_goals try (exfalso; omega)
      all_goals (rw [hw]; exact sw_kc [1, 3, 4, 5] 1 (by simp [hH]) (by simp) rfl rfl (ih () trivial))

theorem many14_spec (n : Int) (u : ByteArray) (den : Int) (ps : List Piece) (k0 k1 : Ex) : SPure Tryz.prog G 84 [(Ex.mk 14 n u den ps [k0, k1]).sv] (sB (opOK 14 u k0 k1 2 (decide (k1.unit = k0.unit)))) := by
  have hrows := exprRows_eq [k0, k1]
  have hlen : (exprRows [k0, k1]).length = 2 := by rw [hrows]; rfl
  have h0 : (exprRows [k0, k1])[0]? = some k0.cells := by rw [hrows]; rfl
  have h1 : (exprRows [k0, k1])[1]? = some k1.cells := by rw [hrows]; rfl
  have hkl : [k0, k1].length = 2 := rfl
  generalize [k0, k1] = ks at hrows hlen h0 h1 hkl ⊢
  refine spure_enter Tryz.func84 rfl (by rw [Tryz.ntmps84]; simp) rfl rfl ?_; intro E hH hK
  obtain ⟨o0, n0, u0, d0, p0, q0⟩ := k0
  obtain ⟨o1, n1, u1, d1, p1, q1⟩ := k1
  replace hK : ∀ H', E.K (sB (decide (u = u0) && !decide (u0 = tT) && decide (o1 = 1) && decide (u1 = tN) && decide (1 ≤ n1) && decide (n1 ≤ 1000000))) H' := by
    intro H'
    have := hK H'
    rw [opOK14] at this
    exact this
  (refine sgo_sound [] 1000 ?_; conv => whnf)
  refine swr_index rfl rfl rfl rfl rfl rfl rfl rfl  (row := (Ex.mk o0 n0 u0 d0 p0 q0).cells) h0 ?_
  (refine sgor_sound [] 1000 ?_; conv => whnf)
  refine swr_index rfl rfl rfl rfl rfl rfl rfl rfl  (row := (Ex.mk o1 n1 u1 d1 p1 q1).cells) h1 ?_
  (refine sgor_sound [] 1000 ?_; conv => whnf)
  refine sw_keep [1, 3, 4, 5] ?_
  refine sw_each ks (fun i (_ : Unit) => [(1, .ptr 0 0), (3, sS u0), (4, sS u1), (5, sI i)]) (fun _ _ => [.cells [sI 14, sI n, sS u, sI den, .imm (.isl 3 (ps.map Piece.cells)), .imm (.isl 6 (exprRows ks))]])
    (fun _ _ _ => True) () trivial ?_ ?_
  · as_aux_lemma =>
      rintro _ _
      (refine sgo_sound [] 1000 ?_; conv => whnf)
      repeat' ((first | with_reducible refine bdec (fun h => ?_) (fun h => ?_) | with_reducible refine bndec (fun h => ?_) (fun h => ?_) | with_reducible refine bwtd (fun h => ?_) (fun h => ?_) | with_reducible refine bwfd (fun h => ?_) (fun h => ?_) | with_reducible refine bwtn (fun h => ?_) (fun h => ?_) | with_reducible refine bwfn (fun h => ?_) (fun h => ?_) | with_reducible refine bwtb (fun h => ?_) (fun h => ?_) | with_reducible refine bwfb (fun h => ?_) (fun h => ?_) | with_reducible refine bwt (fun h => ?_) (fun h => ?_) | with_reducible refine bwf (fun h => ?_) (fun h => ?_) | with_reducible refine bnt (fun h => ?_) (fun h => ?_) | with_reducible refine bcase (fun h => ?_) (fun h => ?_)) <;> (conv => whnf))
      all_goals try (exfalso; omega)
      all_goals try exact kB hK (by simp [tT, *]; done)
      refine swr_index rfl rfl rfl rfl rfl rfl rfl rfl  (row := (Ex.mk o1 n1 u1 d1 p1 q1).cells) h1 ?_
      (refine sgor_sound [] 1000 ?_; conv => whnf)
      repeat' ((first | with_reducible refine bdec (fun h => ?_) (fun h => ?_) | with_reducible refine bndec (fun h => ?_) (fun h => ?_) | with_reducible refine bwtd (fun h => ?_) (fun h => ?_) | with_reducible refine bwfd (fun h => ?_) (fun h => ?_) | with_reducible refine bwtn (fun h => ?_) (fun h => ?_) | with_reducible refine bwfn (fun h => ?_) (fun h => ?_) | with_reducible refine bwtb (fun h => ?_) (fun h => ?_) | with_reducible refine bwfb (fun h => ?_) (fun h => ?_) | with_reducible refine bwt (fun h => ?_) (fun h => ?_) | with_reducible refine bwf (fun h => ?_) (fun h => ?_) | with_reducible refine bnt (fun h => ?_) (fun h => ?_) | with_reducible refine bcase (fun h => ?_) (fun h => ?_)) <;> (conv => whnf))
      all_goals try exact kB hK (by simp [tT, *]; done)
      refine swr_index rfl rfl rfl rfl rfl rfl rfl rfl  (row := (Ex.mk o1 n1 u1 d1 p1 q1).cells) h1 ?_
      (refine sgor_sound [] 1000 ?_; conv => whnf)
      repeat' ((first | with_reducible refine bdec (fun h => ?_) (fun h => ?_) | with_reducible refine bndec (fun h => ?_) (fun h => ?_) | with_reducible refine bwtd (fun h => ?_) (fun h => ?_) | with_reducible refine bwfd (fun h => ?_) (fun h => ?_) | with_reducible refine bwtn (fun h => ?_) (fun h => ?_) | with_reducible refine bwfn (fun h => ?_) (fun h => ?_) | with_reducible refine bwtb (fun h => ?_) (fun h => ?_) | with_reducible refine bwfb (fun h => ?_) (fun h => ?_) | with_reducible refine bwt (fun h => ?_) (fun h => ?_) | with_reducible refine bwf (fun h => ?_) (fun h => ?_) | with_reducible refine bnt (fun h => ?_) (fun h => ?_) | with_reducible refine bcase (fun h => ?_) (fun h => ?_)) <;> (conv => whnf))
      all_goals try exact kB hK (by simp [tT, *]; done)
      refine swr_index rfl rfl rfl rfl rfl rfl rfl rfl  (row := (Ex.mk o1 n1 u1 d1 p1 q1).cells) h1 ?_
      (refine sgor_sound [] 1000 ?_; conv => whnf)
      repeat' ((first | with_reducible refine bdec (fun h => ?_) (fun h => ?_) | with_reducible refine bndec (fun h => ?_) (fun h => ?_) | with_reducible refine bwtd (fun h => ?_) (fun h => ?_) | with_reducible refine bwfd (fun h => ?_) (fun h => ?_) | with_reducible refine bwtn (fun h => ?_) (fun h => ?_) | with_reducible refine bwfn (fun h => ?_) (fun h => ?_) | with_reducible refine bwtb (fun h => ?_) (fun h => ?_) | with_reducible refine bwfb (fun h => ?_) (fun h => ?_) | with_reducible refine bwt (fun h => ?_) (fun h => ?_) | with_reducible refine bwf (fun h => ?_) (fun h => ?_) | with_reducible refine bnt (fun h => ?_) (fun h => ?_) | with_reducible refine bcase (fun h => ?_) (fun h => ?_)) <;> (conv => whnf))
      all_goals exact kB hK (by simp [tT, *])
  · as_aux_lemma =>
      rintro done k rest _ ha hl _ ih
      have hw := wrap_succ (n := done.length) (by omega)
      (refine sgo_sound [] 1000 ?_; conv => whnf)
      repeat' ((first | with_reducible refine bdec (fun h => ?_) (fun h => ?_) | with_reducible refine bndec (fun h => ?_) (fun h => ?_) | with_reducible refine bwtd (fun h => ?_) (fun h => ?_) | with_reducible refine bwfd (fun h => ?_) (fun h => ?_) | with_reducible refine bwtn (fun h => ?_) (fun h => ?_) | with_reducible refine bwfn (fun h => ?_) (fun h => ?_) | with_reducible refine bwtb (fun h => ?_) (fun h => ?_) | with_reducible refine bwfb (fun h => ?_) (fun h => ?_) | with_reducible refine bwt (fun h => ?_) (fun h => ?_) | with_reducible refine bwf (fun h => ?_) (fun h => ?_) | with_reducible refine bnt (fun h => ?_) (fun h => ?_) | with_reducible refine bcase (fun h => ?_) (fun h => ?_)) <;> (conv => whnf))
      all_goals try (exfalso; omega)
      all_goals (rw [hw]; exact sw_kc [1, 3, 4, 5] 1 (by simp [hH]) (by simp) rfl rfl (ih () trivial))

theorem many15_spec (n : Int) (u : ByteArray) (den : Int) (ps : List Piece) (k0 k1 : Ex) : SPure Tryz.prog G 84 [(Ex.mk 15 n u den ps [k0, k1]).sv] (sB (opOK 15 u k0 k1 2 (decide (k1.unit = k0.unit)))) := by
  have hrows := exprRows_eq [k0, k1]
  have hlen : (exprRows [k0, k1]).length = 2 := by rw [hrows]; rfl
  have h0 : (exprRows [k0, k1])[0]? = some k0.cells := by rw [hrows]; rfl
  have h1 : (exprRows [k0, k1])[1]? = some k1.cells := by rw [hrows]; rfl
  have hkl : [k0, k1].length = 2 := rfl
  generalize [k0, k1] = ks at hrows hlen h0 h1 hkl ⊢
  refine spure_enter Tryz.func84 rfl (by rw [Tryz.ntmps84]; simp) rfl rfl ?_; intro E hH hK
  obtain ⟨o0, n0, u0, d0, p0, q0⟩ := k0
  obtain ⟨o1, n1, u1, d1, p1, q1⟩ := k1
  replace hK : ∀ H', E.K (sB (decide (u0 = tM) && curOK u1 && decide (u = u1))) H' := by
    intro H'
    have := hK H'
    rw [opOK15] at this
    exact this
  (refine sgo_sound [] 1000 ?_; conv => whnf)
  refine swr_index rfl rfl rfl rfl rfl rfl rfl rfl  (row := (Ex.mk o0 n0 u0 d0 p0 q0).cells) h0 ?_
  (refine sgor_sound [] 1000 ?_; conv => whnf)
  refine swr_index rfl rfl rfl rfl rfl rfl rfl rfl  (row := (Ex.mk o1 n1 u1 d1 p1 q1).cells) h1 ?_
  (refine sgor_sound [] 1000 ?_; conv => whnf)
  refine sw_keep [1, 3, 4, 5] ?_
  refine sw_each ks (fun i (_ : Unit) => [(1, .ptr 0 0), (3, sS u0), (4, sS u1), (5, sI i)]) (fun _ _ => [.cells [sI 15, sI n, sS u, sI den, .imm (.isl 3 (ps.map Piece.cells)), .imm (.isl 6 (exprRows ks))]])
    (fun _ _ _ => True) () trivial ?_ ?_
  · as_aux_lemma =>
      rintro _ _
      (refine sgo_sound [] 1000 ?_; conv => whnf)
      repeat' ((first | with_reducible refine bdec (fun h => ?_) (fun h => ?_) | with_reducible refine bndec (fun h => ?_) (fun h => ?_) | with_reducible refine bwtd (fun h => ?_) (fun h => ?_) | with_reducible refine bwfd (fun h => ?_) (fun h => ?_) | with_reducible refine bwtn (fun h => ?_) (fun h => ?_) | with_reducible refine bwfn (fun h => ?_) (fun h => ?_) | with_reducible refine bwtb (fun h => ?_) (fun h => ?_) | with_reducible refine bwfb (fun h => ?_) (fun h => ?_) | with_reducible refine bwt (fun h => ?_) (fun h => ?_) | with_reducible refine bwf (fun h => ?_) (fun h => ?_) | with_reducible refine bnt (fun h => ?_) (fun h => ?_) | with_reducible refine bcase (fun h => ?_) (fun h => ?_)) <;> (conv => whnf))
      all_goals try (exfalso; omega)
      all_goals try exact kB hK (by simp [tM, *]; done)
      refine swr_pure rfl rfl rfl rfl rfl rfl  (cur_spec G u1) ?_
      (refine sgor_sound [] 1000 ?_; conv => whnf)
      repeat' ((first | with_reducible refine bdec (fun h => ?_) (fun h => ?_) | with_reducible refine bndec (fun h => ?_) (fun h => ?_) | with_reducible refine bwtd (fun h => ?_) (fun h => ?_) | with_reducible refine bwfd (fun h => ?_) (fun h => ?_) | with_reducible refine bwtn (fun h => ?_) (fun h => ?_) | with_reducible refine bwfn (fun h => ?_) (fun h => ?_) | with_reducible refine bwtb (fun h => ?_) (fun h => ?_) | with_reducible refine bwfb (fun h => ?_) (fun h => ?_) | with_reducible refine bwt (fun h => ?_) (fun h => ?_) | with_reducible refine bwf (fun h => ?_) (fun h => ?_) | with_reducible refine bnt (fun h => ?_) (fun h => ?_) | with_reducible refine bcase (fun h => ?_) (fun h => ?_)) <;> (conv => whnf))
      all_goals exact kB hK (by simp [tM, *])
  · as_aux_lemma =>
      rintro done k rest _ ha hl _ ih
      have hw := wrap_succ (n := done.length) (by omega)
      (refine sgo_sound [] 1000 ?_; conv => whnf)
      repeat' ((first | with_reducible refine bdec (fun h => ?_) (fun h => ?_) | with_reducible refine bndec (fun h => ?_) (fun h => ?_) | with_reducible refine bwtd (fun h => ?_) (fun h => ?_) | with_reducible refine bwfd (fun h => ?_) (fun h => ?_) | with_reducible refine bwtn (fun h => ?_) (fun h => ?_) | with_reducible refine bwfn (fun h => ?_) (fun h => ?_) | with_reducible refine bwtb (fun h => ?_) (fun h => ?_) | with_reducible refine bwfb (fun h => ?_) (fun h => ?_) | with_reducible refine bwt (fun h => ?_) (fun h => ?_) | with_reducible refine bwf (fun h => ?_) (fun h => ?_) | with_reducible refine bnt (fun h => ?_) (fun h => ?_) | with_reducible refine bcase (fun h => ?_) (fun h => ?_)) <;> (conv => whnf))
      all_goals try (exfalso; omega)
      all_goals (rw [hw]; exact sw_kc [1, 3, 4, 5] 1 (by simp [hH]) (by simp) rfl rfl (ih () trivial))

theorem manyElse_spec (op n : Int) (u : ByteArray) (den : Int) (ps : List Piece) (k0 k1 : Ex) (hc : op < 6 ∨ 17 < op) : SPure Tryz.prog G 84 [(Ex.mk op n u den ps [k0, k1]).sv] (sB (opOK op u k0 k1 2 (decide (k1.unit = k0.unit)))) := by
  have hrows := exprRows_eq [k0, k1]
  have hlen : (exprRows [k0, k1]).length = 2 := by rw [hrows]; rfl
  have h0 : (exprRows [k0, k1])[0]? = some k0.cells := by rw [hrows]; rfl
  have h1 : (exprRows [k0, k1])[1]? = some k1.cells := by rw [hrows]; rfl
  have hkl : [k0, k1].length = 2 := rfl
  generalize [k0, k1] = ks at hrows hlen h0 h1 hkl ⊢
  refine spure_enter Tryz.func84 rfl (by rw [Tryz.ntmps84]; simp) rfl rfl ?_; intro E hH hK
  obtain ⟨o0, n0, u0, d0, p0, q0⟩ := k0
  obtain ⟨o1, n1, u1, d1, p1, q1⟩ := k1
  rw [opOKelse _ _ _ _ _ hc] at hK
  (refine sgo_sound [] 1000 ?_; conv => whnf)
  refine swr_index rfl rfl rfl rfl rfl rfl rfl rfl  (row := (Ex.mk o0 n0 u0 d0 p0 q0).cells) h0 ?_
  (refine sgor_sound [] 1000 ?_; conv => whnf)
  refine swr_index rfl rfl rfl rfl rfl rfl rfl rfl  (row := (Ex.mk o1 n1 u1 d1 p1 q1).cells) h1 ?_
  (refine sgor_sound [] 1000 ?_; conv => whnf)
  refine sw_keep [1, 3, 4, 5] ?_
  refine sw_each ks (fun i (_ : Unit) => [(1, .ptr 0 0), (3, sS u0), (4, sS u1), (5, sI i)]) (fun _ _ => [.cells [sI op, sI n, sS u, sI den, .imm (.isl 3 (ps.map Piece.cells)), .imm (.isl 6 (exprRows ks))]])
    (fun _ _ _ => True) () trivial ?_ ?_
  · as_aux_lemma =>
      rintro _ _
      (refine sgo_sound [] 1000 ?_; conv => whnf)
      repeat' ((first | with_reducible refine bdec (fun h => ?_) (fun h => ?_) | with_reducible refine bndec (fun h => ?_) (fun h => ?_) | with_reducible refine bwtd (fun h => ?_) (fun h => ?_) | with_reducible refine bwfd (fun h => ?_) (fun h => ?_) | with_reducible refine bwtn (fun h => ?_) (fun h => ?_) | with_reducible refine bwfn (fun h => ?_) (fun h => ?_) | with_reducible refine bwtb (fun h => ?_) (fun h => ?_) | with_reducible refine bwfb (fun h => ?_) (fun h => ?_) | with_reducible refine bwt (fun h => ?_) (fun h => ?_) | with_reducible refine bwf (fun h => ?_) (fun h => ?_) | with_reducible refine bnt (fun h => ?_) (fun h => ?_) | with_reducible refine bcase (fun h => ?_) (fun h => ?_)) <;> (conv => whnf))
      all_goals try (exfalso; omega)
      all_goals exact hK _
  · as_aux_lemma =>
      rintro done k rest _ ha hl _ ih
      have hw := wrap_succ (n := done.length) (by omega)
      (refine sgo_sound [] 1000 ?_; conv => whnf)
      repeat' ((first | with_reducible refine bdec (fun h => ?_) (fun h => ?_) | with_reducible refine bndec (fun h => ?_) (fun h => ?_) | with_reducible refine bwtd (fun h => ?_) (fun h => ?_) | with_reducible refine bwfd (fun h => ?_) (fun h => ?_) | with_reducible refine bwtn (fun h => ?_) (fun h => ?_) | with_reducible refine bwfn (fun h => ?_) (fun h => ?_) | with_reducible refine bwtb (fun h => ?_) (fun h => ?_) | with_reducible refine bwfb (fun h => ?_) (fun h => ?_) | with_reducible refine bwt (fun h => ?_) (fun h => ?_) | with_reducible refine bwf (fun h => ?_) (fun h => ?_) | with_reducible refine bnt (fun h => ?_) (fun h => ?_) | with_reducible refine bcase (fun h => ?_) (fun h => ?_)) <;> (conv => whnf))
      all_goals try (exfalso; omega)
      all_goals (rw [hw]; exact sw_kc [1, 3, 4, 5] 1 (by simp [hH]) (by simp) rfl rfl (ih () trivial))

theorem manyLong_spec (op n : Int) (u : ByteArray) (den : Int) (ps : List Piece) (k0 k1 k2 : Ex) (kr : List Ex) (hsz : kr.length ≤ 100000) (hop : ¬ (op = 16 ∨ op = 17)) :
    SPure Tryz.prog G 84 [(Ex.mk op n u den ps (k0 :: k1 :: k2 :: kr)).sv] (sB false) := by
  have hrows := exprRows_eq (k0 :: k1 :: k2 :: kr)
  have hlen : (exprRows (k0 :: k1 :: k2 :: kr)).length = kr.length + 3 := by rw [hrows]; simp
  have h0 : (exprRows (k0 :: k1 :: k2 :: kr))[0]? = some k0.cells := by rw [hrows]; rfl
  have h1 : (exprRows (k0 :: k1 :: k2 :: kr))[1]? = some k1.cells := by rw [hrows]; rfl
  have hkl : (k0 :: k1 :: k2 :: kr).length = kr.length + 3 := by simp
  generalize k0 :: k1 :: k2 :: kr = ks at hrows hlen h0 h1 hkl ⊢
  refine spure_enter Tryz.func84 rfl (by rw [Tryz.ntmps84]; simp) rfl rfl ?_; intro E hH hK
  obtain ⟨o0, n0, u0, d0, p0, q0⟩ := k0
  obtain ⟨o1, n1, u1, d1, p1, q1⟩ := k1
  (refine sgo_sound [] 1000 ?_; conv => whnf)
  refine swr_index rfl rfl rfl rfl rfl rfl rfl rfl  (row := (Ex.mk o0 n0 u0 d0 p0 q0).cells) h0 ?_
  (refine sgor_sound [] 1000 ?_; conv => whnf)
  refine swr_index rfl rfl rfl rfl rfl rfl rfl rfl  (row := (Ex.mk o1 n1 u1 d1 p1 q1).cells) h1 ?_
  (refine sgor_sound [] 1000 ?_; conv => whnf)
  refine sw_keep [1, 3, 4, 5] ?_
  refine sw_each ks (fun i (_ : Unit) => [(1, .ptr 0 0), (3, sS u0), (4, sS u1), (5, sI i)]) (fun _ _ => [.cells [sI op, sI n, sS u, sI den, .imm (.isl 3 (ps.map Piece.cells)), .imm (.isl 6 (exprRows ks))]])
    (fun _ _ _ => True) () trivial ?_ ?_
  · as_aux_lemma =>
      rintro _ _
      (refine sgo_sound [] 1000 ?_; conv => whnf)
      repeat' ((first | with_reducible refine bdec (fun h => ?_) (fun h => ?_) | with_reducible refine bndec (fun h => ?_) (fun h => ?_) | with_reducible refine bwtd (fun h => ?_) (fun h => ?_) | with_reducible refine bwfd (fun h => ?_) (fun h => ?_) | with_reducible refine bwtn (fun h => ?_) (fun h => ?_) | with_reducible refine bwfn (fun h => ?_) (fun h => ?_) | with_reducible refine bwtb (fun h => ?_) (fun h => ?_) | with_reducible refine bwfb (fun h => ?_) (fun h => ?_) | with_reducible refine bwt (fun h => ?_) (fun h => ?_) | with_reducible refine bwf (fun h => ?_) (fun h => ?_) | with_reducible refine bnt (fun h => ?_) (fun h => ?_) | with_reducible refine bcase (fun h => ?_) (fun h => ?_)) <;> (conv => whnf))
      all_goals try (exfalso; omega)
      all_goals exact hK _
  · as_aux_lemma =>
      rintro done k rest _ ha hl _ ih
      have hw := wrap_succ (n := done.length) (by omega)
      (refine sgo_sound [] 1000 ?_; conv => whnf)
      repeat' ((first | with_reducible refine bdec (fun h => ?_) (fun h => ?_) | with_reducible refine bndec (fun h => ?_) (fun h => ?_) | with_reducible refine bwtd (fun h => ?_) (fun h => ?_) | with_reducible refine bwfd (fun h => ?_) (fun h => ?_) | with_reducible refine bwtn (fun h => ?_) (fun h => ?_) | with_reducible refine bwfn (fun h => ?_) (fun h => ?_) | with_reducible refine bwtb (fun h => ?_) (fun h => ?_) | with_reducible refine bwfb (fun h => ?_) (fun h => ?_) | with_reducible refine bwt (fun h => ?_) (fun h => ?_) | with_reducible refine bwf (fun h => ?_) (fun h => ?_) | with_reducible refine bnt (fun h => ?_) (fun h => ?_) | with_reducible refine bcase (fun h => ?_) (fun h => ?_)) <;> (conv => whnf))
      all_goals try (exfalso; omega)
      all_goals (rw [hw]; exact sw_kc [1, 3, 4, 5] 1 (by simp [hH]) (by simp) rfl rfl (ih () trivial))

theorem many1617_spec (op n : Int) (u : ByteArray) (den : Int) (ps : List Piece) (k0 k1 : Ex) (kr : List Ex) (hsz : kr.length ≤ 100000) (hop : op = 16 ∨ op = 17) :
    SPure Tryz.prog G 84 [(Ex.mk op n u den ps (k0 :: k1 :: kr)).sv] (sB (sameU (k0 :: k1 :: kr) && (!decide (k0.unit = tT) && decide (u = k0.unit)))) := by
  have hrows := exprRows_eq (k0 :: k1 :: kr)
  have hlen : (exprRows (k0 :: k1 :: kr)).length = kr.length + 2 := by rw [hrows]; simp
  have h0 : (exprRows (k0 :: k1 :: kr))[0]? = some k0.cells := by rw [hrows]; rfl
  have h1 : (exprRows (k0 :: k1 :: kr))[1]? = some k1.cells := by rw [hrows]; rfl
  have hkl : (k0 :: k1 :: kr).length = kr.length + 2 := by simp
  have hsm : sameU (k0 :: k1 :: kr) = (k0 :: k1 :: kr).all fun x => decide (x.unit = k0.unit) := rfl
  generalize k0 :: k1 :: kr = ks at hrows hlen h0 h1 hkl hsm ⊢
  refine spure_enter Tryz.func84 rfl (by rw [Tryz.ntmps84]; simp) rfl rfl ?_; intro E hH hK
  obtain ⟨o0, n0, u0, d0, p0, q0⟩ := k0
  obtain ⟨o1, n1, u1, d1, p1, q1⟩ := k1
  replace hK : ∀ H', E.K (sB (sameU ks && (!decide (u0 = tT) && decide (u = u0)))) H' := hK
  (refine sgo_sound [] 1000 ?_; conv => whnf)
  refine swr_index rfl rfl rfl rfl rfl rfl rfl rfl  (row := (Ex.mk o0 n0 u0 d0 p0 q0).cells) h0 ?_
  (refine sgor_sound [] 1000 ?_; conv => whnf)
  refine swr_index rfl rfl rfl rfl rfl rfl rfl rfl  (row := (Ex.mk o1 n1 u1 d1 p1 q1).cells) h1 ?_
  (refine sgor_sound [] 1000 ?_; conv => whnf)
  refine sw_keep [1, 3, 4, 5] ?_
  refine sw_each ks (fun i (_ : Unit) => [(1, .ptr 0 0), (3, sS u0), (4, sS u1), (5, sI i)]) (fun _ _ => [.cells [sI op, sI n, sS u, sI den, .imm (.isl 3 (ps.map Piece.cells)), .imm (.isl 6 (exprRows ks))]])
    (fun done rest _ => sameU ks = rest.all fun x => decide (x.unit = u0)) () hsm ?_ ?_
  · as_aux_lemma =>
      rintro _ hs
      have hs' : sameU ks = true := by rw [hs]; rfl
      rw [hs', Bool.true_and] at hK
      (refine sgo_sound [] 1000 ?_; conv => whnf)
      repeat' ((first | with_reducible refine bdec (fun h => ?_) (fun h => ?_) | with_reducible refine bndec (fun h => ?_) (fun h => ?_) | with_reducible refine bwtd (fun h => ?_) (fun h => ?_) | with_reducible refine bwfd (fun h => ?_) (fun h => ?_) | with_reducible refine bwtn (fun h => ?_) (fun h => ?_) | with_reducible refine bwfn (fun h => ?_) (fun h => ?_) | with_reducible refine bwtb (fun h => ?_) (fun h => ?_) | with_reducible refine bwfb (fun h => ?_) (fun h => ?_) | with_reducible refine bwt (fun h => ?_) (fun h => ?_) | with_reducible refine bwf (fun h => ?_) (fun h => ?_) | with_reducible refine bnt (fun h => ?_) (fun h => ?_) | with_reducible refine bcase (fun h => ?_) (fun h => ?_)) <;> (conv => whnf))
      all_goals try (exfalso; omega)
      all_goals exact kB hK (by simp [tT, *])
  · as_aux_lemma =>
      rintro done k rest _ ha hl hs ih
      have hw := wrap_succ (n := done.length) (by omega)
      have hrow : (exprRows ks)[((done.length : Nat) : Int).toNat]? = some k.cells := by rw [hrows]; simp [ha]
      obtain ⟨o2, n2, u2, d2, p2, q2⟩ := k
      have hs' : sameU ks = (decide (u2 = u0) && rest.all fun x => decide (x.unit = u0)) := hs
      have hbad : ¬ u2 = u0 → (sameU ks && (!decide (u0 = tT) && decide (u = u0))) = false := fun h => by rw [hs', decide_eq_false h]; rfl
      (refine sgo_sound [] 1000 ?_; conv => whnf)
      repeat' ((first | with_reducible refine bdec (fun h => ?_) (fun h => ?_) | with_reducible refine bndec (fun h => ?_) (fun h => ?_) | with_reducible refine bwtd (fun h => ?_) (fun h => ?_) | with_reducible refine bwfd (fun h => ?_) (fun h => ?_) | with_reducible refine bwtn (fun h => ?_) (fun h => ?_) | with_reducible refine bwfn (fun h => ?_) (fun h => ?_) | with_reducible refine bwtb (fun h => ?_) (fun h => ?_) | with_reducible refine bwfb (fun h => ?_) (fun h => ?_) | with_reducible refine bwt (fun h => ?_) (fun h => ?_) | with_reducible refine bwf (fun h => ?_) (fun h => ?_) | with_reducible refine bnt (fun h => ?_) (fun h => ?_) | with_reducible refine bcase (fun h => ?_) (fun h => ?_)) <;> (conv => whnf))
      all_goals try (exfalso; omega)
      all_goals refine swr_index rfl rfl rfl rfl rfl rfl rfl rfl  (row := (Ex.mk o2 n2 u2 d2 p2 q2).cells) hrow ?_
      all_goals (refine sgor_sound [] 1000 ?_; conv => whnf)
      all_goals repeat' ((first | with_reducible refine bdec (fun h => ?_) (fun h => ?_) | with_reducible refine bndec (fun h => ?_) (fun h => ?_) | with_reducible refine bwtd (fun h => ?_) (fun h => ?_) | with_reducible refine bwfd (fun h => ?_) (fun h => ?_) | with_reducible refine bwtn (fun h => ?_) (fun h => ?_) | with_reducible refine bwfn (fun h => ?_) (fun h => ?_) | with_reducible refine bwtb (fun h => ?_) (fun h => ?_) | with_reducible refine bwfb (fun h => ?_) (fun h => ?_) | with_reducible refine bwt (fun h => ?_) (fun h => ?_) | with_reducible refine bwf (fun h => ?_) (fun h => ?_) | with_reducible refine bnt (fun h => ?_) (fun h => ?_) | with_reducible refine bcase (fun h => ?_) (fun h => ?_)) <;> (conv => whnf))
      all_goals first
        | exact kB hK (hbad (by assumption))
        | (rw [hw]; exact sw_kc [1, 3, 4, 5] 1 (by simp [hH]) (by simp) rfl rfl (ih () (by rw [hs', decide_eq_true (by assumption)]; rfl)))

theorem many_spec (op n : Int) (u : ByteArray) (den : Int) (ps : List Piece) (k0 k1 : Ex) (kr : List Ex) (hsz : kr.length ≤ 100000) :
    SPure Tryz.prog G 84 [(Ex.mk op n u den ps (k0 :: k1 :: kr)).sv] (sB (opOK op u k0 (((k0 :: k1 :: kr).getLast?).getD k0) (k0 :: k1 :: kr).length (sameU (k0 :: k1 :: kr)))) := by
  by_cases hop : op = 16 ∨ op = 17
  · have := many1617_spec G op n u den ps k0 k1 kr hsz hop
    cases hs : sameU (k0 :: k1 :: kr) with
    | true =>
      rw [hs, Bool.true_and] at this
      have h2 : (2 : Int) ≤ ((k0 :: k1 :: kr).length : Nat) := by simp; omega
      rcases hop with rfl | rfl
      · rw [opOK16 _ _ _ _ h2]; exact this
      · rw [opOK17 _ _ _ _ h2]; exact this
    | false =>
      rw [hs, Bool.false_and] at this
      have e : opOK op u k0 (((k0 :: k1 :: kr).getLast?).getD k0) (k0 :: k1 :: kr).length false = false := by
        rcases hop with rfl | rfl <;> simp [opOK]
      rw [e]; exact this
  · cases kr with
    | cons k2 kr =>
      have e : opOK op u k0 (((k0 :: k1 :: k2 :: kr).getLast?).getD k0) (k0 :: k1 :: k2 :: kr).length (sameU (k0 :: k1 :: k2 :: kr)) = false := by
        simp only [opOK, if_neg hop]
        rw [decide_eq_false (p := (((k0 :: k1 :: k2 :: kr).length : Nat) : Int) = 2) (by simp; omega), decide_eq_false (p := (((k0 :: k1 :: k2 :: kr).length : Nat) : Int) = 1) (by simp; omega)]
        simp
      rw [e]
      exact manyLong_spec G op n u den ps k0 k1 k2 kr (by simp at hsz; omega) hop
    | nil =>
      have e1 : ([k0, k1].getLast?).getD k0 = k1 := rfl
      have e2 : (([k0, k1].length : Nat) : Int) = 2 := rfl
      have e3 : sameU [k0, k1] = decide (k1.unit = k0.unit) := by simp [sameU]
      rw [e1, e2, e3]
      have hc : op = 6 ∨ op = 7 ∨ op = 8 ∨ op = 9 ∨ op = 10 ∨ op = 11 ∨ op = 12 ∨ op = 13 ∨ op = 14 ∨ op = 15 ∨ (op < 6 ∨ 17 < op) := by omega
      rcases hc with rfl | rfl | rfl | rfl | rfl | rfl | rfl | rfl | rfl | rfl | hc
      · exact many6_spec G n u den ps k0 k1
      · exact many7_spec G n u den ps k0 k1
      · exact many8_spec G n u den ps k0 k1
      · exact many9_spec G n u den ps k0 k1
      · exact many10_spec G n u den ps k0 k1
      · exact many11_spec G n u den ps k0 k1
      · exact many12_spec G n u den ps k0 k1
      · exact many13_spec G n u den ps k0 k1
      · exact many14_spec G n u den ps k0 k1
      · exact many15_spec G n u den ps k0 k1
      · exact manyElse_spec G op n u den ps k0 k1 hc
end Go.Proofs.YthmkdghoaifkbaaGreatDoor

/- Contracts, part He: expressions and codices that are valid (reference). -/
namespace Go.Proofs.YthmkdghoaifkbaaGreatDoor
open Go Go.Sh
set_option maxRecDepth 10000
set_option maxHeartbeats 4000000
variable (G : List (Nat × D))

/-- what a node says apart from its kids -/
def nodeR (c : Codex) (op n : Int) (u : ByteArray) (den : Int) (ps : List Piece) (ks : List Ex) : Bool :=
  if op = 18 then decide (n = 0) && decide (ks.length = 1) && curOK u && (match ks with | k :: _ => decide (u = k.unit) | [] => false) && tableOK den ps
  else if ¬ den = 0 ∨ 0 < ps.length then false
  else if 1 ≤ op ∧ op ≤ 4 then decide (ks.length = 0) && refLeaf c op n u
  else decide (n = 0) && (match ks.head?, ks.getLast? with | some f, some l => opOK op u f l ks.length (sameU ks) | _, _ => false)
mutual
def refFit (c : Codex) : Ex → Bool
  | .mk op n u den ps ks => refFits c ks && nodeR c op n u den ps ks
def refFits (c : Codex) : List Ex → Bool
  | [] => true
  | k :: r => refFit c k && refFits c r
end
theorem refFits_eq (c : Codex) (ks : List Ex) : refFits c ks = ks.all (refFit c) := by
  induction ks with
  | nil => rfl
  | cons k r ih => simp [refFits, ih]

theorem refLeaf_else (c : Codex) (op n : Int) (u : ByteArray) (h : ¬ (1 ≤ op ∧ op ≤ 4)) : refLeaf c op n u = false := by
  simp only [refLeaf]
  rw [if_neg (by omega), if_neg (by omega), if_neg (by omega), if_neg (by omega)]

/-- the end of a node without kids -/
theorem nodeR_nil (c : Codex) (op n : Int) (u : ByteArray) (den : Int) (ps : List Piece) :
    nodeR c op n u den ps [] = if (¬ (1 ≤ op ∧ op ≤ 4) ∧ ¬ n = 0) ∨ (¬ op = 18 ∧ (¬ den = 0 ∨ 0 < ps.length)) then false else refLeaf c op n u := by
  simp only [nodeR]
  by_cases h18 : op = 18
  · subst h18
    rw [if_pos rfl, refLeaf_else c 18 n u (by omega)]
    simp
  · rw [if_neg h18]
    by_cases hd : ¬ den = 0 ∨ 0 < ps.length
    · rw [if_pos hd, if_pos (.inr ⟨h18, hd⟩)]
    · rw [if_neg hd]
      by_cases h4 : 1 ≤ op ∧ op ≤ 4
      · rw [if_pos h4, if_neg (by simp [h4, hd])]
        simp
      · rw [if_neg h4, refLeaf_else c op n u h4]
        simp
/-- the end of a node with one kid -/
theorem nodeR_one (c : Codex) (op n : Int) (u : ByteArray) (den : Int) (ps : List Piece) (k : Ex) :
    nodeR c op n u den ps [k] = if (¬ (1 ≤ op ∧ op ≤ 4) ∧ ¬ n = 0) ∨ (¬ op = 18 ∧ (¬ den = 0 ∨ 0 < ps.length)) then false
      else (decide (op = 5) && decide (u = tT) && decide (k.unit = tT)) || (decide (op = 18) && decide (u = k.unit) && curOK u && tableOK den ps) := by
  simp only [nodeR]
  by_cases h18 : op = 18
  · subst h18
    rw [if_pos rfl]
    by_cases hn : n = 0
    · rw [if_neg (by simp [hn])]
      simp [hn]
      cases curOK u <;> simp
    · rw [if_pos (by left; exact ⟨by omega, hn⟩)]
      simp [hn]
  · rw [if_neg h18]
    by_cases hd : ¬ den = 0 ∨ 0 < ps.length
    · rw [if_pos hd, if_pos (.inr ⟨h18, hd⟩)]
    · rw [if_neg hd]
      by_cases h4 : 1 ≤ op ∧ op ≤ 4
      · rw [if_pos h4, if_neg (by simp [h4, hd])]
        have h5 : ¬ op = 5 := by omega
        simp [h18, h5]
      · rw [if_neg h4]
        by_cases hn : n = 0
        · rw [if_neg (by simp [hn, hd])]
          by_cases h5 : op = 5
          · subst h5; simp [opOK, hn]
          · simp [opOK, hn, h5, h18]
        · rw [if_pos (.inl ⟨h4, hn⟩)]
          simp [hn]
/-- the end of a node with more -/
theorem nodeR_many (c : Codex) (op n : Int) (u : ByteArray) (den : Int) (ps : List Piece) (k0 k1 : Ex) (kr : List Ex) :
    nodeR c op n u den ps (k0 :: k1 :: kr) = if (¬ (1 ≤ op ∧ op ≤ 4) ∧ ¬ n = 0) ∨ (¬ op = 18 ∧ (¬ den = 0 ∨ 0 < ps.length)) then false
      else opOK op u k0 (((k0 :: k1 :: kr).getLast?).getD k0) (k0 :: k1 :: kr).length (sameU (k0 :: k1 :: kr)) := by
  have hno : op = 18 ∨ (1 ≤ op ∧ op ≤ 4) → opOK op u k0 (((k0 :: k1 :: kr).getLast?).getD k0) (k0 :: k1 :: kr).length (sameU (k0 :: k1 :: kr)) = false := fun h => by
    simp only [opOK]
    rw [if_neg (by omega), if_neg (by omega), if_neg (by omega), if_neg (by omega), if_neg (by omega), if_neg (by omega), if_neg (by omega), if_neg (by omega), if_neg (by omega)]
  have hlast : ∃ l, (k0 :: k1 :: kr).getLast? = some l := ⟨_, List.getLast?_eq_some_getLast (by simp)⟩
  obtain ⟨l, hl⟩ := hlast
  simp only [nodeR]
  by_cases h18 : op = 18
  · rw [if_pos h18, hno (.inl h18)]
    simp
  · rw [if_neg h18]
    by_cases hd : ¬ den = 0 ∨ 0 < ps.length
    · rw [if_pos hd, if_pos (.inr ⟨h18, hd⟩)]
    · rw [if_neg hd]
      by_cases h4 : 1 ≤ op ∧ op ≤ 4
      · rw [if_pos h4, if_neg (by simp [h4, hd]), hno (.inr h4)]
        simp
      · rw [if_neg h4]
        by_cases hn : n = 0
        · rw [if_neg (by simp [hn, hd]), hl]
          simp [hn]
        · rw [if_pos (.inl ⟨h4, hn⟩)]
          simp [hn]

theorem refFits_spec (c : Codex) (hsz : c.arts.length ≤ 9223372036854775807) (N : Nat) : ∀ (e : Ex), SizeOf.sizeOf e < N → exSize e ≤ 1000 → SPure Tryz.prog G 65 [c.sv, e.sv] (sB (refFit c e)) := by
  induction N with
  | zero => intro e h; omega
  | succ N IH =>
  intro e he hs
  obtain ⟨op, n, u, den, ps, ks⟩ := e
  simp only [Ex.mk.sizeOf_spec] at he
  simp only [exSize] at hs
  have hrows := exprRows_eq ks
  have hlen : (exprRows ks).length = ks.length := by rw [hrows]; simp
  have hkl := exsSize_len ks
  have hpl : (ps.map Piece.cells).length = ps.length := by simp
  have hfit : refFit c (.mk op n u den ps ks) = (ks.all (refFit c) && nodeR c op n u den ps ks) := by simp only [refFit, refFits_eq]
  rw [hfit]
  refine spure_enter Tryz.func65 rfl (by rw [Tryz.ntmps65]; simp) rfl rfl ?_; intro E hH hK
  (refine sgo_sound [] 1000 ?_; conv => whnf)
  refine sw_keep [2, 3, 5] ?_
  refine sw_each ks (fun i (_ : Unit) => [(2, .ptr 0 0), (3, .ptr 1 0), (5, sI i)])
    (fun _ _ => [.cells [.imm (dDecls c.facts), .imm (dDecls c.lines), .imm (dArts c.arts)], .cells [sI op, sI n, sS u, sI den, .imm (.isl 3 (ps.map Piece.cells)), .imm (.isl 6 (exprRows ks))]])
    (fun done rest _ => ks.all (refFit c) = rest.all (refFit c)) () rfl ?_ ?_
  · as_aux_lemma =>
      rintro _ h1
      have hall : ks.all (refFit c) = true := by rw [h1]; rfl
      rw [hall, Bool.true_and] at hK
      clear IH h1 hfit
      by_cases hbad : (¬ (1 ≤ op ∧ op ≤ 4) ∧ ¬ n = 0) ∨ (¬ op = 18 ∧ (¬ den = 0 ∨ 0 < ps.length))
      · have hr : nodeR c op n u den ps ks = false := by
          match ks with
          | [] => rw [nodeR_nil, if_pos hbad]
          | [k] => rw [nodeR_one, if_pos hbad]
          | k0 :: k1 :: kr => rw [nodeR_many, if_pos hbad]
        rw [hr] at hK
        as_aux_lemma =>
          (refine sgo_sound [] 1000 ?_; conv => whnf)
          repeat' ((first | with_reducible refine bdec (fun h => ?_) (fun h => ?_) | with_reducible refine bndec (fun h => ?_) (fun h => ?_) | with_reducible refine bwtd (fun h => ?_) (fun h => ?_) | with_reducible refine bwfd (fun h => ?_) (fun h => ?_) | with_reducible refine bwtn (fun h => ?_) (fun h => ?_) | with_reducible refine bwfn (fun h => ?_) (fun h => ?_) | with_reducible refine bwtb (fun h => ?_) (fun h => ?_) | with_reducible refine bwfb (fun h => ?_) (fun h => ?_) | with_reducible refine bwt (fun h => ?_) (fun h => ?_) | with_reducible refine bwf (fun h => ?_) (fun h => ?_) | with_reducible refine bnt (fun h => ?_) (fun h => ?_) | with_reducible refine bcase (fun h => ?_) (fun h => ?_)) <;> (first | (exfalso; omega) | (conv => whnf)))
          all_goals try (exfalso; omega)
          all_goals exact hK _
      · match ks with
        | [] =>
          rw [nodeR_nil, if_neg hbad] at hK
          as_aux_lemma =>
            (refine sgo_sound [] 1000 ?_; conv => whnf)
            repeat' ((first | with_reducible refine bdec (fun h => ?_) (fun h => ?_) | with_reducible refine bndec (fun h => ?_) (fun h => ?_) | with_reducible refine bwtd (fun h => ?_) (fun h => ?_) | with_reducible refine bwfd (fun h => ?_) (fun h => ?_) | with_reducible refine bwtn (fun h => ?_) (fun h => ?_) | with_reducible refine bwfn (fun h => ?_) (fun h => ?_) | with_reducible refine bwtb (fun h => ?_) (fun h => ?_) | with_reducible refine bwfb (fun h => ?_) (fun h => ?_) | with_reducible refine bwt (fun h => ?_) (fun h => ?_) | with_reducible refine bwf (fun h => ?_) (fun h => ?_) | with_reducible refine bnt (fun h => ?_) (fun h => ?_) | with_reducible refine bcase (fun h => ?_) (fun h => ?_)) <;> (first | (exfalso; omega) | (conv => whnf)))
            all_goals try (exfalso; omega)
            all_goals refine swr_pure rfl rfl rfl rfl rfl rfl  (refLeaf_spec G c op n u den ps [] hsz) ?_
            all_goals (refine sgor_sound [] 1000 ?_; conv => whnf)
            all_goals exact hK _
        | [k] =>
          rw [nodeR_one, if_neg hbad] at hK
          obtain ⟨o0, n0, u0, d0, p0, q0⟩ := k
          replace hK : ∀ H', E.K (sB ((decide (op = 5) && decide (u = tT) && decide (u0 = tT)) || (decide (op = 18) && decide (u = u0) && curOK u && tableOK den ps))) H' := hK
          have h0 : (exprRows [Ex.mk o0 n0 u0 d0 p0 q0])[0]? = some (Ex.mk o0 n0 u0 d0 p0 q0).cells := by rw [exprRows_eq]; rfl
          have hlen1 : (exprRows [Ex.mk o0 n0 u0 d0 p0 q0]).length = 1 := by rw [exprRows_eq]; rfl
          generalize exprRows [Ex.mk o0 n0 u0 d0 p0 q0] = rows at h0 hlen hlen1 ⊢
          by_cases h5 : op = 5
          · subst h5
            replace hK : ∀ H', E.K (sB (decide (u = tT) && decide (u0 = tT))) H' := by simpa using hK
            as_aux_lemma =>
              (refine sgo_sound [] 1000 ?_; conv => whnf)
              repeat' ((first | with_reducible refine bdec (fun h => ?_) (fun h => ?_) | with_reducible refine bndec (fun h => ?_) (fun h => ?_) | with_reducible refine bwtd (fun h => ?_) (fun h => ?_) | with_reducible refine bwfd (fun h => ?_) (fun h => ?_) | with_reducible refine bwtn (fun h => ?_) (fun h => ?_) | with_reducible refine bwfn (fun h => ?_) (fun h => ?_) | with_reducible refine bwtb (fun h => ?_) (fun h => ?_) | with_reducible refine bwfb (fun h => ?_) (fun h => ?_) | with_reducible refine bwt (fun h => ?_) (fun h => ?_) | with_reducible refine bwf (fun h => ?_) (fun h => ?_) | with_reducible refine bnt (fun h => ?_) (fun h => ?_) | with_reducible refine bcase (fun h => ?_) (fun h => ?_)) <;> (first | (exfalso; omega) | (conv => whnf)))
              all_goals try (exfalso; omega)
              all_goals (refine swd_start mixed rfl ?_; refine sgod_sound [] ?_; conv => whnf)
              all_goals repeat' ((first | with_reducible refine bdec (fun h => ?_) (fun h => ?_) | with_reducible refine bndec (fun h => ?_) (fun h => ?_) | with_reducible refine bwtd (fun h => ?_) (fun h => ?_) | with_reducible refine bwfd (fun h => ?_) (fun h => ?_) | with_reducible refine bwtn (fun h => ?_) (fun h => ?_) | with_reducible refine bwfn (fun h => ?_) (fun h => ?_) | with_reducible refine bwtb (fun h => ?_) (fun h => ?_) | with_reducible refine bwfb (fun h => ?_) (fun h => ?_) | with_reducible refine bwt (fun h => ?_) (fun h => ?_) | with_reducible refine bwf (fun h => ?_) (fun h => ?_) | with_reducible refine bnt (fun h => ?_) (fun h => ?_) | with_reducible refine bcase (fun h => ?_) (fun h => ?_)) <;> (first | (exfalso; omega) | (conv => whnf)))
              all_goals try refine swd_index rfl rfl rfl rfl rfl rfl rfl rfl  (row := (Ex.mk o0 n0 u0 d0 p0 q0).cells) h0 ?_
              all_goals try (refine sgod_sound [] ?_; conv => whnf)
              all_goals try repeat' ((first | with_reducible refine bdec (fun h => ?_) (fun h => ?_) | with_reducible refine bndec (fun h => ?_) (fun h => ?_) | with_reducible refine bwtd (fun h => ?_) (fun h => ?_) | with_reducible refine bwfd (fun h => ?_) (fun h => ?_) | with_reducible refine bwtn (fun h => ?_) (fun h => ?_) | with_reducible refine bwfn (fun h => ?_) (fun h => ?_) | with_reducible refine bwtb (fun h => ?_) (fun h => ?_) | with_reducible refine bwfb (fun h => ?_) (fun h => ?_) | with_reducible refine bwt (fun h => ?_) (fun h => ?_) | with_reducible refine bwf (fun h => ?_) (fun h => ?_) | with_reducible refine bnt (fun h => ?_) (fun h => ?_) | with_reducible refine bcase (fun h => ?_) (fun h => ?_)) <;> (first | (exfalso; omega) | (conv => whnf)))
              all_goals try (refine sgo_sound [] 1000 ?_; conv => whnf)
              all_goals exact kB hK (by simp [tT, *])
          by_cases h18 : op = 18
          · subst h18
            replace hK : ∀ H', E.K (sB (decide (u = u0) && curOK u && tableOK den ps)) H' := by simpa using hK
            as_aux_lemma =>
              (refine sgo_sound [] 1000 ?_; conv => whnf)
              repeat' ((first | with_reducible refine bdec (fun h => ?_) (fun h => ?_) | with_reducible refine bndec (fun h => ?_) (fun h => ?_) | with_reducible refine bwtd (fun h => ?_) (fun h => ?_) | with_reducible refine bwfd (fun h => ?_) (fun h => ?_) | with_reducible refine bwtn (fun h => ?_) (fun h => ?_) | with_reducible refine bwfn (fun h => ?_) (fun h => ?_) | with_reducible refine bwtb (fun h => ?_) (fun h => ?_) | with_reducible refine bwfb (fun h => ?_) (fun h => ?_) | with_reducible refine bwt (fun h => ?_) (fun h => ?_) | with_reducible refine bwf (fun h => ?_) (fun h => ?_) | with_reducible refine bnt (fun h => ?_) (fun h => ?_) | with_reducible refine bcase (fun h => ?_) (fun h => ?_)) <;> (first | (exfalso; omega) | (conv => whnf)))
              all_goals try (exfalso; omega)
              (refine swd_start mixed rfl ?_; refine sgod_sound [] ?_; conv => whnf)
              refine swd_index rfl rfl rfl rfl rfl rfl rfl rfl  (row := (Ex.mk o0 n0 u0 d0 p0 q0).cells) h0 ?_
              (refine sgod_sound [] ?_; conv => whnf)
              repeat' ((first | with_reducible refine bdec (fun h => ?_) (fun h => ?_) | with_reducible refine bndec (fun h => ?_) (fun h => ?_) | with_reducible refine bwtd (fun h => ?_) (fun h => ?_) | with_reducible refine bwfd (fun h => ?_) (fun h => ?_) | with_reducible refine bwtn (fun h => ?_) (fun h => ?_) | with_reducible refine bwfn (fun h => ?_) (fun h => ?_) | with_reducible refine bwtb (fun h => ?_) (fun h => ?_) | with_reducible refine bwfb (fun h => ?_) (fun h => ?_) | with_reducible refine bwt (fun h => ?_) (fun h => ?_) | with_reducible refine bwf (fun h => ?_) (fun h => ?_) | with_reducible refine bnt (fun h => ?_) (fun h => ?_) | with_reducible refine bcase (fun h => ?_) (fun h => ?_)) <;> (first | (exfalso; omega) | (conv => whnf)))
              · refine swd_pure rfl rfl rfl rfl rfl rfl  (cur_spec G u) ?_
                cases hc : curOK u with
                | false =>
                  (refine sgod_sound [] ?_; conv => whnf)
                  (refine sgo_sound [] 1000 ?_; conv => whnf)
                  exact kB hK (by simp [hc])
                | true =>
                  (refine sgod_sound [] ?_; conv => whnf)
                  refine swd_pure rfl rfl rfl rfl rfl rfl  (refTable_spec G den ps) ?_
                  (refine sgod_sound [] ?_; conv => whnf)
                  (refine sgo_sound [] 1000 ?_; conv => whnf)
                  exact kB hK (by rw [hc, decide_eq_true h]; rfl)
              · (refine sgo_sound [] 1000 ?_; conv => whnf)
                exact kB hK (by rw [decide_eq_false h]; rfl)
          · replace hK : ∀ H', E.K (sB false) H' := by simpa [h5, h18] using hK
            as_aux_lemma =>
              (refine sgo_sound [] 1000 ?_; conv => whnf)
              repeat' ((first | with_reducible refine bdec (fun h => ?_) (fun h => ?_) | with_reducible refine bndec (fun h => ?_) (fun h => ?_) | with_reducible refine bwtd (fun h => ?_) (fun h => ?_) | with_reducible refine bwfd (fun h => ?_) (fun h => ?_) | with_reducible refine bwtn (fun h => ?_) (fun h => ?_) | with_reducible refine bwfn (fun h => ?_) (fun h => ?_) | with_reducible refine bwtb (fun h => ?_) (fun h => ?_) | with_reducible refine bwfb (fun h => ?_) (fun h => ?_) | with_reducible refine bwt (fun h => ?_) (fun h => ?_) | with_reducible refine bwf (fun h => ?_) (fun h => ?_) | with_reducible refine bnt (fun h => ?_) (fun h => ?_) | with_reducible refine bcase (fun h => ?_) (fun h => ?_)) <;> (first | (exfalso; omega) | (conv => whnf)))
              all_goals try (exfalso; omega)
              all_goals (refine swd_start mixed rfl ?_; refine sgod_sound [] ?_; conv => whnf)
              all_goals repeat' ((first | with_reducible refine bdec (fun h => ?_) (fun h => ?_) | with_reducible refine bndec (fun h => ?_) (fun h => ?_) | with_reducible refine bwtd (fun h => ?_) (fun h => ?_) | with_reducible refine bwfd (fun h => ?_) (fun h => ?_) | with_reducible refine bwtn (fun h => ?_) (fun h => ?_) | with_reducible refine bwfn (fun h => ?_) (fun h => ?_) | with_reducible refine bwtb (fun h => ?_) (fun h => ?_) | with_reducible refine bwfb (fun h => ?_) (fun h => ?_) | with_reducible refine bwt (fun h => ?_) (fun h => ?_) | with_reducible refine bwf (fun h => ?_) (fun h => ?_) | with_reducible refine bnt (fun h => ?_) (fun h => ?_) | with_reducible refine bcase (fun h => ?_) (fun h => ?_)) <;> (first | (exfalso; omega) | (conv => whnf)))
              all_goals try (exfalso; omega)
              all_goals (refine sgo_sound [] 1000 ?_; conv => whnf)
              all_goals exact hK _
        | k0 :: k1 :: kr =>
          rw [nodeR_many, if_neg hbad] at hK
          as_aux_lemma =>
            (refine sgo_sound [] 1000 ?_; conv => whnf)
            repeat' ((first | with_reducible refine bdec (fun h => ?_) (fun h => ?_) | with_reducible refine bndec (fun h => ?_) (fun h => ?_) | with_reducible refine bwtd (fun h => ?_) (fun h => ?_) | with_reducible refine bwfd (fun h => ?_) (fun h => ?_) | with_reducible refine bwtn (fun h => ?_) (fun h => ?_) | with_reducible refine bwfn (fun h => ?_) (fun h => ?_) | with_reducible refine bwtb (fun h => ?_) (fun h => ?_) | with_reducible refine bwfb (fun h => ?_) (fun h => ?_) | with_reducible refine bwt (fun h => ?_) (fun h => ?_) | with_reducible refine bwf (fun h => ?_) (fun h => ?_) | with_reducible refine bnt (fun h => ?_) (fun h => ?_) | with_reducible refine bcase (fun h => ?_) (fun h => ?_)) <;> (first | (exfalso; omega) | (conv => whnf)))
            all_goals try (exfalso; omega)
            all_goals refine swr_pure rfl rfl rfl rfl rfl rfl  (many_spec G op n u den ps k0 k1 kr (by simp at hkl; omega)) ?_
            all_goals (refine sgor_sound [] 1000 ?_; conv => whnf)
            all_goals exact hK _
  · as_aux_lemma =>
      rintro done k rest _ ha hl h1 ih
      have hkm : SizeOf.sizeOf k < SizeOf.sizeOf ks := List.sizeOf_lt_of_mem (by rw [ha]; simp)
      have hks : exSize k ≤ exsSize ks := exsSize_mem (by rw [ha]; simp)
      have hw := wrap_succ (n := done.length) (by omega)
      have hrow : (exprRows ks)[((done.length : Nat) : Int).toNat]? = some k.cells := by rw [hrows]; simp [ha]
      have hcall := IH k (by omega) (by omega)
      simp only [List.all_cons] at h1
      obtain ⟨o1, n1, u1, d1, p1, q1⟩ := k
      (refine sgo_sound [] 1000 ?_; conv => whnf)
      repeat' ((first | with_reducible refine bdec (fun h => ?_) (fun h => ?_) | with_reducible refine bndec (fun h => ?_) (fun h => ?_) | with_reducible refine bwtd (fun h => ?_) (fun h => ?_) | with_reducible refine bwfd (fun h => ?_) (fun h => ?_) | with_reducible refine bwtn (fun h => ?_) (fun h => ?_) | with_reducible refine bwfn (fun h => ?_) (fun h => ?_) | with_reducible refine bwtb (fun h => ?_) (fun h => ?_) | with_reducible refine bwfb (fun h => ?_) (fun h => ?_) | with_reducible refine bwt (fun h => ?_) (fun h => ?_) | with_reducible refine bwf (fun h => ?_) (fun h => ?_) | with_reducible refine bnt (fun h => ?_) (fun h => ?_) | with_reducible refine bcase (fun h => ?_) (fun h => ?_)) <;> (first | (exfalso; omega) | (conv => whnf)))
      all_goals try (exfalso; omega)
      (refine swd_start mixed rfl ?_; refine sgod_sound [] ?_; conv => whnf)
      refine swd_index rfl rfl rfl rfl rfl rfl rfl rfl  (row := (Ex.mk o1 n1 u1 d1 p1 q1).cells) hrow ?_
      (refine sgod_sound [] ?_; conv => whnf)
      refine swd_pure rfl rfl rfl rfl rfl rfl  hcall ?_
      cases hb : refFit c (.mk o1 n1 u1 d1 p1 q1) with
      | false =>
        (refine sgod_sound [] ?_; conv => whnf)
        (refine sgo_sound [] 1000 ?_; conv => whnf)
        exact kB hK (by rw [h1, hb]; rfl)
      | true =>
        (refine sgod_sound [] ?_; conv => whnf)
        (refine sgo_sound [] 1000 ?_; conv => whnf)
        rw [hw]
        exact sw_kc [2, 3, 5] 2 (by simp [hH]) (by simp) rfl rfl (ih () (by rw [h1, hb]; rfl))
end Go.Proofs.YthmkdghoaifkbaaGreatDoor

/- Contracts, part Hf: valid codices (reference); the law's own validity. -/
namespace Go.Proofs.YthmkdghoaifkbaaGreatDoor
open Go Go.Sh
set_option maxRecDepth 10000
set_option maxHeartbeats 4000000
variable (G : List (Nat × D))

def refFitsOK (c : Codex) (e : Ex) : Bool := withinOK e && refFit c e
theorem refFits10_spec (c : Codex) (hsz : c.arts.length ≤ 9223372036854775807) (e : Ex) : SPure Tryz.prog G 48 [c.sv, e.sv] (sB (refFitsOK c e)) := by
  have hw := within10_spec G e
  have hf := fun h => refFits_spec G c hsz (SizeOf.sizeOf e + 1) e (by omega) h
  have he : refFitsOK c e = (withinOK e && refFit c e) := rfl
  rw [he]
  have hsmall : withinOK e = true → exSize e ≤ 1000 := fun h => by simp [withinOK] at h; omega
  obtain ⟨op, n, u, den, ps, ks⟩ := e
  refine spure_enter Tryz.func48 rfl (by rw [Tryz.ntmps48]; simp) rfl rfl ?_; intro E hH hK
  (refine sgo_sound [] 1000 ?_; conv => whnf)
  refine swr_pure rfl rfl rfl rfl rfl rfl  hw ?_
  cases hwi : withinOK (.mk op n u den ps ks) with
  | false =>
    (refine sgor_sound [] 1000 ?_; conv => whnf)
    exact kB hK (by rw [hwi]; rfl)
  | true =>
    (refine sgor_sound [] 1000 ?_; conv => whnf)
    refine swr_pure rfl rfl rfl rfl rfl rfl  (hf (hsmall hwi)) ?_
    (refine sgor_sound [] 1000 ?_; conv => whnf)
    exact kB hK (by rw [hwi]; rfl)

def firstLine (c : Codex) (n : Int) : Int := match c.arts[(artIx n c.arts 0).toNat]? with | some a => a.line | none => 0
def refArtOK (c : Codex) (a : Article) : Bool :=
  decide (1 ≤ a.number ∧ a.number ≤ 1000000 ∧ 0 ≤ a.line ∧ a.line < c.lines.length ∧ a.line = firstLine c a.number) && artHead a && a.when_.all (fun e => refFitsOK c e && decide (e.unit = tT)) &&
  a.unless_.all (fun n => decide (0 ≤ artIx n c.arts 0)) && (refFitsOK c a.amount && decide (a.amount.unit = lineUnit c a.line))
def refOK (c : Codex) : Bool :=
  (declsOK 0 0 c.facts && decide (c.facts.length ≤ 32)) && (declsOK 1 4 c.lines && decide (c.lines.length ≤ 32)) && decide (c.arts.length ≤ 60) && c.arts.all (refArtOK c)

theorem refValid10_spec (c : Codex) (hfew : fewOK c 420 = true) : SPure Tryz.prog G 30 [c.sv] (sB (refOK c)) := by
  have hfew' : c.facts.length ≤ 40 ∧ c.lines.length ≤ 40 ∧ c.arts.length ≤ 70 ∧ ∀ a ∈ c.arts, a.when_.length ≤ 40 ∧ a.unless_.length ≤ 80 := by
    simp only [fewOK, Bool.and_eq_true, decide_eq_true_eq, List.all_eq_true] at hfew
    obtain ⟨⟨⟨h1, h2⟩, h3⟩, h4⟩ := hfew
    refine ⟨h1, h2, h3, fun a ha => ?_⟩
    have := h4 a ha
    simp only [artFew, Bool.and_eq_true, decide_eq_true_eq] at this
    exact ⟨this.1.1.1, this.1.1.2⟩
  obtain ⟨hsf, hsl, hsa, hart⟩ := hfew'
  refine spure_enter Tryz.func30 rfl (by rw [Tryz.ntmps30]; simp) rfl rfl ?_; intro E hH hK
  have hll : (c.lines.map Decl.cells).length = c.lines.length := by simp
  have hla : (c.arts.map Article.cells).length = c.arts.length := by simp
  (refine sgo_sound [] 1000 ?_; conv => whnf)
  refine swr_pure rfl rfl rfl rfl rfl rfl  (refDecls_spec G c.facts 0 0 (by omega)) ?_
  cases hd1 : (declsOK 0 0 c.facts && decide (c.facts.length ≤ 32)) with
  | false =>
    (refine sgor_sound [] 1000 ?_; conv => whnf)
    exact kB hK (by simp only [refOK, hd1, Bool.false_and])
  | true =>
  (refine sgor_sound [] 1000 ?_; conv => whnf)
  refine swr_pure rfl rfl rfl rfl rfl rfl  (refDecls_spec G c.lines 1 4 (by omega)) ?_
  cases hd2 : (declsOK 1 4 c.lines && decide (c.lines.length ≤ 32)) with
  | false =>
    (refine sgor_sound [] 1000 ?_; conv => whnf)
    exact kB hK (by simp only [refOK, hd1, hd2, Bool.and_false, Bool.false_and])
  | true =>
  (refine sgor_sound [] 1000 ?_; conv => whnf)
  repeat' ((first | with_reducible refine bdec (fun h => ?_) (fun h => ?_) | with_reducible refine bndec (fun h => ?_) (fun h => ?_) | with_reducible refine bwtd (fun h => ?_) (fun h => ?_) | with_reducible refine bwfd (fun h => ?_) (fun h => ?_) | with_reducible refine bwtn (fun h => ?_) (fun h => ?_) | with_reducible refine bwfn (fun h => ?_) (fun h => ?_) | with_reducible refine bwtb (fun h => ?_) (fun h => ?_) | with_reducible refine bwfb (fun h => ?_) (fun h => ?_) | with_reducible refine bwt (fun h => ?_) (fun h => ?_) | with_reducible refine bwf (fun h => ?_) (fun h => ?_) | with_reducible refine bnt (fun h => ?_) (fun h => ?_) | with_reducible refine bcase (fun h => ?_) (fun h => ?_)) <;> (first | (exfalso; omega) | (conv => whnf)))
  · exact kB hK (by simp only [refOK, hd1, hd2]; rw [decide_eq_false (by omega)]; rfl)
  have hok : refOK c = c.arts.all (refArtOK c) := by simp only [refOK, hd1, hd2]; rw [decide_eq_true (by omega)]; rfl
  refine sw_keep [1, 3] ?_
  refine sw_each c.arts (fun i (_ : Unit) => [(1, .ptr 0 0), (3, sI i)]) (fun _ _ => [.cells [.imm (dDecls c.facts), .imm (dDecls c.lines), .imm (dArts c.arts)]])
    (fun done rest _ => c.arts.all (refArtOK c) = rest.all (refArtOK c)) () rfl ?_ ?_
  · as_aux_lemma =>
      rintro _ h1
      (refine sgo_sound [] 1000 ?_; conv => whnf)
      repeat' ((first | with_reducible refine bdec (fun h => ?_) (fun h => ?_) | with_reducible refine bndec (fun h => ?_) (fun h => ?_) | with_reducible refine bwtd (fun h => ?_) (fun h => ?_) | with_reducible refine bwfd (fun h => ?_) (fun h => ?_) | with_reducible refine bwtn (fun h => ?_) (fun h => ?_) | with_reducible refine bwfn (fun h => ?_) (fun h => ?_) | with_reducible refine bwtb (fun h => ?_) (fun h => ?_) | with_reducible refine bwfb (fun h => ?_) (fun h => ?_) | with_reducible refine bwt (fun h => ?_) (fun h => ?_) | with_reducible refine bwf (fun h => ?_) (fun h => ?_) | with_reducible refine bnt (fun h => ?_) (fun h => ?_) | with_reducible refine bcase (fun h => ?_) (fun h => ?_)) <;> (first | (exfalso; omega) | (conv => whnf)))
      all_goals try (exfalso; omega)
      exact kB hK (by rw [hok, h1]; rfl)
  · as_aux_lemma =>
      rintro done a rest _ ha hl hinv ih
      have hw := wrap_succ (n := done.length) (by omega)
      simp only [List.all_cons] at hinv
      obtain ⟨hwn, hun⟩ := hart a (by rw [ha]; simp)
      obtain ⟨op, n, u, den, ps, ks, ham⟩ : ∃ op n u den ps ks, a.amount = .mk op n u den ps ks := by cases h : a.amount; exact ⟨_, _, _, _, _, _, rfl⟩
      have hrow : (c.arts.map Article.cells)[((done.length : Nat) : Int).toNat]? = some [dI a.number, dI a.line, dI a.rank, dI a.lo, dI a.hi, dI a.known, dExprs a.when_, dInts a.unless_, dI op, dI n, dS u, dI den, .isl 3 (ps.map Piece.cells), .isl 6 (exprRows ks)] := by
        simp [ha, Article.cells, ham, exprRows_eq, Ex.op, Ex.n, Ex.unit, Ex.den, Ex.pieces, Ex.kids]
      have hwl : (a.when_.map Ex.cells).length = a.when_.length := by simp
      have hul : (a.unless_.map fun n => [dI n]).length = a.unless_.length := by simp
      have bad : refArtOK c a = false → refOK c = false := fun h => by rw [hok, hinv, h]; rfl
      have bad1 : ¬ (1 ≤ a.number ∧ a.number ≤ 1000000 ∧ 0 ≤ a.line ∧ a.line < c.lines.length ∧ a.line = firstLine c a.number) → refOK c = false := fun h => bad (by simp only [refArtOK]; rw [decide_eq_false h]; rfl)
      have bad2 : artHead a = false → refOK c = false := fun h => bad (by simp only [refArtOK, h, Bool.and_false, Bool.false_and])
      obtain ⟨b, hb1, hb2⟩ : ∃ b, c.arts[(artIx a.number c.arts 0).toNat]? = some b ∧ 0 ≤ artIx a.number c.arts 0 := by
        rcases artIx_range a.number c.arts 0 with h | ⟨g1, g2, x, g3, g4⟩
        · exact absurd rfl ((artIx_some a.number c.arts 0).1 h a (by rw [ha]; simp))
        · exact ⟨x, by simpa using g3, by simpa using g1⟩
      have hfl : firstLine c a.number = b.line := by simp only [firstLine, hb1]
      have hnum := numbered_spec G c a.number (by omega)
      generalize hix : artIx a.number c.arts 0 = ix at hb1 hb2 hnum
      (refine sgo_sound [] 1000 ?_; conv => whnf)
      repeat' ((first | with_reducible refine bdec (fun h => ?_) (fun h => ?_) | with_reducible refine bndec (fun h => ?_) (fun h => ?_) | with_reducible refine bwtd (fun h => ?_) (fun h => ?_) | with_reducible refine bwfd (fun h => ?_) (fun h => ?_) | with_reducible refine bwtn (fun h => ?_) (fun h => ?_) | with_reducible refine bwfn (fun h => ?_) (fun h => ?_) | with_reducible refine bwtb (fun h => ?_) (fun h => ?_) | with_reducible refine bwfb (fun h => ?_) (fun h => ?_) | with_reducible refine bwt (fun h => ?_) (fun h => ?_) | with_reducible refine bwf (fun h => ?_) (fun h => ?_) | with_reducible refine bnt (fun h => ?_) (fun h => ?_) | with_reducible refine bcase (fun h => ?_) (fun h => ?_)) <;> (first | (exfalso; omega) | (conv => whnf)))
      all_goals try (exfalso; omega)
      refine swr_index rfl rfl rfl rfl rfl rfl rfl rfl  (row := [dI a.number, dI a.line, dI a.rank, dI a.lo, dI a.hi, dI a.known, dExprs a.when_, dInts a.unless_, dI op, dI n, dS u, dI den, .isl 3 (ps.map Piece.cells), .isl 6 (exprRows ks)]) hrow ?_
      (refine sgor_sound [] 1000 ?_; conv => whnf)
      by_cases hg1 : 1 ≤ a.number ∧ a.number ≤ 1000000 ∧ 0 ≤ a.line ∧ a.line < c.lines.length
      · (refine swd_start mixed rfl ?_; refine sgod_sound [] ?_; conv => whnf)
        repeat' ((first | with_reducible refine bdec (fun h => ?_) (fun h => ?_) | with_reducible refine bndec (fun h => ?_) (fun h => ?_) | with_reducible refine bwtd (fun h => ?_) (fun h => ?_) | with_reducible refine bwfd (fun h => ?_) (fun h => ?_) | with_reducible refine bwtn (fun h => ?_) (fun h => ?_) | with_reducible refine bwfn (fun h => ?_) (fun h => ?_) | with_reducible refine bwtb (fun h => ?_) (fun h => ?_) | with_reducible refine bwfb (fun h => ?_) (fun h => ?_) | with_reducible refine bwt (fun h => ?_) (fun h => ?_) | with_reducible refine bwf (fun h => ?_) (fun h => ?_) | with_reducible refine bnt (fun h => ?_) (fun h => ?_) | with_reducible refine bcase (fun h => ?_) (fun h => ?_)) <;> (first | (exfalso; omega) | (conv => whnf)))
        all_goals try (exfalso; omega)
        refine swd_pure rfl rfl rfl rfl rfl rfl  hnum ?_
        (refine sgod_sound [] ?_; conv => whnf)
        refine swd_index rfl rfl rfl rfl rfl rfl rfl (i := ix.toNat) (by omega) (row := b.cells) (by simp [hb1]) ?_
        by_cases hline : a.line = b.line
        rotate_left
        · (refine sgod_sound [] ?_; conv => whnf)
          repeat' ((first | with_reducible refine bdec (fun h => ?_) (fun h => ?_) | with_reducible refine bndec (fun h => ?_) (fun h => ?_) | with_reducible refine bwtd (fun h => ?_) (fun h => ?_) | with_reducible refine bwfd (fun h => ?_) (fun h => ?_) | with_reducible refine bwtn (fun h => ?_) (fun h => ?_) | with_reducible refine bwfn (fun h => ?_) (fun h => ?_) | with_reducible refine bwtb (fun h => ?_) (fun h => ?_) | with_reducible refine bwfb (fun h => ?_) (fun h => ?_) | with_reducible refine bwt (fun h => ?_) (fun h => ?_) | with_reducible refine bwf (fun h => ?_) (fun h => ?_) | with_reducible refine bnt (fun h => ?_) (fun h => ?_) | with_reducible refine bcase (fun h => ?_) (fun h => ?_)) <;> (first | (exfalso; omega) | (conv => whnf)))
          all_goals (refine sgo_sound [] 1000 ?_; conv => whnf)
          all_goals exact kB hK (bad1 (fun hc => hline (by rw [← hfl]; exact hc.2.2.2.2)))
        (refine sgod_sound [] ?_; conv => whnf)
        repeat' ((first | with_reducible refine bdec (fun h => ?_) (fun h => ?_) | with_reducible refine bndec (fun h => ?_) (fun h => ?_) | with_reducible refine bwtd (fun h => ?_) (fun h => ?_) | with_reducible refine bwfd (fun h => ?_) (fun h => ?_) | with_reducible refine bwtn (fun h => ?_) (fun h => ?_) | with_reducible refine bwfn (fun h => ?_) (fun h => ?_) | with_reducible refine bwtb (fun h => ?_) (fun h => ?_) | with_reducible refine bwfb (fun h => ?_) (fun h => ?_) | with_reducible refine bwt (fun h => ?_) (fun h => ?_) | with_reducible refine bwf (fun h => ?_) (fun h => ?_) | with_reducible refine bnt (fun h => ?_) (fun h => ?_) | with_reducible refine bcase (fun h => ?_) (fun h => ?_)) <;> (first | (exfalso; omega) | (conv => whnf)))
        all_goals (refine sgo_sound [] 1000 ?_; conv => whnf)
        all_goals repeat' ((first | with_reducible refine bdec (fun h => ?_) (fun h => ?_) | with_reducible refine bndec (fun h => ?_) (fun h => ?_) | with_reducible refine bwtd (fun h => ?_) (fun h => ?_) | with_reducible refine bwfd (fun h => ?_) (fun h => ?_) | with_reducible refine bwtn (fun h => ?_) (fun h => ?_) | with_reducible refine bwfn (fun h => ?_) (fun h => ?_) | with_reducible refine bwtb (fun h => ?_) (fun h => ?_) | with_reducible refine bwfb (fun h => ?_) (fun h => ?_) | with_reducible refine bwt (fun h => ?_) (fun h => ?_) | with_reducible refine bwf (fun h => ?_) (fun h => ?_) | with_reducible refine bnt (fun h => ?_) (fun h => ?_) | with_reducible refine bcase (fun h => ?_) (fun h => ?_)) <;> (first | (exfalso; omega) | (conv => whnf)))
        all_goals try exact kB hK (bad2 (by simp [artHead]; intros; omega))
        have hhead : artHead a = true := by simp [artHead]; omega
        have hone : decide (1 ≤ a.number ∧ a.number ≤ 1000000 ∧ 0 ≤ a.line ∧ a.line < c.lines.length ∧ a.line = firstLine c a.number) = true := decide_eq_true ⟨hg1.1, hg1.2.1, hg1.2.2.1, hg1.2.2.2, by rw [hfl]; exact hline⟩
        have hart2 : refArtOK c a = (a.when_.all (fun e => refFitsOK c e && decide (e.unit = tT)) && a.unless_.all (fun n => decide (0 ≤ artIx n c.arts 0)) && (refFitsOK c a.amount && decide (a.amount.unit = lineUnit c a.line))) := by
          simp only [refArtOK, hone, hhead, Bool.true_and]
        clear hnum bad1 bad2 hone hhead
        refine sw_keep [1, 3, 4, 5] ?_
        refine sw_each a.when_ (fun i (_ : Unit) => [(1, .ptr 0 0), (3, sI done.length), (4, .ptr 1 0), (5, sI i)])
          (fun _ _ => [.cells [.imm (dDecls c.facts), .imm (dDecls c.lines), .imm (dArts c.arts)], .cells (artList a op n u den ps ks)])
          (fun done rest _ => a.when_.all (fun e => refFitsOK c e && decide (e.unit = tT)) = rest.all (fun e => refFitsOK c e && decide (e.unit = tT))) () rfl ?_ ?_
        · as_aux_lemma =>
            rintro _ hwh
            have hwt : a.when_.all (fun e => refFitsOK c e && decide (e.unit = tT)) = true := by rw [hwh]; rfl
            rw [hwt, Bool.true_and] at hart2
            (refine sgo_sound [] 1000 ?_; conv => whnf)
            repeat' ((first | with_reducible refine bdec (fun h => ?_) (fun h => ?_) | with_reducible refine bndec (fun h => ?_) (fun h => ?_) | with_reducible refine bwtd (fun h => ?_) (fun h => ?_) | with_reducible refine bwfd (fun h => ?_) (fun h => ?_) | with_reducible refine bwtn (fun h => ?_) (fun h => ?_) | with_reducible refine bwfn (fun h => ?_) (fun h => ?_) | with_reducible refine bwtb (fun h => ?_) (fun h => ?_) | with_reducible refine bwfb (fun h => ?_) (fun h => ?_) | with_reducible refine bwt (fun h => ?_) (fun h => ?_) | with_reducible refine bwf (fun h => ?_) (fun h => ?_) | with_reducible refine bnt (fun h => ?_) (fun h => ?_) | with_reducible refine bcase (fun h => ?_) (fun h => ?_)) <;> (first | (exfalso; omega) | (conv => whnf)))
            all_goals try (exfalso; omega)
            refine sw_keep [1, 3, 4, 6] ?_
            refine sw_each a.unless_ (fun i (_ : Unit) => [(1, .ptr 0 0), (3, sI done.length), (4, .ptr 1 0), (6, sI i)])
              (fun _ _ => [.cells [.imm (dDecls c.facts), .imm (dDecls c.lines), .imm (dArts c.arts)], .cells (artList a op n u den ps ks)])
              (fun done rest _ => a.unless_.all (fun n => decide (0 ≤ artIx n c.arts 0)) = rest.all (fun n => decide (0 ≤ artIx n c.arts 0))) () rfl ?_ ?_
            · as_aux_lemma =>
                rintro _ huh
                have hut : a.unless_.all (fun n => decide (0 ≤ artIx n c.arts 0)) = true := by rw [huh]; rfl
                rw [hut, Bool.true_and, ham] at hart2
                obtain ⟨d, hd⟩ : ∃ d, c.lines[a.line.toNat]? = some d := ⟨c.lines[a.line.toNat]'(by omega), List.getElem?_eq_getElem _⟩
                have hlu : lineUnit c a.line = d.unit := by simp only [lineUnit, hd]
                rw [hlu] at hart2
                replace hart2 : refArtOK c a = (refFitsOK c (.mk op n u den ps ks) && decide (u = d.unit)) := hart2
                have hfit := refFits10_spec G c (by omega) (.mk op n u den ps ks)
                (refine sgo_sound [] 1000 ?_; conv => whnf)
                repeat' ((first | with_reducible refine bdec (fun h => ?_) (fun h => ?_) | with_reducible refine bndec (fun h => ?_) (fun h => ?_) | with_reducible refine bwtd (fun h => ?_) (fun h => ?_) | with_reducible refine bwfd (fun h => ?_) (fun h => ?_) | with_reducible refine bwtn (fun h => ?_) (fun h => ?_) | with_reducible refine bwfn (fun h => ?_) (fun h => ?_) | with_reducible refine bwtb (fun h => ?_) (fun h => ?_) | with_reducible refine bwfb (fun h => ?_) (fun h => ?_) | with_reducible refine bwt (fun h => ?_) (fun h => ?_) | with_reducible refine bwf (fun h => ?_) (fun h => ?_) | with_reducible refine bnt (fun h => ?_) (fun h => ?_) | with_reducible refine bcase (fun h => ?_) (fun h => ?_)) <;> (first | (exfalso; omega) | (conv => whnf)))
                all_goals try (exfalso; omega)
                (refine swd_start mixed rfl ?_; refine sgod_sound [] ?_; conv => whnf)
                refine swd_pure rfl rfl rfl rfl rfl rfl  hfit ?_
                cases hf : refFitsOK c (.mk op n u den ps ks) with
                | false =>
                  (refine sgod_sound [] ?_; conv => whnf)
                  (refine sgo_sound [] 1000 ?_; conv => whnf)
                  exact kB hK (bad (by rw [hart2, hf]; rfl))
                | true =>
                  (refine sgod_sound [] ?_; conv => whnf)
                  refine swd_index rfl rfl rfl rfl rfl rfl rfl (i := a.line.toNat) (by omega) (row := d.cells) (by simp [hd]) ?_
                  (refine sgod_sound [] ?_; conv => whnf)
                  (refine sgo_sound [] 1000 ?_; conv => whnf)
                  repeat' ((first | with_reducible refine bdec (fun h => ?_) (fun h => ?_) | with_reducible refine bndec (fun h => ?_) (fun h => ?_) | with_reducible refine bwtd (fun h => ?_) (fun h => ?_) | with_reducible refine bwfd (fun h => ?_) (fun h => ?_) | with_reducible refine bwtn (fun h => ?_) (fun h => ?_) | with_reducible refine bwfn (fun h => ?_) (fun h => ?_) | with_reducible refine bwtb (fun h => ?_) (fun h => ?_) | with_reducible refine bwfb (fun h => ?_) (fun h => ?_) | with_reducible refine bwt (fun h => ?_) (fun h => ?_) | with_reducible refine bwf (fun h => ?_) (fun h => ?_) | with_reducible refine bnt (fun h => ?_) (fun h => ?_) | with_reducible refine bcase (fun h => ?_) (fun h => ?_)) <;> (first | (exfalso; omega) | (conv => whnf)))
                  · exact kB hK (bad (by rw [hart2, hf, decide_eq_false h]; rfl))
                  · rw [hw]
                    exact sw_kc [1, 3] 1 (by simp [hH]) (by simp) rfl rfl (ih () (by rw [hinv, hart2, hf, decide_eq_true h]; rfl))
            · as_aux_lemma =>
                rintro d3 x r3 _ ha3 hl3 h3 ih3
                have hw3 := wrap_succ (n := d3.length) (by omega)
                simp only [List.all_cons] at h3
                (refine sgo_sound [] 1000 ?_; conv => whnf)
                repeat' ((first | with_reducible refine bdec (fun h => ?_) (fun h => ?_) | with_reducible refine bndec (fun h => ?_) (fun h => ?_) | with_reducible refine bwtd (fun h => ?_) (fun h => ?_) | with_reducible refine bwfd (fun h => ?_) (fun h => ?_) | with_reducible refine bwtn (fun h => ?_) (fun h => ?_) | with_reducible refine bwfn (fun h => ?_) (fun h => ?_) | with_reducible refine bwtb (fun h => ?_) (fun h => ?_) | with_reducible refine bwfb (fun h => ?_) (fun h => ?_) | with_reducible refine bwt (fun h => ?_) (fun h => ?_) | with_reducible refine bwf (fun h => ?_) (fun h => ?_) | with_reducible refine bnt (fun h => ?_) (fun h => ?_) | with_reducible refine bcase (fun h => ?_) (fun h => ?_)) <;> (first | (exfalso; omega) | (conv => whnf)))
                all_goals try (exfalso; omega)
                (refine swd_start mixed rfl ?_; refine sgod_sound [] ?_; conv => whnf)
                refine swd_index rfl rfl rfl rfl rfl rfl rfl rfl  (row := [dI x]) (by simp [ha3]) ?_
                (refine sgod_sound [] ?_; conv => whnf)
                refine swd_pure rfl rfl rfl rfl rfl rfl  (numbered_spec G c x (by omega)) ?_
                (refine sgod_sound [] ?_; conv => whnf)
                (refine sgo_sound [] 1000 ?_; conv => whnf)
                repeat' ((first | with_reducible refine bdec (fun h => ?_) (fun h => ?_) | with_reducible refine bndec (fun h => ?_) (fun h => ?_) | with_reducible refine bwtd (fun h => ?_) (fun h => ?_) | with_reducible refine bwfd (fun h => ?_) (fun h => ?_) | with_reducible refine bwtn (fun h => ?_) (fun h => ?_) | with_reducible refine bwfn (fun h => ?_) (fun h => ?_) | with_reducible refine bwtb (fun h => ?_) (fun h => ?_) | with_reducible refine bwfb (fun h => ?_) (fun h => ?_) | with_reducible refine bwt (fun h => ?_) (fun h => ?_) | with_reducible refine bwf (fun h => ?_) (fun h => ?_) | with_reducible refine bnt (fun h => ?_) (fun h => ?_) | with_reducible refine bcase (fun h => ?_) (fun h => ?_)) <;> (first | (exfalso; omega) | (conv => whnf)))
                · exact kB hK (bad (by rw [hart2, h3, decide_eq_false (by omega)]; rfl))
                · rw [hw3]
                  exact sw_kc [1, 3, 4, 6] 2 (by simp [hH]) (by simp) rfl rfl (ih3 () (by rw [h3, decide_eq_true (by omega)]; rfl))
        · as_aux_lemma =>
            rintro d2 e r2 _ ha2 hl2 h2 ih2
            have hw2 := wrap_succ (n := d2.length) (by omega)
            simp only [List.all_cons] at h2
            have hfit := refFits10_spec G c (by omega) e
            obtain ⟨o1, n1, u1, d1, p1, q1⟩ := e
            replace h2 : a.when_.all (fun e => refFitsOK c e && decide (e.unit = tT)) = ((refFitsOK c (.mk o1 n1 u1 d1 p1 q1) && decide (u1 = tT)) && r2.all (fun e => refFitsOK c e && decide (e.unit = tT))) := h2
            (refine sgo_sound [] 1000 ?_; conv => whnf)
            repeat' ((first | with_reducible refine bdec (fun h => ?_) (fun h => ?_) | with_reducible refine bndec (fun h => ?_) (fun h => ?_) | with_reducible refine bwtd (fun h => ?_) (fun h => ?_) | with_reducible refine bwfd (fun h => ?_) (fun h => ?_) | with_reducible refine bwtn (fun h => ?_) (fun h => ?_) | with_reducible refine bwfn (fun h => ?_) (fun h => ?_) | with_reducible refine bwtb (fun h => ?_) (fun h => ?_) | with_reducible refine bwfb (fun h => ?_) (fun h => ?_) | with_reducible refine bwt (fun h => ?_) (fun h => ?_) | with_reducible refine bwf (fun h => ?_) (fun h => ?_) | with_reducible refine bnt (fun h => ?_) (fun h => ?_) | with_reducible refine bcase (fun h => ?_) (fun h => ?_)) <;> (first | (exfalso; omega) | (conv => whnf)))
            all_goals try (exfalso; omega)
            (refine swd_start mixed rfl ?_; refine sgod_sound [] ?_; conv => whnf)
            refine swd_index rfl rfl rfl rfl rfl rfl rfl rfl  (row := (Ex.mk o1 n1 u1 d1 p1 q1).cells) (by simp [ha2]) ?_
            (refine sgod_sound [] ?_; conv => whnf)
            refine swd_pure rfl rfl rfl rfl rfl rfl  hfit ?_
            cases hf : refFitsOK c (.mk o1 n1 u1 d1 p1 q1) with
            | false =>
              (refine sgod_sound [] ?_; conv => whnf)
              (refine sgo_sound [] 1000 ?_; conv => whnf)
              exact kB hK (bad (by rw [hart2, h2, hf]; rfl))
            | true =>
              (refine sgod_sound [] ?_; conv => whnf)
              refine swd_index rfl rfl rfl rfl rfl rfl rfl rfl  (row := (Ex.mk o1 n1 u1 d1 p1 q1).cells) (by simp [ha2]) ?_
              (refine sgod_sound [] ?_; conv => whnf)
              (refine sgo_sound [] 1000 ?_; conv => whnf)
              repeat' ((first | with_reducible refine bdec (fun h => ?_) (fun h => ?_) | with_reducible refine bndec (fun h => ?_) (fun h => ?_) | with_reducible refine bwtd (fun h => ?_) (fun h => ?_) | with_reducible refine bwfd (fun h => ?_) (fun h => ?_) | with_reducible refine bwtn (fun h => ?_) (fun h => ?_) | with_reducible refine bwfn (fun h => ?_) (fun h => ?_) | with_reducible refine bwtb (fun h => ?_) (fun h => ?_) | with_reducible refine bwfb (fun h => ?_) (fun h => ?_) | with_reducible refine bwt (fun h => ?_) (fun h => ?_) | with_reducible refine bwf (fun h => ?_) (fun h => ?_) | with_reducible refine bnt (fun h => ?_) (fun h => ?_) | with_reducible refine bcase (fun h => ?_) (fun h => ?_)) <;> (first | (exfalso; omega) | (conv => whnf)))
              · exact kB hK (bad (by rw [hart2, h2, hf, decide_eq_false (by exact h)]; rfl))
              · rw [hw2]
                exact sw_kc [1, 3, 4, 5] 2 (by simp [hH]) (by simp) rfl rfl (ih2 () (by rw [h2, hf, decide_eq_true (by exact h)]; rfl))
      · (refine swd_start mixed rfl ?_; refine sgod_sound [] ?_; conv => whnf)
        repeat' ((first | with_reducible refine bdec (fun h => ?_) (fun h => ?_) | with_reducible refine bndec (fun h => ?_) (fun h => ?_) | with_reducible refine bwtd (fun h => ?_) (fun h => ?_) | with_reducible refine bwfd (fun h => ?_) (fun h => ?_) | with_reducible refine bwtn (fun h => ?_) (fun h => ?_) | with_reducible refine bwfn (fun h => ?_) (fun h => ?_) | with_reducible refine bwtb (fun h => ?_) (fun h => ?_) | with_reducible refine bwfb (fun h => ?_) (fun h => ?_) | with_reducible refine bwt (fun h => ?_) (fun h => ?_) | with_reducible refine bwf (fun h => ?_) (fun h => ?_) | with_reducible refine bnt (fun h => ?_) (fun h => ?_) | with_reducible refine bcase (fun h => ?_) (fun h => ?_)) <;> (first | (exfalso; omega) | (conv => whnf)))
        all_goals try (exfalso; omega)
        all_goals try (refine sgo_sound [] 1000 ?_; conv => whnf)
        all_goals exact kB hK (bad1 (fun hc => hg1 ⟨hc.1, hc.2.1, hc.2.2.1, hc.2.2.2.1⟩))

def validOK (c : Codex) (l : List Fact) : Bool := smallOK c l && refOK c && storeOK l
theorem lawValid_spec (c : Codex) (l : List Fact) (hfit : ∀ f ∈ l, f.fit) : SPure Tryz.prog G 18 [c.sv, storeSV l] (sB (validOK c l)) := by
  refine spure_enter Tryz.func18 rfl (by rw [Tryz.ntmps18]; simp) rfl rfl ?_; intro E hH hK
  (refine sgo_sound [] 1000 ?_; conv => whnf)
  refine swr_pure rfl rfl rfl rfl rfl rfl  (lawSmall_spec G c l) ?_
  cases hs : smallOK c l with
  | false =>
    (refine sgor_sound [] 1000 ?_; conv => whnf)
    exact kB hK (by simp only [validOK, hs, Bool.false_and])
  | true =>
    have hfew : fewOK c 420 = true := by simp only [smallOK, Bool.and_eq_true] at hs; exact hs.1
    (refine sgor_sound [] 1000 ?_; conv => whnf)
    refine swr_pure rfl rfl rfl rfl rfl rfl  (refValid10_spec G c hfew) ?_
    cases hr : refOK c with
    | false =>
      (refine sgor_sound [] 1000 ?_; conv => whnf)
      exact kB hK (by simp only [validOK, hr, Bool.and_false, Bool.false_and])
    | true =>
      (refine sgor_sound [] 1000 ?_; conv => whnf)
      refine swr_pure rfl rfl rfl rfl rfl rfl  (refValid12_spec G l hfit) ?_
      (refine sgor_sound [] 1000 ?_; conv => whnf)
      exact kB hK (by simp only [validOK, hs, hr, Bool.true_and])
end Go.Proofs.YthmkdghoaifkbaaGreatDoor

/- The law ViewFacts: what it computes. -/
namespace Go.Proofs.YthmkdghoaifkbaaGreatDoor
open Go Go.Sh
set_option maxRecDepth 10000
set_option maxHeartbeats 4000000

theorem viewAt_ok {c : Codex} {l : List Fact} {p : ByteArray} {day k : Int} (h : (viewAt c l p day k).2 = 0) : viewAt c l p day k = (viewOf c l p k day, 0) ∧ readerOK c l k = true ∧ dayOK day = true := by
  simp only [viewAt] at h ⊢
  split at h
  · rename_i hc
    rw [if_pos hc]
    simp only [Bool.and_eq_true] at hc
    exact ⟨rfl, hc.1, hc.2⟩
  · simp at h
theorem storeFit {l : List Fact} (h : storeGo l) : ∀ f ∈ l, f.fit := fun f hf => ⟨(h.fact f hf).person, (h.fact f hf).name⟩
theorem codexFit {c : Codex} (h : Codex.ok c) : Codex.fit c := fun a ha => ⟨(h.art a ha).unless_, (h.art a ha).when_⟩
theorem viewAt_two (c : Codex) (l : List Fact) (p : ByteArray) (day k : Int) : (viewAt c l p day k).2 = 0 ∨ (viewAt c l p day k).2 = 1 := by
  simp only [viewAt]; split <;> simp

theorem viewFactsLaw_spec (c : Codex) (l : List Fact) (p : ByteArray) (day k : Int) (hc : Codex.ok c) (hl : storeGo l) :
    SPure Tryz.prog G0 7 [c.sv, storeSV l, sS p, sI day, sI k] (sB true) := by
  refine spure_enter Tryz.func7 rfl (by rw [Tryz.ntmps7]; simp) rfl rfl ?_; intro E hH hK
  have hlf : (c.facts.map Decl.cells).length = c.facts.length := by simp
  (refine sgo_sound [] 1000 ?_; conv => whnf)
  refine swr_pure rfl rfl rfl rfl rfl rfl  head_spec ?_
  (refine sgor_sound [] 1000 ?_; conv => whnf)
  refine swr_pure rfl rfl rfl rfl rfl rfl  (viewAt_spec G0 c l p day k (codexFit hc)) ?_
  rcases viewAt_two c l p day k with he | he
  · obtain ⟨hv, hr, hd⟩ := viewAt_ok he
    rw [show errSV (viewAt c l p day k).1.sv (viewAt c l p day k).2 = errSV (viewOf c l p k day).sv 0 by rw [hv]]
    have hVd : (viewOf c l p k day).day = day := rfl
    have hVh : (viewOf c l p k day).has = c.facts.map fun d => (usableOf c l p k day d).2 := rfl
    have hVv : (viewOf c l p k day).value = c.facts.map fun d => (usableOf c l p k day d).1 := rfl
    generalize viewOf c l p k day = V at hVd hVh hVv ⊢
    obtain ⟨hz1, hz2, hz3⟩ := readerOK_len hr
    have hst : storeOK l = true := by simp only [readerOK, Bool.and_eq_true] at hr; exact hr.1.2
    have hh : (c.facts.map fun d => (usableOf c l p k day d).2).length = c.facts.length := by simp
    have hvl : (c.facts.map fun d => (usableOf c l p k day d).1).length = c.facts.length := by simp
    (refine sgor_sound [] 1000 ?_; conv => whnf)
    refine swr_pure rfl rfl rfl rfl rfl rfl  (lawValid_spec G0 c l (storeFit hl)) ?_
    cases hval : validOK c l with
    | false =>
      (refine sgor_sound [] 1000 ?_; conv => whnf)
      exact hK _
    | true =>
      have hbl : (V.has.map fun b => [dB b]).length = c.facts.length := by rw [hVh]; simp
      have hil : (V.value.map fun n => [dI n]).length = c.facts.length := by rw [hVv]; simp
      (refine sgor_sound [] 1000 ?_; conv => whnf)
      repeat' ((first | with_reducible refine bdec (fun h => ?_) (fun h => ?_) | with_reducible refine bndec (fun h => ?_) (fun h => ?_) | with_reducible refine bwtd (fun h => ?_) (fun h => ?_) | with_reducible refine bwfd (fun h => ?_) (fun h => ?_) | with_reducible refine bwtn (fun h => ?_) (fun h => ?_) | with_reducible refine bwfn (fun h => ?_) (fun h => ?_) | with_reducible refine bwtb (fun h => ?_) (fun h => ?_) | with_reducible refine bwfb (fun h => ?_) (fun h => ?_) | with_reducible refine bwt (fun h => ?_) (fun h => ?_) | with_reducible refine bwf (fun h => ?_) (fun h => ?_) | with_reducible refine bnt (fun h => ?_) (fun h => ?_) | with_reducible refine bcase (fun h => ?_) (fun h => ?_)) <;> (first | (exfalso; omega) | (conv => whnf)))
      refine sw_keep [2, 3, 4, 5, 6, 11, 12, 61, 62, 63] ?_
      refine sw_each c.facts (fun i (_ : Unit) => [(2, sS p), (3, sI day), (4, sI k), (5, .ptr 0 0), (6, .ptr 1 0), (11, sB true), (12, .ptr 2 0), (61, .imm (dDecls c.facts)), (62, sI (c.facts.map Decl.cells).length), (63, sI i)])
        (fun _ _ => [.cells [.imm (dDecls c.facts), .imm (dDecls c.lines), .imm (dArts c.arts)], .cells [.imm (dFacts l)], .cells [sI V.day, .imm (dBools V.has), .imm (dInts V.value), .imm (dInts V.arts)]])
        (fun _ _ _ => True) () trivial ?_ ?_
      · as_aux_lemma =>
          rintro _ _
          (refine sgo_sound [] 1000 ?_; conv => whnf)
          repeat' ((first | with_reducible refine bdec (fun h => ?_) (fun h => ?_) | with_reducible refine bndec (fun h => ?_) (fun h => ?_) | with_reducible refine bwtd (fun h => ?_) (fun h => ?_) | with_reducible refine bwfd (fun h => ?_) (fun h => ?_) | with_reducible refine bwtn (fun h => ?_) (fun h => ?_) | with_reducible refine bwfn (fun h => ?_) (fun h => ?_) | with_reducible refine bwtb (fun h => ?_) (fun h => ?_) | with_reducible refine bwfb (fun h => ?_) (fun h => ?_) | with_reducible refine bwt (fun h => ?_) (fun h => ?_) | with_reducible refine bwf (fun h => ?_) (fun h => ?_) | with_reducible refine bnt (fun h => ?_) (fun h => ?_) | with_reducible refine bcase (fun h => ?_) (fun h => ?_)) <;> (first | (exfalso; omega) | (conv => whnf)))
          exact hK _
      · as_aux_lemma =>
          rintro done d rest _ ha hl2 _ ih
          have hw := wrap_succ (n := done.length) (by omega)
          have hrow : (c.facts.map Decl.cells)[((done.length : Nat) : Int).toNat]? = some d.cells := by simp [ha]
          have hhas : (V.has.map fun b => [dB b])[((done.length : Nat) : Int).toNat]? = some [dB (usableOf c l p k day d).2] := by rw [hVh]; simp [ha]
          have hvals : (V.value.map fun n => [dI n])[((done.length : Nat) : Int).toNat]? = some [dI (usableOf c l p k day d).1] := by rw [hVv]; simp [ha]
          have hu : usableOf c l p k day d = if (look p d.name day k l).2.2 = false ∨ (d.unit = tT ∧ (look p d.name day k l).1 ≠ 0 ∧ (look p d.name day k l).1 ≠ 1) then (0, false) else ((look p d.name day k l).1, true) := rfl
          have hlk := factsValue_spec G0 l p d.name day k
          simp only [valueOf, hst, if_true] at hlk
          have hz : (look p d.name day k l).2.2 = false → (look p d.name day k l).1 = 0 := by
            simp only [look]
            split
            · intro _; rfl
            · split
              · intro _; rfl
              · intro h; cases h
          generalize usableOf c l p k day d = us at hhas hvals hu
          generalize look p d.name day k l = r at hu hlk hz
          obtain ⟨val, ix, ok⟩ := r
          simp only at hu hz
          (refine sgo_sound [] 1000 ?_; conv => whnf)
          repeat' ((first | with_reducible refine bdec (fun h => ?_) (fun h => ?_) | with_reducible refine bndec (fun h => ?_) (fun h => ?_) | with_reducible refine bwtd (fun h => ?_) (fun h => ?_) | with_reducible refine bwfd (fun h => ?_) (fun h => ?_) | with_reducible refine bwtn (fun h => ?_) (fun h => ?_) | with_reducible refine bwfn (fun h => ?_) (fun h => ?_) | with_reducible refine bwtb (fun h => ?_) (fun h => ?_) | with_reducible refine bwfb (fun h => ?_) (fun h => ?_) | with_reducible refine bwt (fun h => ?_) (fun h => ?_) | with_reducible refine bwf (fun h => ?_) (fun h => ?_) | with_reducible refine bnt (fun h => ?_) (fun h => ?_) | with_reducible refine bcase (fun h => ?_) (fun h => ?_)) <;> (first | (exfalso; omega) | (conv => whnf)))
          refine swr_index rfl rfl rfl rfl rfl rfl rfl rfl  (row := d.cells) hrow ?_
          (refine sgor_sound [] 1000 ?_; conv => whnf)
          refine swr_pure rfl rfl rfl rfl rfl rfl  hlk ?_
          rw [show lookSV (val, ix, ok) = .tup [sI val, sI ix, sB ok] from rfl]
          cases ok with
          | false =>
            simp only [true_or, if_true] at hu
            subst hu
            have hz0 := hz rfl
            subst hz0
            by_cases hut : d.unit = tT
            · (refine sgor_sound [] 1000 ?_; conv => whnf)
              repeat' ((first | with_reducible refine bdec (fun h => ?_) (fun h => ?_) | with_reducible refine bndec (fun h => ?_) (fun h => ?_) | with_reducible refine bwtd (fun h => ?_) (fun h => ?_) | with_reducible refine bwfd (fun h => ?_) (fun h => ?_) | with_reducible refine bwtn (fun h => ?_) (fun h => ?_) | with_reducible refine bwfn (fun h => ?_) (fun h => ?_) | with_reducible refine bwtb (fun h => ?_) (fun h => ?_) | with_reducible refine bwfb (fun h => ?_) (fun h => ?_) | with_reducible refine bwt (fun h => ?_) (fun h => ?_) | with_reducible refine bwf (fun h => ?_) (fun h => ?_) | with_reducible refine bnt (fun h => ?_) (fun h => ?_) | with_reducible refine bcase (fun h => ?_) (fun h => ?_)) <;> (first | (exfalso; omega) | (conv => whnf)))
              all_goals (try exact absurd hut (by assumption))
              all_goals refine swr_index rfl rfl rfl rfl rfl rfl rfl rfl  (row := [dB false]) hhas ?_
              all_goals (refine sgor_sound [] 1000 ?_; conv => whnf)
              all_goals refine swr_index rfl rfl rfl rfl rfl rfl rfl rfl  (row := [dI 0]) hvals ?_
              all_goals (refine sgor_sound [] 1000 ?_; conv => whnf)
              all_goals (rw [hw]; exact sw_kc [2, 3, 4, 5, 6, 11, 12, 61, 62, 63] 3 (by simp [hH]) (by simp) rfl rfl (ih () trivial))
            · (refine sgor_sound [] 1000 ?_; conv => whnf)
              repeat' ((first | with_reducible refine bdec (fun h => ?_) (fun h => ?_) | with_reducible refine bndec (fun h => ?_) (fun h => ?_) | with_reducible refine bwtd (fun h => ?_) (fun h => ?_) | with_reducible refine bwfd (fun h => ?_) (fun h => ?_) | with_reducible refine bwtn (fun h => ?_) (fun h => ?_) | with_reducible refine bwfn (fun h => ?_) (fun h => ?_) | with_reducible refine bwtb (fun h => ?_) (fun h => ?_) | with_reducible refine bwfb (fun h => ?_) (fun h => ?_) | with_reducible refine bwt (fun h => ?_) (fun h => ?_) | with_reducible refine bwf (fun h => ?_) (fun h => ?_) | with_reducible refine bnt (fun h => ?_) (fun h => ?_) | with_reducible refine bcase (fun h => ?_) (fun h => ?_)) <;> (first | (exfalso; omega) | (conv => whnf)))
              all_goals (try exact absurd (by assumption) hut)
              all_goals refine swr_index rfl rfl rfl rfl rfl rfl rfl rfl  (row := [dB false]) hhas ?_
              all_goals (refine sgor_sound [] 1000 ?_; conv => whnf)
              all_goals refine swr_index rfl rfl rfl rfl rfl rfl rfl rfl  (row := [dI 0]) hvals ?_
              all_goals (refine sgor_sound [] 1000 ?_; conv => whnf)
              all_goals (rw [hw]; exact sw_kc [2, 3, 4, 5, 6, 11, 12, 61, 62, 63] 3 (by simp [hH]) (by simp) rfl rfl (ih () trivial))
          | true =>
            by_cases hcond : d.unit = tT ∧ val ≠ 0 ∧ val ≠ 1
            · rw [if_pos (.inr hcond)] at hu
              subst hu
              have hv01 : val < 0 ∨ 1 < val := by omega
              have hut := hcond.1
              (refine sgor_sound [] 1000 ?_; conv => whnf)
              repeat' ((first | with_reducible refine bdec (fun h => ?_) (fun h => ?_) | with_reducible refine bndec (fun h => ?_) (fun h => ?_) | with_reducible refine bwtd (fun h => ?_) (fun h => ?_) | with_reducible refine bwfd (fun h => ?_) (fun h => ?_) | with_reducible refine bwtn (fun h => ?_) (fun h => ?_) | with_reducible refine bwfn (fun h => ?_) (fun h => ?_) | with_reducible refine bwtb (fun h => ?_) (fun h => ?_) | with_reducible refine bwfb (fun h => ?_) (fun h => ?_) | with_reducible refine bwt (fun h => ?_) (fun h => ?_) | with_reducible refine bwf (fun h => ?_) (fun h => ?_) | with_reducible refine bnt (fun h => ?_) (fun h => ?_) | with_reducible refine bcase (fun h => ?_) (fun h => ?_)) <;> (first | (exfalso; omega) | (conv => whnf)))
              all_goals (try exact absurd hut (by assumption))
              all_goals refine swr_index rfl rfl rfl rfl rfl rfl rfl rfl  (row := [dB false]) hhas ?_
              all_goals (refine sgor_sound [] 1000 ?_; conv => whnf)
              all_goals refine swr_index rfl rfl rfl rfl rfl rfl rfl rfl  (row := [dI 0]) hvals ?_
              all_goals (refine sgor_sound [] 1000 ?_; conv => whnf)
              all_goals (rw [hw]; exact sw_kc [2, 3, 4, 5, 6, 11, 12, 61, 62, 63] 3 (by simp [hH]) (by simp) rfl rfl (ih () trivial))
            · rw [if_neg (by simp only [Bool.true_eq_false, false_or]; exact hcond)] at hu
              subst hu
              by_cases hut : d.unit = tT
              · have hv01 : 0 ≤ val ∧ val ≤ 1 := by
                  by_cases h0 : val = 0
                  · omega
                  · by_cases h1 : val = 1
                    · omega
                    · exact absurd ⟨hut, h0, h1⟩ hcond
                (refine sgor_sound [] 1000 ?_; conv => whnf)
                repeat' ((first | with_reducible refine bdec (fun h => ?_) (fun h => ?_) | with_reducible refine bndec (fun h => ?_) (fun h => ?_) | with_reducible refine bwtd (fun h => ?_) (fun h => ?_) | with_reducible refine bwfd (fun h => ?_) (fun h => ?_) | with_reducible refine bwtn (fun h => ?_) (fun h => ?_) | with_reducible refine bwfn (fun h => ?_) (fun h => ?_) | with_reducible refine bwtb (fun h => ?_) (fun h => ?_) | with_reducible refine bwfb (fun h => ?_) (fun h => ?_) | with_reducible refine bwt (fun h => ?_) (fun h => ?_) | with_reducible refine bwf (fun h => ?_) (fun h => ?_) | with_reducible refine bnt (fun h => ?_) (fun h => ?_) | with_reducible refine bcase (fun h => ?_) (fun h => ?_)) <;> (first | (exfalso; omega) | (conv => whnf)))
                all_goals (try exact absurd hut (by assumption))
                all_goals refine swr_index rfl rfl rfl rfl rfl rfl rfl rfl  (row := [dB true]) hhas ?_
                all_goals (refine sgor_sound [] 1000 ?_; conv => whnf)
                all_goals refine swr_index rfl rfl rfl rfl rfl rfl rfl rfl  (row := [dI val]) hvals ?_
                all_goals (refine sgor_sound [] 1000 ?_; conv => whnf)
                all_goals repeat' ((first | with_reducible refine bdec (fun h => ?_) (fun h => ?_) | with_reducible refine bndec (fun h => ?_) (fun h => ?_) | with_reducible refine bwtd (fun h => ?_) (fun h => ?_) | with_reducible refine bwfd (fun h => ?_) (fun h => ?_) | with_reducible refine bwtn (fun h => ?_) (fun h => ?_) | with_reducible refine bwfn (fun h => ?_) (fun h => ?_) | with_reducible refine bwtb (fun h => ?_) (fun h => ?_) | with_reducible refine bwfb (fun h => ?_) (fun h => ?_) | with_reducible refine bwt (fun h => ?_) (fun h => ?_) | with_reducible refine bwf (fun h => ?_) (fun h => ?_) | with_reducible refine bnt (fun h => ?_) (fun h => ?_) | with_reducible refine bcase (fun h => ?_) (fun h => ?_)) <;> (first | (exfalso; omega) | (conv => whnf)))
                all_goals (rw [hw]; exact sw_kc [2, 3, 4, 5, 6, 11, 12, 61, 62, 63] 3 (by simp [hH]) (by simp) rfl rfl (ih () trivial))
              · (refine sgor_sound [] 1000 ?_; conv => whnf)
                repeat' ((first | with_reducible refine bdec (fun h => ?_) (fun h => ?_) | with_reducible refine bndec (fun h => ?_) (fun h => ?_) | with_reducible refine bwtd (fun h => ?_) (fun h => ?_) | with_reducible refine bwfd (fun h => ?_) (fun h => ?_) | with_reducible refine bwtn (fun h => ?_) (fun h => ?_) | with_reducible refine bwfn (fun h => ?_) (fun h => ?_) | with_reducible refine bwtb (fun h => ?_) (fun h => ?_) | with_reducible refine bwfb (fun h => ?_) (fun h => ?_) | with_reducible refine bwt (fun h => ?_) (fun h => ?_) | with_reducible refine bwf (fun h => ?_) (fun h => ?_) | with_reducible refine bnt (fun h => ?_) (fun h => ?_) | with_reducible refine bcase (fun h => ?_) (fun h => ?_)) <;> (first | (exfalso; omega) | (conv => whnf)))
                all_goals (try exact absurd (by assumption) hut)
                all_goals refine swr_index rfl rfl rfl rfl rfl rfl rfl rfl  (row := [dB true]) hhas ?_
                all_goals (refine sgor_sound [] 1000 ?_; conv => whnf)
                all_goals refine swr_index rfl rfl rfl rfl rfl rfl rfl rfl  (row := [dI val]) hvals ?_
                all_goals (refine sgor_sound [] 1000 ?_; conv => whnf)
                all_goals repeat' ((first | with_reducible refine bdec (fun h => ?_) (fun h => ?_) | with_reducible refine bndec (fun h => ?_) (fun h => ?_) | with_reducible refine bwtd (fun h => ?_) (fun h => ?_) | with_reducible refine bwfd (fun h => ?_) (fun h => ?_) | with_reducible refine bwtn (fun h => ?_) (fun h => ?_) | with_reducible refine bwfn (fun h => ?_) (fun h => ?_) | with_reducible refine bwtb (fun h => ?_) (fun h => ?_) | with_reducible refine bwfb (fun h => ?_) (fun h => ?_) | with_reducible refine bwt (fun h => ?_) (fun h => ?_) | with_reducible refine bwf (fun h => ?_) (fun h => ?_) | with_reducible refine bnt (fun h => ?_) (fun h => ?_) | with_reducible refine bcase (fun h => ?_) (fun h => ?_)) <;> (first | (exfalso; omega) | (conv => whnf)))
                all_goals (rw [hw]; exact sw_kc [2, 3, 4, 5, 6, 11, 12, 61, 62, 63] 3 (by simp [hH]) (by simp) rfl rfl (ih () trivial))
  · generalize viewAt c l p day k = r at he ⊢
    obtain ⟨v, e⟩ := r
    simp only at he
    subst he
    (refine sgor_sound [] 1000 ?_; conv => whnf)
    refine swr_pure rfl rfl rfl rfl rfl rfl  (lawValid_spec G0 c l (storeFit hl)) ?_
    cases hval : validOK c l with
    | false =>
      (refine sgor_sound [] 1000 ?_; conv => whnf)
      exact hK _
    | true =>
      (refine sgor_sound [] 1000 ?_; conv => whnf)
      exact hK _
end Go.Proofs.YthmkdghoaifkbaaGreatDoor

/- The two validities of a codex agree. -/
namespace Go.Proofs.YthmkdghoaifkbaaGreatDoor
open Go Go.Sh
set_option maxRecDepth 10000
set_option maxHeartbeats 2000000

/-- the line of the first article with a number -/
def fl (n : Int) : List Article → Option Int
  | [] => none
  | a :: r => if a.number = n then some a.line else fl n r

theorem fl_artIx (n : Int) : ∀ (l : List Article) (i : Nat), (artIx n l i = -1 ∧ fl n l = none) ∨ ((i : Int) ≤ artIx n l i ∧ ∃ a, l[(artIx n l i).toNat - i]? = some a ∧ a.number = n ∧ fl n l = some a.line)
  | [], i => .inl ⟨rfl, rfl⟩
  | a :: r, i => by
    simp only [artIx, fl]
    split
    · rename_i h
      right
      exact ⟨by omega, a, by simp, h, rfl⟩
    · rcases fl_artIx n r (i + 1) with ⟨h1, h2⟩ | ⟨h1, x, h2, h3, h4⟩
      · left; exact ⟨h1, h2⟩
      · right
        refine ⟨by omega, x, ?_, h3, h4⟩
        rw [show (artIx n r (i + 1)).toNat - i = ((artIx n r (i + 1)).toNat - (i + 1)) + 1 by omega]
        simpa using h2

abbrev artB (nl : Int) (a : Article) : Prop := 1 ≤ a.number ∧ a.number ≤ 1000000 ∧ 0 ≤ a.line ∧ a.line < nl
theorem linesGo_ok (nl : Int) : ∀ (l : List Article) (m0 m : List (Int × Int)), linesGo nl l m0 = some m → (∀ n, alook n m = (alook n m0).or (fl n l)) ∧ ∀ a ∈ l, artB nl a ∧ alook a.number m = some a.line
  | [], m0, m, h => by
    simp only [linesGo, Option.some.injEq] at h
    subst h
    exact ⟨fun n => by simp [fl], fun a ha => by cases ha⟩
  | a :: r, m0, m, h => by
    simp only [linesGo] at h
    split at h
    · rename_i hc
      have hm : linesGo nl r (ains a.number a.line m0) = some m ∧ (alook a.number m0 = none ∨ alook a.number m0 = some a.line) := by
        cases hl : alook a.number m0 with
        | none => rw [hl] at h; exact ⟨h, .inl rfl⟩
        | some x =>
          rw [hl] at h
          simp only at h
          split at h
          · rename_i e; subst e; exact ⟨h, .inr rfl⟩
          · cases h
      obtain ⟨g1, g2⟩ := linesGo_ok nl r _ m hm.1
      have key : ∀ n, alook n m = (alook n m0).or (fl n (a :: r)) := by
        intro n
        rw [g1 n, alook_ains]
        by_cases e : n = a.number
        · subst e
          simp only [beq_self_eq_true, if_true, Option.some_or, fl]
          rcases hm.2 with h0 | h0 <;> rw [h0] <;> rfl
        · rw [if_neg (by simpa using e)]
          simp only [fl]
          rw [if_neg (fun h => e h.symm)]
      refine ⟨key, fun b hb => ?_⟩
      rcases List.mem_cons.1 hb with rfl | hb
      · refine ⟨hc, ?_⟩
        rw [key]
        simp only [fl, if_true]
        rcases hm.2 with h0 | h0 <;> rw [h0] <;> rfl
      · exact g2 b hb
    · cases h
theorem linesGo_some (nl : Int) : ∀ (l : List Article) (m0 : List (Int × Int)), (∀ a ∈ l, artB nl a ∧ (alook a.number m0).or (fl a.number l) = some a.line) → ∃ m, linesGo nl l m0 = some m
  | [], m0, _ => ⟨m0, rfl⟩
  | a :: r, m0, h => by
    obtain ⟨hb, ha⟩ := h a (by simp)
    simp only [fl, if_true] at ha
    have h0 : alook a.number m0 = none ∨ alook a.number m0 = some a.line := by
      cases hl : alook a.number m0 with
      | none => exact .inl rfl
      | some x => rw [hl] at ha; right; simpa using ha
    have hr : ∀ b ∈ r, artB nl b ∧ (alook b.number (ains a.number a.line m0)).or (fl b.number r) = some b.line := by
      intro b hbr
      obtain ⟨g1, g2⟩ := h b (by simp [hbr])
      refine ⟨g1, ?_⟩
      rw [alook_ains]
      simp only [fl] at g2
      by_cases e : b.number = a.number
      · rw [e] at g2 ⊢
        simp only [beq_self_eq_true, if_true, Option.some_or]
        rw [if_pos rfl] at g2
        rcases h0 with h0 | h0 <;> rw [h0] at g2 <;> simpa using g2
      · rw [if_neg (by simpa using e)]
        rw [if_neg (fun h => e h.symm)] at g2
        exact g2
    obtain ⟨m, hm⟩ := linesGo_some nl r _ hr
    refine ⟨m, ?_⟩
    simp only [linesGo]
    rw [if_pos hb]
    rcases h0 with h0 | h0 <;> rw [h0]
    · exact hm
    · simp only [if_true]; exact hm

mutual
def exAll (P : Int → Int → ByteArray → Int → List Piece → List Ex → Bool) : Ex → Bool
  | .mk op n u den ps ks => exsAll P ks && P op n u den ps ks
def exsAll (P : Int → Int → ByteArray → Int → List Piece → List Ex → Bool) : List Ex → Bool
  | [] => true
  | k :: r => exAll P k && exsAll P r
end
def nodeU (c : Codex) (m : List (Int × Int)) (op n : Int) (u : ByteArray) (den : Int) (ps : List Piece) (ks : List Ex) : Bool := unitOK u && nodeOK c m op n u den ps ks

theorem fitRun_iff (c : Codex) (m : List (Int × Int)) (N : Nat) :
    (∀ e : Ex, SizeOf.sizeOf e < N → ∀ d cnt : Int, ((fitRun c m e d cnt).1 = true ↔ (cnt + exSize e ≤ 400 ∧ d + exDepth e ≤ 41 ∧ exAll (nodeU c m) e = true)) ∧ ((fitRun c m e d cnt).1 = true → (fitRun c m e d cnt).2 = cnt + exSize e)) ∧
    (∀ ks : List Ex, SizeOf.sizeOf ks < N → ∀ d cnt : Int, cnt ≤ 400 → d ≤ 41 → ((fitKids c m ks d cnt).1 = true ↔ (cnt + exsSize ks ≤ 400 ∧ d + exsDepth ks ≤ 41 ∧ exsAll (nodeU c m) ks = true)) ∧ ((fitKids c m ks d cnt).1 = true → (fitKids c m ks d cnt).2 = cnt + exsSize ks)) := by
  induction N with
  | zero => exact ⟨fun e h => by omega, fun e h => by omega⟩
  | succ N ih =>
    refine ⟨fun e he d cnt => ?_, fun ks hk d cnt hc hd => ?_⟩
    · obtain ⟨op, n, u, den, ps, ks⟩ := e
      simp only [Ex.mk.sizeOf_spec] at he
      simp only [fitRun, exSize, exDepth, exAll]
      split
      · rename_i hc
        constructor
        · constructor
          · intro h; cases h
          · rintro ⟨h1, h2, h3⟩
            rcases hc with h | h | h
            · omega
            · omega
            · simp [nodeU, h] at h3
        · intro h; cases h
      · rename_i hc
        have hu : unitOK u = true := by
          cases h : unitOK u with
          | true => rfl
          | false => exact absurd (.inr (.inr h)) hc
        obtain ⟨g1, g2⟩ := ih.2 ks (by omega) (d + 1) (cnt + 1) (by omega) (by omega)
        revert g1 g2
        cases fitKids c m ks (d + 1) (cnt + 1) with
        | mk b q =>
          cases b with
          | true =>
            intro g1 g2
            simp only at g1 g2 ⊢
            obtain ⟨k1, k2, k3⟩ := g1.1 trivial
            have k4 := g2 trivial
            constructor
            · constructor
              · intro h
                exact ⟨by omega, by omega, by simp [k3, nodeU, hu, h]⟩
              · rintro ⟨_, _, h3⟩
                simp [nodeU, hu] at h3
                exact h3.2
            · intro _; omega
          | false =>
            intro g1 _
            simp only at g1 ⊢
            constructor
            · constructor
              · intro h; cases h
              · rintro ⟨h1, h2, h3⟩
                simp only [Bool.and_eq_true] at h3
                exact absurd (g1.2 ⟨by omega, by omega, h3.1⟩) (by simp)
            · intro h; cases h
    · cases ks with
      | nil =>
        simp only [fitKids, exsSize, exsDepth, exsAll]
        exact ⟨⟨fun _ => ⟨by omega, by omega, trivial⟩, fun _ => trivial⟩, fun _ => by omega⟩
      | cons k r =>
        simp only [List.cons.sizeOf_spec] at hk
        obtain ⟨g1, g2⟩ := ih.1 k (by omega) d cnt
        simp only [fitKids, exsSize, exsDepth, exsAll]
        revert g1 g2
        cases fitRun c m k d cnt with
        | mk b q =>
          cases b with
          | true =>
            intro g1 g2
            simp only at g1 g2 ⊢
            obtain ⟨k1, k2, k3⟩ := g1.1 trivial
            have k4 := g2 trivial
            subst k4
            obtain ⟨r1, r2⟩ := ih.2 r (by omega) d (cnt + exSize k) (by omega) hd
            constructor
            · rw [r1, k3]
              simp only [Bool.true_and]
              constructor
              · rintro ⟨a1, a2, a3⟩; exact ⟨by omega, by omega, a3⟩
              · rintro ⟨a1, a2, a3⟩; exact ⟨by omega, by omega, a3⟩
            · intro h; have := r2 h; omega
          | false =>
            intro g1 _
            simp only at g1 ⊢
            constructor
            · constructor
              · intro h; cases h
              · rintro ⟨h1, h2, h3⟩
                simp only [Bool.and_eq_true] at h3
                exact absurd (g1.2 ⟨by omega, by omega, h3.1⟩) (by simp)
            · intro h; cases h

theorem fitRun_eq (c : Codex) (m : List (Int × Int)) (e : Ex) : (fitRun c m e 1 0).1 = (withinOK e && exAll (nodeU c m) e) := by
  rw [Bool.eq_iff_iff, ((fitRun_iff c m (SizeOf.sizeOf e + 1)).1 e (by omega) 1 0).1]
  simp only [withinOK, Bool.and_eq_true, decide_eq_true_eq]
  constructor
  · rintro ⟨h1, h2, h3⟩; exact ⟨⟨by omega, by omega⟩, h3⟩
  · rintro ⟨⟨h1, h2⟩, h3⟩; exact ⟨by omega, by omega, h3⟩

mutual
theorem refFit_eq (c : Codex) : ∀ e : Ex, refFit c e = exAll (nodeR c) e
  | .mk op n u den ps ks => by simp only [refFit, exAll, refFits_eq' c ks]
theorem refFits_eq' (c : Codex) : ∀ ks : List Ex, refFits c ks = exsAll (nodeR c) ks
  | [] => rfl
  | k :: r => by simp only [refFits, exsAll, refFit_eq c k, refFits_eq' c r]
end

theorem unitOK_T : unitOK tT = true := by decide
theorem unitOK_N : unitOK tN = true := by decide
theorem unitOK_cur {u : ByteArray} (h : curOK u = true) : unitOK u = true := by simp [unitOK, h]

structure CodexRel (c : Codex) (m : List (Int × Int)) : Prop where
  facts : ∀ d ∈ c.facts, unitOK d.unit = true
  lines : ∀ d ∈ c.lines, unitOK d.unit = true
  look : ∀ n, alook n m = fl n c.arts
  line : ∀ a ∈ c.arts, 0 ≤ a.line ∧ a.line < c.lines.length

theorem unitAt_unit {l : List Decl} (h : ∀ d ∈ l, unitOK d.unit = true) {i : Int} {u : ByteArray} (hu : unitAt l i u = true) : unitOK u = true := by
  unfold unitAt at hu
  split at hu
  · rename_i d hd
    have := of_decide_eq_true hu
    subst this
    exact h d (List.mem_of_getElem? hd)
  · cases hu

theorem leaf_eq {c : Codex} {m : List (Int × Int)} (H : CodexRel c m) (op n : Int) (u : ByteArray) (hop : 1 ≤ op ∧ op ≤ 4) (hu : unitOK u = true) : leafOK c.facts c.lines m op n u = refLeaf c op n u := by
  have hc : op = 1 ∨ op = 2 ∨ op = 3 ∨ op = 4 := by omega
  rcases hc with rfl | rfl | rfl | rfl
  · simp [leafOK, refLeaf, hu]
  · simp [leafOK, refLeaf]
  · simp only [leafOK, refLeaf]
    simp only [show ¬ (3 : Int) = 1 by omega, show ¬ (3 : Int) = 2 by omega, if_false, if_true]
    rw [H.look n]
    rcases fl_artIx n c.arts 0 with ⟨h1, h2⟩ | ⟨h1, a, h2, h3, h4⟩
    · rw [h2, h1]
      cases c.arts[((-1 : Int)).toNat]? <;> simp
    · rw [Nat.sub_zero] at h2
      rw [h4, h2]
      obtain ⟨g1, g2⟩ := H.line a (List.mem_of_getElem? h2)
      simp only [decide_eq_true (show (0 : Int) ≤ artIx n c.arts 0 by omega), decide_eq_true g1, decide_eq_true g2, Bool.true_and]
  · simp [leafOK, refLeaf]

theorem refLeaf_unit {c : Codex} {m : List (Int × Int)} (H : CodexRel c m) {op n : Int} {u : ByteArray} (h : refLeaf c op n u = true) : unitOK u = true := by
  simp only [refLeaf] at h
  split at h
  · simp only [Bool.and_eq_true] at h; exact h.1.1.1
  · split at h
    · simp only [Bool.and_eq_true] at h; exact unitAt_unit H.facts h.2
    · split at h
      · split at h
        · simp only [Bool.and_eq_true] at h; exact unitAt_unit H.lines h.2
        · cases h
      · split at h
        · simp only [Bool.and_eq_true, decide_eq_true_eq] at h
          rw [h.2]; exact unitOK_N
        · cases h

theorem opOK_unit {op : Int} {u : ByteArray} {f l : Ex} {len : Int} {s : Bool} (hf : unitOK f.unit = true) (hl : unitOK l.unit = true) (h : opOK op u f l len s = true) : unitOK u = true := by
  have eT : u = tT → unitOK u = true := fun e => by rw [e]; exact unitOK_T
  have eF : u = f.unit → unitOK u = true := fun e => by rw [e]; exact hf
  have eL : u = l.unit → unitOK u = true := fun e => by rw [e]; exact hl
  simp only [opOK] at h
  split at h
  · simp only [Bool.and_eq_true, decide_eq_true_eq] at h; exact eT h.1.2
  split at h
  · simp only [Bool.and_eq_true, decide_eq_true_eq] at h; exact eT h.1.1.2
  split at h
  · simp only [Bool.and_eq_true, decide_eq_true_eq] at h; exact eT h.1.2
  split at h
  · simp only [Bool.and_eq_true, decide_eq_true_eq] at h; exact eT h.1.2
  split at h
  · simp only [Bool.and_eq_true, decide_eq_true_eq] at h; exact eF h.2
  split at h
  · simp only [Bool.and_eq_true, decide_eq_true_eq] at h; exact eF h.2
  split at h
  · simp only [Bool.and_eq_true, decide_eq_true_eq] at h
    have := h.2
    split at this
    · exact eL this
    · exact eF this
  split at h
  · simp only [Bool.and_eq_true, decide_eq_true_eq] at h; exact eF h.2
  split at h
  · simp only [Bool.and_eq_true, decide_eq_true_eq] at h; exact eL h.2
  · cases h

theorem node_eq {c : Codex} {m : List (Int × Int)} (H : CodexRel c m) (op n : Int) (u : ByteArray) (den : Int) (ps : List Piece) (ks : List Ex) (hk : ∀ k ∈ ks, unitOK k.unit = true) :
    nodeU c m op n u den ps ks = nodeR c op n u den ps ks := by
  have hunit : nodeR c op n u den ps ks = true → unitOK u = true := by
    intro h
    simp only [nodeR] at h
    split at h
    · simp only [Bool.and_eq_true] at h; exact unitOK_cur h.1.1.2
    split at h
    · cases h
    split at h
    · simp only [Bool.and_eq_true] at h; exact refLeaf_unit H h.2
    · simp only [Bool.and_eq_true] at h
      have h2 := h.2
      split at h2
      · rename_i f l hf hl
        exact opOK_unit (hk f (List.mem_of_mem_head? hf)) (hk l (List.mem_of_getLast? hl)) h2
      · cases h2
  cases hu : unitOK u with
  | false =>
    cases hn : nodeR c op n u den ps ks with
    | false => simp [nodeU, hu]
    | true => rw [hunit hn] at hu; cases hu
  | true =>
    simp only [nodeU, hu, Bool.true_and, nodeOK, nodeR]
    split
    · rfl
    split
    · rfl
    split
    · rename_i h4
      rw [leaf_eq H op n u h4 hu]
    · rfl

theorem all_eq {c : Codex} {m : List (Int × Int)} (H : CodexRel c m) (N : Nat) :
    (∀ e : Ex, SizeOf.sizeOf e < N → exAll (nodeU c m) e = exAll (nodeR c) e ∧ (exAll (nodeU c m) e = true → unitOK e.unit = true)) ∧
    (∀ ks : List Ex, SizeOf.sizeOf ks < N → exsAll (nodeU c m) ks = exsAll (nodeR c) ks ∧ (exsAll (nodeU c m) ks = true → ∀ k ∈ ks, unitOK k.unit = true)) := by
  induction N with
  | zero => exact ⟨fun e h => by omega, fun e h => by omega⟩
  | succ N ih =>
    refine ⟨fun e he => ?_, fun ks hk => ?_⟩
    · obtain ⟨op, n, u, den, ps, ks⟩ := e
      simp only [Ex.mk.sizeOf_spec] at he
      obtain ⟨h1, h2⟩ := ih.2 ks (by omega)
      simp only [exAll]
      rw [← h1]
      cases hk : exsAll (nodeU c m) ks with
      | false => simp
      | true =>
        rw [node_eq H op n u den ps ks (h2 hk)]
        refine ⟨rfl, fun h => ?_⟩
        rw [← node_eq H op n u den ps ks (h2 hk)] at h
        simp only [nodeU, Bool.true_and, Bool.and_eq_true] at h
        exact h.1
    · cases ks with
      | nil => exact ⟨rfl, fun _ k hk => by cases hk⟩
      | cons k r =>
        simp only [List.cons.sizeOf_spec] at hk
        obtain ⟨a1, a2⟩ := ih.1 k (by omega)
        obtain ⟨b1, b2⟩ := ih.2 r (by omega)
        simp only [exsAll]
        rw [← a1, ← b1]
        refine ⟨rfl, fun h x hx => ?_⟩
        simp only [Bool.and_eq_true] at h
        rcases List.mem_cons.1 hx with rfl | hx
        · exact a2 h.1
        · exact b2 h.2 x hx

theorem fits_eq {c : Codex} {m : List (Int × Int)} (H : CodexRel c m) (e : Ex) : (fitRun c m e 1 0).1 = refFitsOK c e := by
  rw [fitRun_eq, refFitsOK, refFit_eq, ((all_eq H (SizeOf.sizeOf e + 1)).1 e (by omega)).1]

theorem whole_eq {c : Codex} {m : List (Int × Int)} (H : CodexRel c m) (e : Ex) (u : ByteArray) : (wholeRun c m e u).1 = (refFitsOK c e && decide (e.unit = u)) := by
  unfold wholeRun
  split
  · rename_i h; rw [fits_eq H, decide_eq_true h, Bool.and_true]
  · rename_i h; rw [decide_eq_false h, Bool.and_false]

theorem declsOK_units {lo hi : Int} {l : List Decl} (h : declsOK lo hi l = true) : ∀ d ∈ l, unitOK d.unit = true := by
  intro d hd
  simp only [declsOK, Bool.and_eq_true, List.all_eq_true] at h
  have := h.1 d hd
  simp only [declOne, Bool.and_eq_true] at this
  exact this.1.2

theorem refOK_eq (c : Codex) : refOK c = codexOK c := by
  cases hd1 : declsOK 0 0 c.facts with
  | false => simp [refOK, codexOK, hd1]
  | true =>
  cases hd2 : declsOK 1 4 c.lines with
  | false => simp [refOK, codexOK, hd2]
  | true =>
  by_cases hz : c.facts.length ≤ 32 ∧ c.lines.length ≤ 32 ∧ c.arts.length ≤ 60
  rotate_left
  · have e1 : refOK c = false := by
      cases h : refOK c with
      | false => rfl
      | true => simp only [refOK, Bool.and_eq_true, decide_eq_true_eq] at h; exact absurd ⟨h.1.1.1.2, h.1.1.2.2, h.1.2⟩ hz
    have e2 : codexOK c = false := by
      cases h : codexOK c with
      | false => rfl
      | true => simp only [codexOK, Bool.and_eq_true, decide_eq_true_eq] at h; exact absurd ⟨h.1.1.1.1.1, h.1.1.1.1.2, h.1.1.1.2⟩ hz
    rw [e1, e2]
  have e1 : refOK c = c.arts.all (refArtOK c) := by simp [refOK, hd1, hd2, hz]
  have e2 : codexOK c = (match linesGo c.lines.length c.arts [] with | some m => c.arts.all (artOK c m) | none => false) := by
    simp only [codexOK, hd1, hd2, hz.1, hz.2.1, hz.2.2, decide_true, Bool.true_and]
    rfl
  rw [e1, e2]
  have hfirst : ∀ a ∈ c.arts, fl a.number c.arts = some (firstLine c a.number) := by
    intro a ha
    rcases fl_artIx a.number c.arts 0 with ⟨h1, h2⟩ | ⟨h1, x, h2, h3, h4⟩
    · exact absurd rfl ((artIx_some a.number c.arts 0).1 h1 a ha)
    · rw [Nat.sub_zero] at h2
      rw [h4]
      simp only [firstLine, h2]
  cases hg : linesGo c.lines.length c.arts [] with
  | some m =>
    obtain ⟨g1, g2⟩ := linesGo_ok _ _ _ _ hg
    have hrel : CodexRel c m := ⟨declsOK_units hd1, declsOK_units hd2, fun n => by rw [g1 n]; rfl, fun a ha => ⟨(g2 a ha).1.2.2.1, (g2 a ha).1.2.2.2⟩⟩
    simp only
    rw [Bool.eq_iff_iff, List.all_eq_true, List.all_eq_true]
    have key : ∀ a ∈ c.arts, refArtOK c a = artOK c m a := by
      intro a ha
      obtain ⟨⟨b1, b2, b3, b4⟩, b5⟩ := g2 a ha
      have hl : a.line = firstLine c a.number := by
        have := hfirst a ha
        rw [g1] at b5
        simp only [alook, Option.none_or] at b5
        rw [b5] at this
        simpa using this
      simp only [refArtOK, artOK]
      rw [decide_eq_true ⟨b1, b2, b3, b4, hl⟩, Bool.true_and]
      have hu : a.unless_.all (fun n => decide (0 ≤ artIx n c.arts 0)) = a.unless_.all (fun n => (alook n m).isSome) := by
        congr 1
        funext n
        rw [g1 n]
        rcases fl_artIx n c.arts 0 with ⟨h1, h2⟩ | ⟨h1, x, h2, h3, h4⟩
        · rw [h1, h2]; rfl
        · rw [h4, decide_eq_true (by omega)]; rfl
      have hw : a.when_.all (fun e => refFitsOK c e && decide (e.unit = tT)) = a.when_.all (fun e => (wholeRun c m e tT).1) := by
        congr 1
        funext e
        rw [whole_eq hrel]
      rw [hu, hw, whole_eq hrel]
      cases artHead a <;> simp [Bool.and_comm, Bool.and_left_comm, Bool.and_assoc]
    constructor
    · intro h a ha; rw [← key a ha]; exact h a ha
    · intro h a ha; rw [key a ha]; exact h a ha
  | none =>
    simp only
    cases h : c.arts.all (refArtOK c) with
    | false => rfl
    | true =>
      exfalso
      rw [List.all_eq_true] at h
      obtain ⟨m, hm⟩ := linesGo_some c.lines.length c.arts [] (fun a ha => by
        have := h a ha
        simp only [refArtOK, Bool.and_eq_true, decide_eq_true_eq] at this
        obtain ⟨⟨⟨⟨⟨t1, t2, t3, t4, t5⟩, _⟩, _⟩, _⟩, _⟩ := this
        refine ⟨⟨t1, t2, t3, t4⟩, ?_⟩
        simp only [alook, Option.none_or]
        rw [hfirst a ha, ← t5])
      rw [hm] at hg
      cases hg
end Go.Proofs.YthmkdghoaifkbaaGreatDoor

/- What is in force: plain facts. -/
namespace Go.Proofs.YthmkdghoaifkbaaGreatDoor
open Go Go.Sh
set_option maxRecDepth 10000
set_option maxHeartbeats 2000000

theorem verLoop_from (n day k : Int) : ∀ (l : List Article) (i : Nat) (found : Option (Nat × Int)) (j : Nat) (kn : Int), verLoop n day k l i found = some (j, kn) →
    found = some (j, kn) ∨ (i ≤ j ∧ ∃ a, l[j - i]? = some a ∧ live n day k a = true)
  | [], i, found, j, kn, h => .inl h
  | a :: r, i, found, j, kn, h => by
    simp only [verLoop] at h
    rcases verLoop_from n day k r (i + 1) _ j kn h with h1 | ⟨h1, x, h2, h3⟩
    · have hs : found = some (j, kn) ∨ (j = i ∧ live n day k a = true) := by
        cases found with
        | none =>
          simp only [verStep] at h1
          split at h1
          · rename_i hl; cases h1; exact .inr ⟨rfl, hl⟩
          · cases h1
        | some x =>
          obtain ⟨j', k'⟩ := x
          simp only [verStep] at h1
          split at h1
          · rename_i hl; cases h1; simp only [Bool.and_eq_true] at hl; exact .inr ⟨rfl, hl.1⟩
          · exact .inl h1
      rcases hs with hs | ⟨rfl, hs⟩
      · exact .inl hs
      · exact .inr ⟨Nat.le_refl _, a, by simp, hs⟩
    · right
      refine ⟨by omega, x, ?_, h3⟩
      rw [show j - i = (j - (i + 1)) + 1 by omega]
      simpa using h2

theorem version_some {arts : List Article} {n day k : Int} {i : Nat} (h : version arts n day k = some i) : ∃ a, arts[i]? = some a ∧ a.number = n ∧ a.lo ≤ day ∧ day < a.hi ∧ a.known ≤ k := by
  simp only [version, Option.map_eq_some_iff] at h
  obtain ⟨⟨j, kn⟩, h1, rfl⟩ := h
  rcases verLoop_from n day k arts 0 none j kn h1 with h2 | ⟨_, a, h2, h3⟩
  · cases h2
  · simp only [live, decide_eq_true_eq] at h3
    exact ⟨a, by simpa using h2, h3⟩

def numAt (arts : List Article) (i : Int) : Option Int := (arts[i.toNat]?).map (·.number)

theorem forceGo_mem (arts : List Article) (day k : Int) : ∀ (l : List Article) (m : List (Int × Bool)) (vs : List Int) (x : Int),
    x ∈ forceGo arts day k l m vs ↔ x ∈ vs ∨ ∃ a ∈ l, alook a.number m = none ∧ ∃ i : Nat, version arts a.number day k = some i ∧ x = i
  | [], m, vs, x => by simp [forceGo]
  | a :: r, m, vs, x => by
    simp only [forceGo]
    cases hl : alook a.number m with
    | some b =>
      simp only [Option.isSome_some, if_true]
      rw [forceGo_mem arts day k r m vs x]
      constructor
      · rintro (h | ⟨b, h1, h2, h3⟩)
        · exact .inl h
        · exact .inr ⟨b, by simp [h1], h2, h3⟩
      · rintro (h | ⟨b, h1, h2, h3⟩)
        · exact .inl h
        · rcases List.mem_cons.1 h1 with rfl | h1
          · rw [hl] at h2; cases h2
          · exact .inr ⟨b, h1, h2, h3⟩
    | none =>
      simp only [Option.isSome_none, Bool.false_eq_true, if_false]
      rw [forceGo_mem arts day k r _ _ x]
      have hk : ∀ n, alook n (ains a.number true m) = none ↔ n ≠ a.number ∧ alook n m = none := by
        intro n
        rw [alook_ains]
        by_cases e : n = a.number
        · simp [e]
        · rw [if_neg (by simpa using e)]; simp [e]
      constructor
      · rintro (h | ⟨b, h1, h2, h3⟩)
        · cases hv : version arts a.number day k with
          | none => rw [hv] at h; exact .inl h
          | some i =>
            rw [hv] at h
            simp only [List.mem_append, List.mem_singleton] at h
            rcases h with h | h
            · exact .inl h
            · exact .inr ⟨a, by simp, hl, i, hv, h⟩
        · exact .inr ⟨b, by simp [h1], ((hk _).1 h2).2, h3⟩
      · rintro (h | ⟨b, h1, h2, i, h3, h4⟩)
        · left
          split
          · simp [h]
          · exact h
        · by_cases e : b.number = a.number
          · left
            rw [← e, h3]
            simp [h4]
          · rcases List.mem_cons.1 h1 with rfl | h1
            · exact absurd rfl e
            · exact .inr ⟨b, h1, (hk _).2 ⟨e, h2⟩, i, h3, h4⟩

theorem forceGo_nums (arts : List Article) (day k : Int) : ∀ (l : List Article) (m : List (Int × Bool)) (vs : List Int), (vs.map (numAt arts)).Nodup → (∀ x ∈ vs, ∃ n, numAt arts x = some n ∧ alook n m ≠ none) →
    ((forceGo arts day k l m vs).map (numAt arts)).Nodup
  | [], m, vs, h, _ => h
  | a :: r, m, vs, h, h2 => by
    simp only [forceGo]
    split
    · exact forceGo_nums arts day k r m vs h h2
    · rename_i hn
      have hn' : alook a.number m = none := by
        cases hl : alook a.number m with
        | none => rfl
        | some b => simp [hl] at hn
      have keep : ∀ n, alook n m ≠ none → alook n (ains a.number true m) ≠ none := fun n hnn => by
        rw [alook_ains]
        split
        · simp
        · exact hnn
      cases hv : version arts a.number day k with
      | none => exact forceGo_nums arts day k r _ vs h (fun x hx => by obtain ⟨n, g1, g2⟩ := h2 x hx; exact ⟨n, g1, keep n g2⟩)
      | some i =>
        obtain ⟨b, hb1, hb2, _⟩ := version_some hv
        have hnum : numAt arts (i : Int) = some a.number := by simp [numAt, hb1, hb2]
        refine forceGo_nums arts day k r _ _ ?_ ?_
        · rw [List.map_append, List.nodup_append]
          refine ⟨h, by simp, ?_⟩
          intro x hx y hy
          simp only [List.map_cons, List.map_nil, List.mem_singleton] at hy
          subst hy
          obtain ⟨z, hz1, hz2⟩ := List.mem_map.1 hx
          obtain ⟨n, g1, g2⟩ := h2 z hz1
          rw [hnum, ← hz2, g1]
          intro e
          cases e
          exact g2 hn'
        · intro x hx
          simp only [List.mem_append, List.mem_singleton] at hx
          rcases hx with hx | rfl
          · obtain ⟨n, g1, g2⟩ := h2 x hx
            exact ⟨n, g1, keep n g2⟩
          · exact ⟨a.number, hnum, by rw [alook_ains]; simp⟩

theorem inForce_mem (arts : List Article) (day k x : Int) : x ∈ inForce arts day k ↔ ∃ a ∈ arts, ∃ i : Nat, version arts a.number day k = some i ∧ x = i := by
  rw [inForce, List.mem_mergeSort, forceGo_mem]
  simp [alook]
theorem inForce_nums (arts : List Article) (day k : Int) : ((inForce arts day k).map (numAt arts)).Nodup := by
  have h1 := forceGo_nums arts day k arts [] [] (by simp) (by simp)
  have h2 := (List.mergeSort_perm (forceGo arts day k arts [] []) (fun x y => decide (x ≤ y))).map (numAt arts)
  exact h2.nodup_iff.2 h1
theorem inForce_at {arts : List Article} {day k x : Int} (h : x ∈ inForce arts day k) : ∃ i : Nat, x = i ∧ ∃ a, arts[i]? = some a ∧ a.lo ≤ day ∧ day < a.hi ∧ a.known ≤ k ∧ version arts a.number day k = some i := by
  obtain ⟨b, _, i, h1, h2⟩ := (inForce_mem arts day k x).1 h
  obtain ⟨a, g1, g2, g3, g4, g5⟩ := version_some h1
  exact ⟨i, h2, a, g1, g3, g4, g5, by rw [g2]; exact h1⟩
theorem inForce_sorted (arts : List Article) (day k : Int) : (inForce arts day k).Pairwise (· < ·) := by
  have h1 : (inForce arts day k).Pairwise (fun x y => decide (x ≤ y) = true) :=
    List.pairwise_mergeSort (fun a b c h1 h2 => by simp only [decide_eq_true_eq] at *; omega) (fun a b => by simp only [Bool.or_eq_true, decide_eq_true_eq]; omega) _
  have h2 : (inForce arts day k).Nodup := by
    have := inForce_nums arts day k
    exact (List.pairwise_map.1 this).imp (fun h e => h (congrArg _ e))
  exact (h1.and h2).imp (fun {a b} ⟨h, hne⟩ => by
    have := of_decide_eq_true h
    have : a ≠ b := hne
    omega)
theorem inForce_has {arts : List Article} {day k : Int} {a : Article} (ha : a ∈ arts) {i : Nat} (h : version arts a.number day k = some i) : (i : Int) ∈ inForce arts day k := (inForce_mem arts day k i).2 ⟨a, ha, i, h, rfl⟩
end Go.Proofs.YthmkdghoaifkbaaGreatDoor

/- Stores with fewer facts: plain facts about views. -/
namespace Go.Proofs.YthmkdghoaifkbaaGreatDoor
open Go Go.Sh
set_option maxRecDepth 10000
set_option maxHeartbeats 2000000

theorem lastHit_snd (q : Fact → Bool) : ∀ (l : List Fact) (i : Nat), (lastHit q i l).map (·.2) = (l.filter q).getLast?
  | [], i => rfl
  | f :: r, i => by
    have ih := lastHit_snd q r (i + 1)
    simp only [lastHit]
    cases h : lastHit q (i + 1) r with
    | some x =>
      rw [h] at ih
      simp only [Option.map_some] at ih ⊢
      by_cases hq : q f = true
      · rw [List.filter_cons_of_pos hq, List.getLast?_cons, ← ih]; rfl
      · rw [List.filter_cons_of_neg hq, ih]
    | none =>
      rw [h] at ih
      simp only [Option.map_none] at ih
      have hn : r.filter q = [] := List.getLast?_eq_none_iff.1 ih.symm
      by_cases hq : q f = true
      · rw [List.filter_cons_of_pos hq, hn]; simp [hq]
      · rw [List.filter_cons_of_neg hq, hn]; simp [hq]

/-- what a view takes from a store -/
theorem usable_last (c : Codex) (l : List Fact) (p : ByteArray) (k day : Int) (d : Decl) :
    usableOf c l p k day d = match (l.filter (hit p d.name day k)).getLast? with
      | none => (0, false)
      | some f => if f.gone = true ∨ (d.unit = tT ∧ f.value ≠ 0 ∧ f.value ≠ 1) then (0, false) else (f.value, true) := by
  rw [← lastHit_snd _ l 0]
  unfold usableOf look
  cases lastHit (hit p d.name day k) 0 l with
  | none => simp
  | some x =>
    obtain ⟨i, f⟩ := x
    simp only [Option.map_some]
    cases hg : f.gone with
    | true => simp
    | false => simp

theorem usable_congr {c : Codex} {l l' : List Fact} {p p' : ByteArray} {k k' day : Int} {d : Decl} (h : l.filter (hit p d.name day k) = l'.filter (hit p' d.name day k')) : usableOf c l p k day d = usableOf c l' p' k' day d := by
  rw [usable_last, usable_last, h]

theorem viewOf_congr {c : Codex} {l l' : List Fact} {p : ByteArray} {k day : Int} (h : ∀ name, l.filter (hit p name day k) = l'.filter (hit p name day k)) : viewOf c l p k day = viewOf c l' p k day := by
  have : (fun d => usableOf c l p k day d) = fun d => usableOf c l' p k day d := funext fun d => usable_congr (h d.name)
  have h1 : ∀ d, usableOf c l p k day d = usableOf c l' p k day d := fun d => congrFun this d
  simp only [viewOf, h1]

theorem factsOK_sub (q : Fact → Bool) : ∀ (l : List Fact) (o o' : Option Int), factsOK o l = true → (∀ a, o' = some a → ∃ b, o = some b ∧ a ≤ b) → factsOK o' (l.filter q) = true
  | [], o, o', _, _ => by cases o' <;> rfl
  | f :: r, o, o', h, ho => by
    have hf : formed f = true ∧ factsOK (some f.known) r = true ∧ ∀ a, o' = some a → a ≤ f.known := by
      cases o with
      | none =>
        simp only [factsOK, Bool.and_eq_true] at h
        refine ⟨h.1, h.2, fun a ha => ?_⟩
        obtain ⟨b, hb, _⟩ := ho a ha
        cases hb
      | some k =>
        simp only [factsOK, Bool.and_eq_true, decide_eq_true_eq] at h
        refine ⟨h.1.1, h.2, fun a ha => ?_⟩
        obtain ⟨b, hb, hab⟩ := ho a ha
        cases hb
        omega
    obtain ⟨h1, h2, h3⟩ := hf
    by_cases hq : q f = true
    · rw [List.filter_cons_of_pos hq]
      have ih := factsOK_sub q r (some f.known) (some f.known) h2 (fun a ha => by cases ha; exact ⟨_, rfl, Int.le_refl _⟩)
      cases o' with
      | none => simp only [factsOK, h1, ih, Bool.and_self]
      | some a => simp only [factsOK, h1, ih, decide_eq_true (h3 a rfl), Bool.and_self]
    · rw [List.filter_cons_of_neg hq]
      exact factsOK_sub q r (some f.known) o' h2 (fun a ha => ⟨_, rfl, h3 a ha⟩)
theorem storeOK_sub (q : Fact → Bool) {l : List Fact} (h : storeOK l = true) : storeOK (l.filter q) = true := by
  simp only [storeOK, Bool.and_eq_true, decide_eq_true_eq] at h ⊢
  exact ⟨Nat.le_trans (List.length_filter_le _ _) h.1, factsOK_sub q l none none h.2 (fun a ha => by cases ha)⟩

def ownFacts (p : ByteArray) (l : List Fact) : List Fact := l.filter fun f => decide (f.person = p)
theorem own_hits (p name : ByteArray) (day k : Int) (l : List Fact) : (ownFacts p l).filter (hit p name day k) = l.filter (hit p name day k) := by
  rw [ownFacts, List.filter_filter]
  congr 1
  funext f
  by_cases h : f.person = p
  · simp [h]
  · simp [h, hit]
theorem own_others {p q : ByteArray} (hpq : ¬ p = q) (name : ByteArray) (day k : Int) (l : List Fact) : (ownFacts p l).filter (hit q name day k) = [] := by
  rw [ownFacts, List.filter_filter, List.filter_eq_nil_iff]
  intro f _
  by_cases h : f.person = p
  · have : ¬ f.person = q := fun e => hpq (h.symm.trans e)
    simp [hit, this]
  · simp [h]
theorem own_view (c : Codex) (p : ByteArray) (k day : Int) (l : List Fact) : viewOf c (ownFacts p l) p k day = viewOf c l p k day := viewOf_congr fun name => own_hits p name day k l
theorem own_other_has {c : Codex} {p q : ByteArray} (hpq : ¬ p = q) (k day : Int) (l : List Fact) : ∀ b ∈ (viewOf c (ownFacts p l) q k day).has, b = false := by
  intro b hb
  simp only [viewOf, List.mem_map] at hb
  obtain ⟨d, _, rfl⟩ := hb
  rw [usable_last, own_others hpq]
  rfl

/-- the facts known by a day -/
def earlyFacts (k : Int) (l : List Fact) : List Fact := l.filter fun f => decide (f.known ≤ k)
theorem early_hits (p name : ByteArray) (day k : Int) (l : List Fact) : (earlyFacts k l).filter (hit p name day k) = l.filter (hit p name day k) := by
  rw [earlyFacts, List.filter_filter]
  congr 1
  funext f
  by_cases h : f.known ≤ k
  · simp [h]
  · simp [h, hit]
theorem early_view (c : Codex) (p : ByteArray) (k day : Int) (l : List Fact) : viewOf c (earlyFacts k l) p k day = viewOf c l p k day := viewOf_congr fun name => early_hits p name day k l
theorem later_fact_hits (p name : ByteArray) (day k : Int) (l : List Fact) (f : Fact) (h : k < f.known) : (l ++ [f]).filter (hit p name day k) = l.filter (hit p name day k) := by
  rw [List.filter_append]
  have : hit p name day k f = false := by
    simp only [hit]
    exact decide_eq_false (fun hc => by omega)
  simp [this]
theorem later_fact_view (c : Codex) (p : ByteArray) (k day : Int) (l : List Fact) (f : Fact) (h : k < f.known) : viewOf c (l ++ [f]) p k day = viewOf c l p k day := viewOf_congr fun name => later_fact_hits p name day k l f h
end Go.Proofs.YthmkdghoaifkbaaGreatDoor

/- The shadow machine, part 32: writes to maps in an open order. -/
namespace Go.Sh
section
variable {P : Program} {G : List (Nat × D)} {fn : Func} {rd : Bool} {E : En P G fn rd} {t : List (Nat × SV)} {K : List SObj} {k : List Item} {m : Nat} {all : Array Oper} {rest : List Oper} {done : List Eff} {o : Oper}

theorem swe_setI {α : Type} {ty kt et b : Nat} {x ix : Operand} {kk : IntKind} {i : Int} {l : List (Int × α)} (f : α → SV) {vx : Operand} (v : α) (hop : o.op = .mapUpdate ty x ix vx) (hw : swant all t o.guard = some true) (hd : dstOK fn.ntmps o.dst = true)
    (hx : evalS G t x = .map b) (hi : evalS G t ix = .imm (.val (.int kk i))) (hv : evalS G t vx = f v) (hu : P.underlying ty = some (.map kt et)) (hk : P.underlying kt = some (.int kk))
    (hm : m ≤ K.length) (hb : K[b]? = some (.mapI kk (encM f l)))
    (h : SWe E m all rest k (tput t o.dst .any) (K.set b (.mapI kk (encM f (ains i v l)))) (done ++ [⟨.any, [b], some (b, .mapI kk (encM f (ains i v l)))⟩])) : SWe E m all (o :: rest) k t K done :=
  swe_op ⟨.any, [b], some (b, .mapI kk (encM f (ains i v l)))⟩ hw hd hm (fun K' _ hag => by
    have hb' : K'[b]? = some (.mapI kk (encM f l)) := by rw [hag b (.inl (by simp))]; exact hb
    rw [hop]
    simp [sop, smapSet, hu, hk, hx, hi, hb', hv, aset_enc, setw]) h

variable {H : List SObj}
/-- A nil slice in a box that is going to be appended to. -/
theorem sw_tokCell (b0 j kk : Nat) {cs : List SV} (hb : H[b0]? = some (.cells cs)) (hj : cs[j]? = some (.imm (.val (.slice none 0 0)))) (h : SW E k t (H.set b0 (.cells (cs.set j (.asl H.length kk []))) ++ [.tok kk 0])) : SW E k t H := by
  refine ⟨fun a w I β cs' hs => ?_⟩
  have hbl := lt_of_getElem? hb
  have hp := hs.heap.push (o := .tok kk 0) (x := .tok (.slice none 0 0)) (.inl ⟨rfl, rfl⟩) (fun b c hc => by cases hc)
  have he : Ext H.length w I β H w I (β ++ [.tok (.slice none 0 0)]) (H ++ [.tok kk 0]) := .push hs.heap (fun c hc => by cases hc)
  obtain ⟨x, hx⟩ : ∃ x, β[b0]? = some x := ⟨β[b0]'(by rw [hs.heap.len]; exact hbl), List.getElem?_eq_getElem _⟩
  have hob := hp.obj b0 (.cells cs) x (by rw [List.getElem?_append_left hbl]; exact hb) (by rw [List.getElem?_append_left (lt_of_getElem? hx)]; exact hx)
  cases x with
  | tok u => exact hob.elim
  | blk c =>
  obtain ⟨vs, T, a1, a2, a3, a4⟩ := hob
  have hnew : ObjOK w I (β ++ [.tok (.slice none 0 0)]) (.cells (cs.set j (.asl H.length kk []))) (.blk c) := by
    refine ⟨vs, T, a1, by simpa using a2, fun q hq hq' => ?_, a4⟩
    by_cases e : j = q
    · subst e
      have hq2 : j < cs.length := by simpa using hq
      have hr := a3 j hq2 hq'
      have : cs[j] = .imm (.val (.slice none 0 0)) := by simpa [List.getElem?_eq_getElem hq2] using hj
      rw [this] at hr
      simp only [List.getElem_set_self]
      generalize vs[j] = v at hr
      cases hr with | imm hr =>
      cases hr with | val _ =>
      exact .asl H.length kk [] _ _ 0 (.islNil kk) (by rw [← hs.heap.len]; simp) ⟨_, _, rfl⟩ (Nat.le_refl _) (fun _ => rfl)
    · rw [List.getElem_set_ne e]
      exact a3 q (by simpa using hq) hq'
  obtain ⟨g1, g2⟩ := hp.changeB (m := H.length) (w' := w) (b := b0) (o := .cells cs) (o' := .cells (cs.set j (.asl H.length kk []))) (x := .blk c) (by rw [List.getElem?_append_left hbl]; exact hb) (by simp) (by rw [List.getElem?_append_left (lt_of_getElem? hx)]; exact hx) rfl (fun _ _ => rfl) rfl a4 hnew
  rw [List.set_append_left _ _ hbl] at g1 g2
  have hE := he.trans g2
  exact h.run a w I _ cs' ⟨g1, fun n => (hs.tmps n).ext (by rw [hs.heap.len]; exact hE), hs.size, hs.defers.ext hE, hs.ext.trans (hE.weaken hs.hlen), by have := hs.hlen; simp; omega⟩
end
end Go.Sh

/- The law ViewArticles: what it computes. -/
namespace Go.Proofs.YthmkdghoaifkbaaGreatDoor
open Go Go.Sh
set_option maxRecDepth 10000
set_option maxHeartbeats 4000000

abbrev artRow (a : Article) (op n : Int) (u : ByteArray) (den : Int) (ps : List Piece) (ks : List Ex) : List D :=
  [dI a.number, dI a.line, dI a.rank, dI a.lo, dI a.hi, dI a.known, dExprs a.when_, dInts a.unless_, dI op, dI n, dS u, dI den, .isl 3 (ps.map Piece.cells), .isl 6 (exprRows ks)]
theorem artRow_at {c : Codex} {i : Nat} {a : Article} (h : c.arts[i]? = some a) : ∃ op n u den ps ks, (c.arts.map Article.cells)[i]? = some (artRow a op n u den ps ks) := by
  obtain ⟨op, n, u, den, ps, ks, ham⟩ : ∃ op n u den ps ks, a.amount = .mk op n u den ps ks := by cases h : a.amount; exact ⟨_, _, _, _, _, _, rfl⟩
  exact ⟨op, n, u, den, ps, ks, by simp [h, Article.cells, ham, exprRows_eq, Ex.op, Ex.n, Ex.unit, Ex.den, Ex.pieces, Ex.kids]⟩

theorem viewArticlesLaw_spec (c : Codex) (l : List Fact) (p : ByteArray) (day k : Int) (hc : Codex.ok c) (hl : storeGo l) :
    SPure Tryz.prog G0 4 [c.sv, storeSV l, sS p, sI day, sI k] (sB true) := by
  refine spure_enter Tryz.func4 rfl (by rw [Tryz.ntmps4]; simp) rfl rfl ?_; intro E hH hK
  have hla : (c.arts.map Article.cells).length = c.arts.length := by simp
  (refine sgo_sound [] 1000 ?_; conv => whnf)
  refine swr_pure rfl rfl rfl rfl rfl rfl  head_spec ?_
  (refine sgor_sound [] 1000 ?_; conv => whnf)
  refine swr_pure rfl rfl rfl rfl rfl rfl  (viewAt_spec G0 c l p day k (codexFit hc)) ?_
  rcases viewAt_two c l p day k with he | he
  · obtain ⟨hv, hr, hd⟩ := viewAt_ok he
    rw [show errSV (viewAt c l p day k).1.sv (viewAt c l p day k).2 = errSV (viewOf c l p k day).sv 0 by rw [hv]]
    have hVa : (viewOf c l p k day).arts = inForce c.arts day k := rfl
    generalize viewOf c l p k day = V at hVa ⊢
    obtain ⟨hz1, hz2, hz3⟩ := readerOK_len hr
    (refine sgor_sound [] 1000 ?_; conv => whnf)
    refine swr_pure rfl rfl rfl rfl rfl rfl  (lawValid_spec G0 c l (storeFit hl)) ?_
    cases hval : validOK c l with
    | false =>
      (refine sgor_sound [] 1000 ?_; conv => whnf)
      exact hK _
    | true =>
      have hvl : (V.arts.map fun n => [dI n]).length = V.arts.length := by simp
      have hsort : V.arts.Pairwise (· < ·) := by rw [hVa]; exact inForce_sorted _ _ _
      have hnod : (V.arts.map (numAt c.arts)).Nodup := by rw [hVa]; exact inForce_nums _ _ _
      have hat : ∀ x ∈ V.arts, ∃ i : Nat, x = i ∧ ∃ a, c.arts[i]? = some a ∧ a.lo ≤ day ∧ day < a.hi ∧ a.known ≤ k ∧ version c.arts a.number day k = some i := fun x hx => inForce_at (by rw [← hVa]; exact hx)
      have hhas : ∀ a ∈ c.arts, ∀ i : Nat, version c.arts a.number day k = some i → (i : Int) ∈ V.arts := fun a ha i h => by rw [hVa]; exact inForce_has ha h
      have hlen : V.arts.length ≤ c.arts.length := by rw [hVa]; exact inForce_len _ _ _
      generalize V.arts = L at hvl hsort hnod hat hhas hlen ⊢
      (refine sgor_sound [] 1000 ?_; conv => whnf)
      refine sw_keep [3, 4, 5, 11, 14, 15, 16, 46, 47, 48] ?_
      refine sw_each L (fun i (x : List (Int × Bool) × List (Int × Bool) × Int) => [(3, sI day), (4, sI k), (5, .ptr 0 0), (11, sB true), (14, .map 3), (15, .map 4), (16, sI x.2.2), (46, .imm (dInts L)), (47, sI (L.map fun n => [dI n]).length), (48, sI i)])
        (fun _ x => [.cells [.imm (dDecls c.facts), .imm (dDecls c.lines), .imm (dArts c.arts)], .cells [.imm (dFacts l)], .cells [sI V.day, .imm (dBools V.has), .imm (dInts V.value), .imm (dInts L)], .mapI .i64 (encM sB x.1), .mapI .i64 (encM sB x.2.1)])
        (fun done rest x => (∀ y, alook y x.1 = if y ∈ done then some true else none) ∧ (∀ n, alook n x.2.1 = if some n ∈ done.map (numAt c.arts) then some true else none) ∧ ∀ y ∈ rest, x.2.2 < y) ([], [], -1)
        ⟨fun y => by simp [alook], fun n => by simp [alook], fun y hy => by obtain ⟨i, h1, _⟩ := hat y hy; simp only; omega⟩ ?_ ?_
      · as_aux_lemma =>
          rintro ⟨m1, m2, last⟩ ⟨h1, h2, _⟩
          dsimp only at h1 h2 ⊢
          (refine sgo_sound [] 1000 ?_; conv => whnf)
          repeat' ((first | with_reducible refine bdec (fun h => ?_) (fun h => ?_) | with_reducible refine bndec (fun h => ?_) (fun h => ?_) | with_reducible refine bwtd (fun h => ?_) (fun h => ?_) | with_reducible refine bwfd (fun h => ?_) (fun h => ?_) | with_reducible refine bwtn (fun h => ?_) (fun h => ?_) | with_reducible refine bwfn (fun h => ?_) (fun h => ?_) | with_reducible refine bwtb (fun h => ?_) (fun h => ?_) | with_reducible refine bwfb (fun h => ?_) (fun h => ?_) | with_reducible refine bwt (fun h => ?_) (fun h => ?_) | with_reducible refine bwf (fun h => ?_) (fun h => ?_) | with_reducible refine bnt (fun h => ?_) (fun h => ?_) | with_reducible refine bcase (fun h => ?_) (fun h => ?_)) <;> (first | (exfalso; omega) | (conv => whnf)))
          refine sw_keep [3, 4, 5, 11, 14, 15, 97, 98, 99] ?_
          refine sw_each c.arts (fun i (_ : Unit) => [(3, sI day), (4, sI k), (5, .ptr 0 0), (11, sB true), (14, .map 3), (15, .map 4), (97, .imm (dArts c.arts)), (98, sI (c.arts.map Article.cells).length), (99, sI i)])
            (fun _ _ => [.cells [.imm (dDecls c.facts), .imm (dDecls c.lines), .imm (dArts c.arts)], .cells [.imm (dFacts l)], .cells [sI V.day, .imm (dBools V.has), .imm (dInts V.value), .imm (dInts L)], .mapI .i64 (encM sB m1), .mapI .i64 (encM sB m2)])
            (fun _ _ _ => True) () trivial ?_ ?_
          · rintro _ _
            (refine sgo_sound [] 1000 ?_; conv => whnf)
            repeat' ((first | with_reducible refine bdec (fun h => ?_) (fun h => ?_) | with_reducible refine bndec (fun h => ?_) (fun h => ?_) | with_reducible refine bwtd (fun h => ?_) (fun h => ?_) | with_reducible refine bwfd (fun h => ?_) (fun h => ?_) | with_reducible refine bwtn (fun h => ?_) (fun h => ?_) | with_reducible refine bwfn (fun h => ?_) (fun h => ?_) | with_reducible refine bwtb (fun h => ?_) (fun h => ?_) | with_reducible refine bwfb (fun h => ?_) (fun h => ?_) | with_reducible refine bwt (fun h => ?_) (fun h => ?_) | with_reducible refine bwf (fun h => ?_) (fun h => ?_) | with_reducible refine bnt (fun h => ?_) (fun h => ?_) | with_reducible refine bcase (fun h => ?_) (fun h => ?_)) <;> (first | (exfalso; omega) | (conv => whnf)))
            exact hK _
          · rintro done a rest _ ha hl2 _ ih
            have hw := wrap_succ (n := done.length) (by omega)
            have ham : a ∈ c.arts := by rw [ha]; simp
            obtain ⟨op, n, u, den, ps, ks, hrow⟩ := artRow_at (c := c) (i := done.length) (a := a) (by rw [ha]; simp)
            (refine sgo_sound [] 1000 ?_; conv => whnf)
            repeat' ((first | with_reducible refine bdec (fun h => ?_) (fun h => ?_) | with_reducible refine bndec (fun h => ?_) (fun h => ?_) | with_reducible refine bwtd (fun h => ?_) (fun h => ?_) | with_reducible refine bwfd (fun h => ?_) (fun h => ?_) | with_reducible refine bwtn (fun h => ?_) (fun h => ?_) | with_reducible refine bwfn (fun h => ?_) (fun h => ?_) | with_reducible refine bwtb (fun h => ?_) (fun h => ?_) | with_reducible refine bwfb (fun h => ?_) (fun h => ?_) | with_reducible refine bwt (fun h => ?_) (fun h => ?_) | with_reducible refine bwf (fun h => ?_) (fun h => ?_) | with_reducible refine bnt (fun h => ?_) (fun h => ?_) | with_reducible refine bcase (fun h => ?_) (fun h => ?_)) <;> (first | (exfalso; omega) | (conv => whnf)))
            refine swr_index rfl rfl rfl rfl rfl rfl rfl rfl  (row := artRow a op n u den ps ks) (by simpa using hrow) ?_
            (refine sgor_sound [] 1000 ?_; conv => whnf)
            refine swr_pure rfl rfl rfl rfl rfl rfl  (version_spec G0 c a.number day k (by omega)) ?_
            cases hv : version c.arts a.number day k with
            | none =>
              have hno : alook a.number m2 = none := by
                rw [h2, if_neg]
                intro hm
                obtain ⟨x, hx1, hx2⟩ := List.mem_map.1 hm
                obtain ⟨i, rfl, b, hb1, _, _, _, hb2⟩ := hat x hx1
                simp only [numAt, Int.toNat_natCast, hb1, Option.map_some, Option.some.injEq] at hx2
                rw [hx2, hv] at hb2
                cases hb2
              rw [show versionSV none = .tup [sI 0, sB false] from rfl]
              (refine sgor_sound [] 1000 ?_; conv => whnf)
              refine swr_lookI sB rfl rfl rfl rfl rfl rfl rfl rfl rfl (v := sB false) (by rw [hno]; rfl) ?_
              (refine sgor_sound [] 1000 ?_; conv => whnf)
              rw [hw]
              exact sw_kc [3, 4, 5, 11, 14, 15, 97, 98, 99] 5 (by simp [hH]) (by simp) rfl (by simp [underIB]; exact ⟨rfl, rfl, rfl⟩) (ih () trivial)
            | some i =>
              obtain ⟨b, hb1, hb2, _⟩ := version_some hv
              have hin : (i : Int) ∈ L := hhas a ham i hv
              have hyes : alook a.number m2 = some true := by
                rw [h2, if_pos]
                exact List.mem_map.2 ⟨i, hin, by simp [numAt, hb1, hb2]⟩
              have hiyes : alook (i : Int) m1 = some true := by rw [h1, if_pos hin]
              rw [show versionSV (some i) = .tup [sI i, sB true] from rfl]
              (refine sgor_sound [] 1000 ?_; conv => whnf)
              refine swr_lookI sB rfl rfl rfl rfl rfl rfl rfl rfl rfl (v := sB true) (by rw [hyes]; rfl) ?_
              (refine sgor_sound [] 1000 ?_; conv => whnf)
              refine swr_lookI sB rfl rfl rfl rfl rfl rfl rfl rfl rfl (v := sB true) (by rw [hiyes]; rfl) ?_
              (refine sgor_sound [] 1000 ?_; conv => whnf)
              rw [hw]
              exact sw_kc [3, 4, 5, 11, 14, 15, 97, 98, 99] 5 (by simp [hH]) (by simp) rfl (by simp [underIB]; exact ⟨rfl, rfl, rfl⟩) (ih () trivial)
      · as_aux_lemma =>
          rintro done x rest ⟨m1, m2, last⟩ ha hl2 ⟨h1, h2, h3⟩ ih
          dsimp only at h1 h2 h3 ⊢
          have hw := wrap_succ (n := done.length) (by omega)
          obtain ⟨i, hxi, a, ha1, ha2, ha3, ha4, ha5⟩ := hat x (by rw [ha]; simp)
          obtain ⟨op, n, u, den, ps, ks, hrow⟩ := artRow_at ha1
          have hilt : i < c.arts.length := by
            rcases Nat.lt_or_ge i c.arts.length with h | h
            · exact h
            · rw [List.getElem?_eq_none h] at ha1; cases ha1
          have hlast := h3 x (by simp)
          have hnum : numAt c.arts x = some a.number := by rw [hxi]; simp [numAt, ha1]
          have hno : alook a.number m2 = none := by
            rw [h2, if_neg]
            rw [ha, List.map_append, List.map_cons, List.nodup_append] at hnod
            intro hm
            exact hnod.2.2 _ hm _ (by simp) hnum.symm
          have hnext : ∀ y ∈ rest, x < y := by
            rw [ha, List.pairwise_append] at hsort
            exact (List.pairwise_cons.1 hsort.2.1).1
          subst hxi
          (refine sgo_sound [] 1000 ?_; conv => whnf)
          repeat' ((first | with_reducible refine bdec (fun h => ?_) (fun h => ?_) | with_reducible refine bndec (fun h => ?_) (fun h => ?_) | with_reducible refine bwtd (fun h => ?_) (fun h => ?_) | with_reducible refine bwfd (fun h => ?_) (fun h => ?_) | with_reducible refine bwtn (fun h => ?_) (fun h => ?_) | with_reducible refine bwfn (fun h => ?_) (fun h => ?_) | with_reducible refine bwtb (fun h => ?_) (fun h => ?_) | with_reducible refine bwfb (fun h => ?_) (fun h => ?_) | with_reducible refine bwt (fun h => ?_) (fun h => ?_) | with_reducible refine bwf (fun h => ?_) (fun h => ?_) | with_reducible refine bnt (fun h => ?_) (fun h => ?_) | with_reducible refine bcase (fun h => ?_) (fun h => ?_)) <;> (first | (exfalso; omega) | (conv => whnf)))
          refine swr_index rfl rfl rfl rfl rfl rfl rfl rfl  (row := [dI i]) (by simp [ha]) ?_
          (refine sgor_sound [] 1000 ?_; conv => whnf)
          repeat' ((first | with_reducible refine bdec (fun h => ?_) (fun h => ?_) | with_reducible refine bndec (fun h => ?_) (fun h => ?_) | with_reducible refine bwtd (fun h => ?_) (fun h => ?_) | with_reducible refine bwfd (fun h => ?_) (fun h => ?_) | with_reducible refine bwtn (fun h => ?_) (fun h => ?_) | with_reducible refine bwfn (fun h => ?_) (fun h => ?_) | with_reducible refine bwtb (fun h => ?_) (fun h => ?_) | with_reducible refine bwfb (fun h => ?_) (fun h => ?_) | with_reducible refine bwt (fun h => ?_) (fun h => ?_) | with_reducible refine bwf (fun h => ?_) (fun h => ?_) | with_reducible refine bnt (fun h => ?_) (fun h => ?_) | with_reducible refine bcase (fun h => ?_) (fun h => ?_)) <;> (first | (exfalso; omega) | (conv => whnf)))
          refine swr_index rfl rfl rfl rfl rfl rfl rfl (i := i) rfl (row := artRow a op n u den ps ks) hrow ?_
          (refine sgor_sound [] 1000 ?_; conv => whnf)
          refine swr_lookI sB rfl rfl rfl rfl rfl rfl rfl rfl rfl (v := sB false) (by rw [hno]; rfl) ?_
          (refine sgor_sound [] 1000 ?_; conv => whnf)
          repeat' ((first | with_reducible refine bdec (fun h => ?_) (fun h => ?_) | with_reducible refine bndec (fun h => ?_) (fun h => ?_) | with_reducible refine bwtd (fun h => ?_) (fun h => ?_) | with_reducible refine bwfd (fun h => ?_) (fun h => ?_) | with_reducible refine bwtn (fun h => ?_) (fun h => ?_) | with_reducible refine bwfn (fun h => ?_) (fun h => ?_) | with_reducible refine bwtb (fun h => ?_) (fun h => ?_) | with_reducible refine bwfb (fun h => ?_) (fun h => ?_) | with_reducible refine bwt (fun h => ?_) (fun h => ?_) | with_reducible refine bwf (fun h => ?_) (fun h => ?_) | with_reducible refine bnt (fun h => ?_) (fun h => ?_) | with_reducible refine bcase (fun h => ?_) (fun h => ?_)) <;> (first | (exfalso; omega) | (conv => whnf)))
          (refine swe_start 0 mixed rfl ?_; refine sgoe_sound [] (nx := 6) ?_; conv => whnf)
          refine swe_setI sB true rfl rfl rfl rfl rfl rfl rfl rfl (by simp) rfl ?_
          (refine sgoe_sound [] (nx := 6) ?_; conv => whnf)
          refine swe_setI sB true rfl rfl rfl rfl rfl rfl rfl rfl (by simp) rfl ?_
          (refine sgoe_sound [] (nx := 6) ?_; conv => whnf)
          (refine sgo_sound [] 1000 ?_; conv => whnf)
          rw [hw]
          refine sw_kc [3, 4, 5, 11, 14, 15, 16, 46, 47, 48] 5 (by simp [hH]) (by simp) rfl (by simp [underIB]; exact ⟨rfl, rfl, rfl⟩) (ih (ains (i : Int) true m1, ains a.number true m2, (i : Int)) ⟨fun y => ?_, fun n => ?_, hnext⟩)
          · rw [alook_ains, h1]
            by_cases e : y = (i : Int)
            · simp [e]
            · rw [if_neg (by simpa using e)]
              simp [e]
          · rw [alook_ains, h2]
            by_cases e : n = a.number
            · simp [e, hnum]
            · rw [if_neg (by simpa using e)]
              have : ¬ some n = numAt c.arts (i : Int) := by rw [hnum]; simpa using e
              simp [this]
  · generalize viewAt c l p day k = r at he ⊢
    obtain ⟨v, e⟩ := r
    simp only at he
    subst he
    (refine sgor_sound [] 1000 ?_; conv => whnf)
    refine swr_pure rfl rfl rfl rfl rfl rfl  (lawValid_spec G0 c l (storeFit hl)) ?_
    cases hval : validOK c l with
    | false =>
      (refine sgor_sound [] 1000 ?_; conv => whnf)
      exact hK _
    | true =>
      (refine sgor_sound [] 1000 ?_; conv => whnf)
      exact hK _
end Go.Proofs.YthmkdghoaifkbaaGreatDoor

/- The law ViewPersons: what it computes. -/
namespace Go.Proofs.YthmkdghoaifkbaaGreatDoor
open Go Go.Sh
set_option maxRecDepth 10000
set_option maxHeartbeats 4000000

theorem codexOf_valid {c : Codex} {l : List Fact} (h : validOK c l = true) : codexOK c = true ∧ storeOK l = true ∧ smallOK c l = true := by
  simp only [validOK, Bool.and_eq_true] at h
  exact ⟨by rw [← refOK_eq]; exact h.1.2, h.2, h.1.1⟩

theorem viewPersonsLaw_spec (c : Codex) (l : List Fact) (p q : ByteArray) (day k : Int) (hc : Codex.ok c) (hl : storeGo l) :
    SPure Tryz.prog G0 5 [c.sv, storeSV l, sS p, sS q, sI day, sI k] (sB true) := by
  refine spure_enter Tryz.func5 rfl (by rw [Tryz.ntmps5]; simp) rfl rfl ?_; intro E hH hK
  have hll : (l.map Fact.cells).length = l.length := by simp
  (refine sgo_sound [] 1000 ?_; conv => whnf)
  refine swr_pure rfl rfl rfl rfl rfl rfl  head_spec ?_
  (refine sgor_sound [] 1000 ?_; conv => whnf)
  refine swr_pure rfl rfl rfl rfl rfl rfl  (lawValid_spec G0 c l (storeFit hl)) ?_
  cases hval : validOK c l with
  | false =>
    (refine sgor_sound [] 1000 ?_; conv => whnf)
    exact hK _
  | true =>
    obtain ⟨hcx, hst, hsm⟩ := codexOf_valid hval
    have hlen : l.length ≤ 400 := by simp [storeOK] at hst; exact hst.1
    (refine sgor_sound [] 1000 ?_; conv => whnf)
    repeat' ((first | with_reducible refine bdec (fun h => ?_) (fun h => ?_) | with_reducible refine bndec (fun h => ?_) (fun h => ?_) | with_reducible refine bwtd (fun h => ?_) (fun h => ?_) | with_reducible refine bwfd (fun h => ?_) (fun h => ?_) | with_reducible refine bwtn (fun h => ?_) (fun h => ?_) | with_reducible refine bwfn (fun h => ?_) (fun h => ?_) | with_reducible refine bwtb (fun h => ?_) (fun h => ?_) | with_reducible refine bwfb (fun h => ?_) (fun h => ?_) | with_reducible refine bwt (fun h => ?_) (fun h => ?_) | with_reducible refine bwf (fun h => ?_) (fun h => ?_) | with_reducible refine bnt (fun h => ?_) (fun h => ?_) | with_reducible refine bcase (fun h => ?_) (fun h => ?_)) <;> (conv => whnf))
    all_goals try exact hK _
    refine sw_keep [2, 3, 4, 5, 6, 7, 13, 14, 42, 43, 44] ?_
    refine sw_tokCell 2 0 7 rfl rfl ?_
    refine sw_each l (fun i (_ : List Fact) => [(2, sS p), (3, sS q), (4, sI day), (5, sI k), (6, .ptr 0 0), (7, .ptr 1 0), (13, sB true), (14, .ptr 2 0), (42, .imm (dFacts l)), (43, sI (l.map Fact.cells).length), (44, sI i)])
      (fun _ d => [.cells [.imm (dDecls c.facts), .imm (dDecls c.lines), .imm (dArts c.arts)], .cells [.imm (dFacts l)], .cells [.asl 3 7 ((ownFacts p d).map Fact.cells)], .tok 7 ((ownFacts p d).map Fact.cells).length])
      (fun done _ d => d = done) [] rfl ?_ ?_
    · as_aux_lemma =>
        rintro d rfl
        refine sw_solid ?_
        have hso : storeOK (ownFacts p d) = true := storeOK_sub _ hst
        have hv2 : viewAt c (ownFacts p d) p day k = viewAt c d p day k := by simp only [viewAt, readerOK, hso, hst, own_view]
        have hv3 : (viewAt c (ownFacts p d) q day k).2 = (viewAt c d p day k).2 ∧ (viewAt c (ownFacts p d) q day k).1.arts = (viewAt c d p day k).1.arts := by
          simp only [viewAt, readerOK, hso, hst]
          split
          · exact ⟨rfl, rfl⟩
          · exact ⟨rfl, rfl⟩
        have hv4 : ¬ p = q → ∀ b ∈ (viewAt c (ownFacts p d) q day k).1.has, b = false := fun hpq b hb => by
          simp only [viewAt] at hb
          split at hb
          · exact own_other_has hpq k day d b hb
          · cases hb
        have hfit : ∀ r : View × Int, (∃ l' p', r = viewAt c l' p' day k) → r.1.fit := fun r ⟨l', p', hr⟩ => by
          subst hr
          simp only [viewAt]
          split
          · rename_i hok
            simp only [readerOK, Bool.and_eq_true] at hok
            have := codexOK_len hok.1.1.1
            refine ⟨by simp [viewOf]; omega, by simp [viewOf]; omega, ?_⟩
            have := inForce_len c.arts day k
            simp only [viewOf]; omega
          · exact ⟨by simp, by simp, by simp⟩
        have hf1 := hfit _ ⟨d, p, rfl⟩
        have hf3 := hfit _ ⟨ownFacts p d, q, rfl⟩
        have htwo := viewAt_two c d p day k
        have c1 := viewAt_spec G0 c d p day k (codexFit hc)
        have c2 := viewAt_spec G0 c (ownFacts p d) p day k (codexFit hc)
        have c3 := viewAt_spec G0 c (ownFacts p d) q day k (codexFit hc)
        rw [hv2] at c2
        generalize viewAt c d p day k = r1 at hv3 hf1 htwo c1 c2
        generalize viewAt c (ownFacts p d) q day k = r3 at hv3 hv4 hf3 c3
        obtain ⟨V, e⟩ := r1
        obtain ⟨X, e3⟩ := r3
        simp only at hv3 hv4 hf1 hf3 htwo c1 c2 c3
        obtain ⟨rfl, hxa⟩ := hv3
        have heq : V.same' V = true := by simp [View.same', View.same]
        have hxl : (X.has.map fun b => [dB b]).length = X.has.length := by simp
        rcases htwo with he | he
        · subst he
          (refine sgo_sound [] 1000 ?_; conv => whnf)
          repeat' ((first | with_reducible refine bdec (fun h => ?_) (fun h => ?_) | with_reducible refine bndec (fun h => ?_) (fun h => ?_) | with_reducible refine bwtd (fun h => ?_) (fun h => ?_) | with_reducible refine bwfd (fun h => ?_) (fun h => ?_) | with_reducible refine bwtn (fun h => ?_) (fun h => ?_) | with_reducible refine bwfn (fun h => ?_) (fun h => ?_) | with_reducible refine bwtb (fun h => ?_) (fun h => ?_) | with_reducible refine bwfb (fun h => ?_) (fun h => ?_) | with_reducible refine bwt (fun h => ?_) (fun h => ?_) | with_reducible refine bwf (fun h => ?_) (fun h => ?_) | with_reducible refine bnt (fun h => ?_) (fun h => ?_) | with_reducible refine bcase (fun h => ?_) (fun h => ?_)) <;> (first | (exfalso; omega) | (conv => whnf)))
          refine swr_pure rfl rfl rfl rfl rfl rfl  c1 ?_
          (refine sgor_sound [] 1000 ?_; conv => whnf)
          refine swr_pure rfl rfl rfl rfl rfl rfl  c2 ?_
          (refine sgor_sound [] 1000 ?_; conv => whnf)
          refine swr_pure rfl rfl rfl rfl rfl rfl  c3 ?_
          (refine sgor_sound [] 1000 ?_; conv => whnf)
          refine swr_pure rfl rfl rfl rfl rfl rfl  (refEqual13_spec G0 V V hf1) ?_
          rw [heq]
          (refine sgor_sound [] 1000 ?_; conv => whnf)
          repeat' ((first | with_reducible refine bdec (fun h => ?_) (fun h => ?_) | with_reducible refine bndec (fun h => ?_) (fun h => ?_) | with_reducible refine bwtd (fun h => ?_) (fun h => ?_) | with_reducible refine bwfd (fun h => ?_) (fun h => ?_) | with_reducible refine bwtn (fun h => ?_) (fun h => ?_) | with_reducible refine bwfn (fun h => ?_) (fun h => ?_) | with_reducible refine bwtb (fun h => ?_) (fun h => ?_) | with_reducible refine bwfb (fun h => ?_) (fun h => ?_) | with_reducible refine bwt (fun h => ?_) (fun h => ?_) | with_reducible refine bwf (fun h => ?_) (fun h => ?_) | with_reducible refine bnt (fun h => ?_) (fun h => ?_) | with_reducible refine bcase (fun h => ?_) (fun h => ?_)) <;> (conv => whnf))
          · exact hK _
          have hpq : ¬ p = q := h
          have hall := hv4 hpq
          refine sw_keep [13, 17, 21, 109, 110, 111] ?_
          refine sw_each X.has (fun i (_ : Unit) => [(13, sB true), (17, .ptr 4 0), (21, .ptr 6 0), (109, .imm (dBools X.has)), (110, sI (X.has.map fun b => [dB b]).length), (111, sI i)])
            (fun _ _ => [.cells [.imm (dDecls c.facts), .imm (dDecls c.lines), .imm (dArts c.arts)], .cells [.imm (dFacts d)], .cells [.imm (dFacts (ownFacts p d))], .tok 7 ((ownFacts p d).map Fact.cells).length,
              .cells [sI V.day, .imm (dBools V.has), .imm (dInts V.value), .imm (dInts V.arts)], .cells [sI V.day, .imm (dBools V.has), .imm (dInts V.value), .imm (dInts V.arts)], .cells [sI X.day, .imm (dBools X.has), .imm (dInts X.value), .imm (dInts X.arts)]])
            (fun _ _ _ => True) () trivial ?_ ?_
          · rintro _ _
            (refine sgo_sound [] 1000 ?_; conv => whnf)
            repeat' ((first | with_reducible refine bdec (fun h => ?_) (fun h => ?_) | with_reducible refine bndec (fun h => ?_) (fun h => ?_) | with_reducible refine bwtd (fun h => ?_) (fun h => ?_) | with_reducible refine bwfd (fun h => ?_) (fun h => ?_) | with_reducible refine bwtn (fun h => ?_) (fun h => ?_) | with_reducible refine bwfn (fun h => ?_) (fun h => ?_) | with_reducible refine bwtb (fun h => ?_) (fun h => ?_) | with_reducible refine bwfb (fun h => ?_) (fun h => ?_) | with_reducible refine bwt (fun h => ?_) (fun h => ?_) | with_reducible refine bwf (fun h => ?_) (fun h => ?_) | with_reducible refine bnt (fun h => ?_) (fun h => ?_) | with_reducible refine bcase (fun h => ?_) (fun h => ?_)) <;> (first | (exfalso; omega) | (conv => whnf)))
            refine swr_pure rfl rfl rfl rfl rfl rfl  (sameInts_spec G0 V.arts X.arts hf1.2.2) ?_
            rw [decide_eq_true hxa.symm]
            (refine sgor_sound [] 1000 ?_; conv => whnf)
            exact hK _
          · rintro done b rest _ ha2 hl3 _ ih
            have hxlen := hf3.1
            have hw := wrap_succ (n := done.length) (by omega)
            have hb : b = false := hall b (by rw [ha2]; simp)
            subst hb
            (refine sgo_sound [] 1000 ?_; conv => whnf)
            repeat' ((first | with_reducible refine bdec (fun h => ?_) (fun h => ?_) | with_reducible refine bndec (fun h => ?_) (fun h => ?_) | with_reducible refine bwtd (fun h => ?_) (fun h => ?_) | with_reducible refine bwfd (fun h => ?_) (fun h => ?_) | with_reducible refine bwtn (fun h => ?_) (fun h => ?_) | with_reducible refine bwfn (fun h => ?_) (fun h => ?_) | with_reducible refine bwtb (fun h => ?_) (fun h => ?_) | with_reducible refine bwfb (fun h => ?_) (fun h => ?_) | with_reducible refine bwt (fun h => ?_) (fun h => ?_) | with_reducible refine bwf (fun h => ?_) (fun h => ?_) | with_reducible refine bnt (fun h => ?_) (fun h => ?_) | with_reducible refine bcase (fun h => ?_) (fun h => ?_)) <;> (first | (exfalso; omega) | (conv => whnf)))
            refine swr_index rfl rfl rfl rfl rfl rfl rfl rfl  (row := [dB false]) (by simp [ha2]) ?_
            (refine sgor_sound [] 1000 ?_; conv => whnf)
            rw [hw]
            exact sw_kc [13, 17, 21, 109, 110, 111] 7 (by simp [hH]) (by simp) rfl rfl (ih () trivial)
        · subst he
          (refine sgo_sound [] 1000 ?_; conv => whnf)
          repeat' ((first | with_reducible refine bdec (fun h => ?_) (fun h => ?_) | with_reducible refine bndec (fun h => ?_) (fun h => ?_) | with_reducible refine bwtd (fun h => ?_) (fun h => ?_) | with_reducible refine bwfd (fun h => ?_) (fun h => ?_) | with_reducible refine bwtn (fun h => ?_) (fun h => ?_) | with_reducible refine bwfn (fun h => ?_) (fun h => ?_) | with_reducible refine bwtb (fun h => ?_) (fun h => ?_) | with_reducible refine bwfb (fun h => ?_) (fun h => ?_) | with_reducible refine bwt (fun h => ?_) (fun h => ?_) | with_reducible refine bwf (fun h => ?_) (fun h => ?_) | with_reducible refine bnt (fun h => ?_) (fun h => ?_) | with_reducible refine bcase (fun h => ?_) (fun h => ?_)) <;> (first | (exfalso; omega) | (conv => whnf)))
          refine swr_pure rfl rfl rfl rfl rfl rfl  c1 ?_
          (refine sgor_sound [] 1000 ?_; conv => whnf)
          refine swr_pure rfl rfl rfl rfl rfl rfl  c2 ?_
          (refine sgor_sound [] 1000 ?_; conv => whnf)
          refine swr_pure rfl rfl rfl rfl rfl rfl  c3 ?_
          (refine sgor_sound [] 1000 ?_; conv => whnf)
          refine swr_pure rfl rfl rfl rfl rfl rfl  (refEqual13_spec G0 V V hf1) ?_
          rw [heq]
          (refine sgor_sound [] 1000 ?_; conv => whnf)
          exact hK _
    · as_aux_lemma =>
        rintro done f rest d ha hl2 rfl ih
        have hw := wrap_succ (n := d.length) (by omega)
        have hown : ownFacts p (d ++ [f]) = ownFacts p d ++ (if f.person = p then [f] else []) := by
          simp only [ownFacts, List.filter_append]
          by_cases h : f.person = p <;> simp [h]
        have hol : (ownFacts p d).length ≤ d.length := List.length_filter_le _ _
        (refine sgo_sound [] 1000 ?_; conv => whnf)
        repeat' ((first | with_reducible refine bdec (fun h => ?_) (fun h => ?_) | with_reducible refine bndec (fun h => ?_) (fun h => ?_) | with_reducible refine bwtd (fun h => ?_) (fun h => ?_) | with_reducible refine bwfd (fun h => ?_) (fun h => ?_) | with_reducible refine bwtn (fun h => ?_) (fun h => ?_) | with_reducible refine bwfn (fun h => ?_) (fun h => ?_) | with_reducible refine bwtb (fun h => ?_) (fun h => ?_) | with_reducible refine bwfb (fun h => ?_) (fun h => ?_) | with_reducible refine bwt (fun h => ?_) (fun h => ?_) | with_reducible refine bwf (fun h => ?_) (fun h => ?_) | with_reducible refine bnt (fun h => ?_) (fun h => ?_) | with_reducible refine bcase (fun h => ?_) (fun h => ?_)) <;> (first | (exfalso; omega) | (conv => whnf)))
        refine swr_index rfl rfl rfl rfl rfl rfl rfl rfl  (row := f.cells) (by simp [ha]) ?_
        (refine sgor_sound [] 1000 ?_; conv => whnf)
        repeat' ((first | with_reducible refine bdec (fun h => ?_) (fun h => ?_) | with_reducible refine bndec (fun h => ?_) (fun h => ?_) | with_reducible refine bwtd (fun h => ?_) (fun h => ?_) | with_reducible refine bwfd (fun h => ?_) (fun h => ?_) | with_reducible refine bwtn (fun h => ?_) (fun h => ?_) | with_reducible refine bwfn (fun h => ?_) (fun h => ?_) | with_reducible refine bwtb (fun h => ?_) (fun h => ?_) | with_reducible refine bwfb (fun h => ?_) (fun h => ?_) | with_reducible refine bwt (fun h => ?_) (fun h => ?_) | with_reducible refine bwf (fun h => ?_) (fun h => ?_) | with_reducible refine bnt (fun h => ?_) (fun h => ?_) | with_reducible refine bcase (fun h => ?_) (fun h => ?_)) <;> (conv => whnf))
        · rw [if_pos h] at hown
          refine swr_append rfl rfl rfl rfl rfl rfl rfl rfl rfl rfl ⟨by decide, rfl⟩ (by simp) (by simp; omega) ?_
          (refine sgor_sound [] 1000 ?_; conv => whnf)
          rw [hw]
          refine sw_kc [2, 3, 4, 5, 6, 7, 13, 14, 42, 43, 44] 4 (by simp [hH]) (by simp) rfl rfl ?_
          have := ih (d ++ [f]) rfl
          rw [hown] at this
          simp only [List.map_append, List.length_append] at this
          exact this
        · rw [if_neg h, List.append_nil] at hown
          rw [hw]
          refine sw_kc [2, 3, 4, 5, 6, 7, 13, 14, 42, 43, 44] 4 (by simp [hH]) (by simp) rfl rfl ?_
          have := ih (d ++ [f]) rfl
          rw [hown] at this
          exact this
end Go.Proofs.YthmkdghoaifkbaaGreatDoor

/- What is in force, by places; an article that is known later. -/
namespace Go.Proofs.YthmkdghoaifkbaaGreatDoor
open Go Go.Sh
set_option maxRecDepth 10000
set_option maxHeartbeats 2000000

theorem sorted_ext : ∀ {l l' : List Int}, l.Pairwise (· < ·) → l'.Pairwise (· < ·) → (∀ x, x ∈ l ↔ x ∈ l') → l = l'
  | [], [], _, _, _ => rfl
  | [], b :: _, _, _, h => absurd ((h b).2 (by simp)) (by simp)
  | a :: _, [], _, _, h => absurd ((h a).1 (by simp)) (by simp)
  | a :: l, b :: l', h1, h2, h => by
    obtain ⟨g1, g2⟩ := List.pairwise_cons.1 h1
    obtain ⟨k1, k2⟩ := List.pairwise_cons.1 h2
    have hab : a = b := by
      have ha := (h a).1 (by simp)
      have hb := (h b).2 (by simp)
      rcases List.mem_cons.1 ha with e | e
      · exact e
      · rcases List.mem_cons.1 hb with e' | e'
        · exact e'.symm
        · have q1 := k1 a e
          have q2 := g1 b e'
          omega
    subst hab
    have : l = l' := sorted_ext g2 k2 (fun x => ⟨fun hx => by
      have q := g1 x hx
      rcases List.mem_cons.1 ((h x).1 (by simp [hx])) with e | e
      · omega
      · exact e, fun hx => by
      have q := k1 x hx
      rcases List.mem_cons.1 ((h x).2 (by simp [hx])) with e | e
      · omega
      · exact e⟩)
    rw [this]

/-- the places whose article's version in force they are -/
def forcedGo (V : Int → Option Nat) : List Article → Nat → List Int
  | [], _ => []
  | a :: r, i => (if V a.number = some i then [(i : Int)] else []) ++ forcedGo V r (i + 1)
theorem forcedGo_app (V : Int → Option Nat) : ∀ (l r : List Article) (i : Nat), forcedGo V (l ++ r) i = forcedGo V l i ++ forcedGo V r (i + l.length)
  | [], r, i => by simp [forcedGo]
  | a :: l, r, i => by
    simp only [List.cons_append, forcedGo, forcedGo_app V l r (i + 1), List.length_cons, List.append_assoc]
    rw [show i + 1 + l.length = i + (l.length + 1) by omega]
theorem forcedGo_snoc (V : Int → Option Nat) (l : List Article) (a : Article) : forcedGo V (l ++ [a]) 0 = forcedGo V l 0 ++ (if V a.number = some l.length then [(l.length : Int)] else []) := by
  rw [forcedGo_app]
  simp [forcedGo]
theorem forcedGo_mem (V : Int → Option Nat) : ∀ (l : List Article) (i : Nat) (x : Int), x ∈ forcedGo V l i ↔ ∃ j : Nat, ∃ a, l[j]? = some a ∧ V a.number = some (i + j) ∧ x = ((i + j : Nat) : Int)
  | [], i, x => by simp [forcedGo]
  | a :: r, i, x => by
    simp only [forcedGo, List.mem_append, forcedGo_mem V r (i + 1) x]
    constructor
    · rintro (h | ⟨j, b, h1, h2, h3⟩)
      · split at h
        · rename_i hv
          exact ⟨0, a, by simp, by simpa using hv, by simpa using h⟩
        · cases h
      · exact ⟨j + 1, b, by simpa using h1, by rw [h2]; congr 1; omega, by rw [h3]; congr 1; omega⟩
    · rintro ⟨j, b, h1, h2, h3⟩
      cases j with
      | zero =>
        left
        simp only [List.getElem?_cons_zero, Option.some.injEq] at h1
        subst h1
        rw [if_pos (by simpa using h2)]
        simpa using h3
      | succ j =>
        right
        exact ⟨j, b, by simpa using h1, by rw [h2]; congr 1; omega, by rw [h3]; congr 1; omega⟩
theorem forcedGo_sorted (V : Int → Option Nat) : ∀ (l : List Article) (i : Nat), (forcedGo V l i).Pairwise (· < ·)
  | [], i => .nil
  | a :: r, i => by
    have ih := forcedGo_sorted V r (i + 1)
    simp only [forcedGo]
    split
    · simp only [List.cons_append, List.nil_append]
      refine List.pairwise_cons.2 ⟨fun x hx => ?_, ih⟩
      obtain ⟨j, b, _, _, h3⟩ := (forcedGo_mem V r (i + 1) x).1 hx
      omega
    · exact ih
theorem forcedGo_len (V : Int → Option Nat) : ∀ (l : List Article) (i : Nat), (forcedGo V l i).length ≤ l.length
  | [], i => by simp [forcedGo]
  | a :: r, i => by
    have ih := forcedGo_len V r (i + 1)
    simp only [forcedGo, List.length_append, List.length_cons]
    split
    · simp; omega
    · simp; omega

theorem inForce_places (arts : List Article) (day k : Int) : inForce arts day k = forcedGo (fun n => version arts n day k) arts 0 := by
  refine sorted_ext (inForce_sorted _ _ _) (forcedGo_sorted _ _ _) (fun x => ?_)
  rw [forcedGo_mem]
  constructor
  · intro h
    obtain ⟨i, h1, a, h2, _, _, _, h6⟩ := inForce_at h
    exact ⟨i, a, h2, by simpa using h6, by simpa using h1⟩
  · rintro ⟨j, a, h1, h2, h3⟩
    have := inForce_has (List.mem_of_getElem? h1) (i := j) (by simpa using h2)
    rw [h3]
    simpa using this

theorem verLoop_snoc (n day k : Int) : ∀ (l : List Article) (a : Article) (i : Nat) (o : Option (Nat × Int)), live n day k a = false → verLoop n day k (l ++ [a]) i o = verLoop n day k l i o
  | [], a, i, o, h => by
    cases o with
    | none => simp [verLoop, verStep, h]
    | some x => obtain ⟨j, kk⟩ := x; simp [verLoop, verStep, h]
  | b :: l, a, i, o, h => by simp only [List.cons_append, verLoop]; exact verLoop_snoc n day k l a _ _ h
theorem version_later (l : List Article) (a : Article) (n day k : Int) (h : k < a.known) : version (l ++ [a]) n day k = version l n day k := by
  have : live n day k a = false := by simp only [live]; exact decide_eq_false (fun hc => by omega)
  simp only [version, verLoop_snoc n day k l a 0 none this]
theorem inForce_later (l : List Article) (a : Article) (day k : Int) (h : k < a.known) : inForce (l ++ [a]) day k = inForce l day k := by
  rw [inForce_places, inForce_places]
  simp only [version_later l a _ day k h]
  rw [forcedGo_snoc, if_neg, List.append_nil]
  intro hv
  obtain ⟨b, hb, _⟩ := version_some hv
  rw [List.getElem?_eq_none (Nat.le_refl _)] at hb
  cases hb
theorem later_art_view (fs ls : List Decl) (l : List Article) (a : Article) (fc : List Fact) (p : ByteArray) (k day : Int) (h : k < a.known) : viewOf ⟨fs, ls, l ++ [a]⟩ fc p k day = viewOf ⟨fs, ls, l⟩ fc p k day := by
  simp only [viewOf, inForce_later l a day k h]
  rfl
end Go.Proofs.YthmkdghoaifkbaaGreatDoor

/- The runs of a month: plain facts. -/
namespace Go.Proofs.YthmkdghoaifkbaaGreatDoor
open Go Go.Sh
set_option maxRecDepth 10000
set_option maxHeartbeats 2000000

/-- runs that follow one another from a to e, each of days that are alike, neighbours unlike -/
def Chain (S : Int → Int → Bool) : Int → Int → List (Int × Int) → Prop
  | a, e, [] => a = e
  | a, e, r :: rs => r.1 = a ∧ a < r.2 ∧ (∀ x, a ≤ x → x < r.2 → S a x = true) ∧ (rs ≠ [] → S (r.2 - 1) r.2 = false) ∧ Chain S r.2 e rs

theorem chain_le {S : Int → Int → Bool} : ∀ {rs : List (Int × Int)} {a e : Int}, Chain S a e rs → a ≤ e ∧ (rs ≠ [] → a < e)
  | [], a, e, h => ⟨by simp only [Chain] at h; omega, fun h => absurd rfl h⟩
  | r :: rs, a, e, h => by
    obtain ⟨h1, h2, _, _, h5⟩ := h
    have := (chain_le h5).1
    exact ⟨by omega, fun _ => by omega⟩
theorem chain_end {S : Int → Int → Bool} : ∀ {rs : List (Int × Int)} {a e : Int}, Chain S a e rs → a ≤ e := fun h => (chain_le h).1

theorem chain_new {S : Int → Int → Bool} (hr : ∀ x, S x x = true) : ∀ {rs : List (Int × Int)} {a e : Int}, Chain S a e rs → (rs ≠ [] → S (e - 1) e = false) → Chain S a (e + 1) (rs ++ [(e, e + 1)])
  | [], a, e, h, _ => by
    simp only [Chain] at h
    subst h
    refine ⟨rfl, by simp only; omega, fun x h1 h2 => ?_, fun h => absurd rfl h, rfl⟩
    simp only at h2
    have : x = a := by omega
    subst this
    exact hr x
  | r :: rs, a, e, h, hs => by
    obtain ⟨h1, h2, h3, h4, h5⟩ := h
    refine ⟨h1, h2, h3, fun _ => ?_, chain_new hr h5 (fun hne => hs (by simp))⟩
    cases rs with
    | nil => simp only [Chain] at h5; rw [h5]; exact hs (by simp)
    | cons q rs => exact h4 (by simp)

theorem chain_more {S : Int → Int → Bool} (ht : ∀ x y z, S x y = true → S y z = true → S x z = true) : ∀ {rs : List (Int × Int)} {a e : Int}, Chain S a e rs → rs ≠ [] → S (e - 1) e = true → Chain S a (e + 1) (setLast rs (e + 1))
  | [], a, e, _, hne, _ => absurd rfl hne
  | [r], a, e, h, _, hs => by
    obtain ⟨h1, h2, h3, _, h5⟩ := h
    simp only [Chain] at h5
    refine ⟨h1, by simp only; omega, fun x g1 g2 => ?_, fun h => absurd rfl h, rfl⟩
    simp only at g2
    by_cases hx : x = e
    · subst hx
      exact ht a (x - 1) x (h3 (x - 1) (by omega) (by omega)) hs
    · exact h3 x g1 (by omega)
  | r :: q :: rs, a, e, h, _, hs => by
    obtain ⟨h1, h2, h3, h4, h5⟩ := h
    have hne : setLast (q :: rs) (e + 1) ≠ [] := by cases rs <;> simp [setLast]
    exact ⟨h1, h2, h3, fun _ => h4 (by simp), chain_more ht h5 (by simp) hs⟩

theorem same_refl (v : View) : v.same v = true := by simp [View.same]
theorem same_symm (v w : View) : v.same w = w.same v := by
  simp only [View.same]
  exact decide_eq_decide.2 ⟨fun h => ⟨h.1.symm, h.2.1.symm, h.2.2.symm⟩, fun h => ⟨h.1.symm, h.2.1.symm, h.2.2.symm⟩⟩
theorem same_trans {u v w : View} (h1 : u.same v = true) (h2 : v.same w = true) : u.same w = true := by
  simp only [View.same, decide_eq_true_eq] at *
  exact ⟨h1.1.trans h2.1, h1.2.1.trans h2.2.1, h1.2.2.trans h2.2.2⟩

/-- views of days from a on -/
def viewsFrom (f : Int → View) (a : Int) (n : Nat) : List View := (List.range n).map fun (i : Nat) => f (a + i)
theorem viewsFrom_succ (f : Int → View) (a : Int) (n : Nat) : viewsFrom f a (n + 1) = viewsFrom f a n ++ [f (a + n)] := by
  simp [viewsFrom, List.range_succ]
theorem viewsFrom_last (f : Int → View) (a : Int) (n : Nat) : (viewsFrom f a n).getLast? = if n = 0 then none else some (f (a + n - 1)) := by
  cases n with
  | zero => rfl
  | succ n =>
    rw [viewsFrom_succ, List.getLast?_concat]
    simp only [Nat.add_eq_zero_iff, Nat.one_ne_zero, and_false, if_false, Option.some.injEq]
    congr 1
    omega

theorem runs_chain (f : Int → View) (hf : ∀ x, (f x).day = x) (a : Int) : ∀ n : Nat, Chain (fun x y => (f x).same (f y)) a (a + n) (runsOf (viewsFrom f a n))
  | 0 => by simp [viewsFrom, runsOf, Chain]
  | n + 1 => by
    have ih := runs_chain f hf a n
    rw [viewsFrom_succ, runsOf_snoc, viewsFrom_last]
    have hcast : a + ((n + 1 : Nat) : Int) = a + n + 1 := by omega
    rw [hcast]
    by_cases hn : n = 0
    · subst hn
      rw [if_pos rfl, addRun_none, hf]
      exact chain_new (S := fun x y => (f x).same (f y)) (fun x => same_refl _) ih (fun h => absurd (by simp [viewsFrom, runsOf]) h)
    · rw [if_neg hn, addRun_some, hf]
      have hne : runsOf (viewsFrom f a n) ≠ [] := by
        intro h0
        rw [h0] at ih
        simp only [Chain] at ih
        omega
      by_cases hs : (f (a + n - 1)).same (f (a + n)) = true
      · rw [if_pos hs]
        exact chain_more (S := fun x y => (f x).same (f y)) (fun x y z h1 h2 => same_trans h1 h2) ih hne hs
      · rw [if_neg hs]
        exact chain_new (S := fun x y => (f x).same (f y)) (fun x => same_refl _) ih (fun _ => by simpa using hs)
end Go.Proofs.YthmkdghoaifkbaaGreatDoor
