/- Contracts of functions of the program, joined from Hb, Hc, Hd, He, Hf, Hg: no condition. -/
import Derived.Test.YthmkdghoaifkbaaGreatDoorJ4
/- Contracts, part Hb: small codices; numbers of articles. -/
namespace Go.Proofs.YthmkdghoaifkbaaGreatDoor
open Go Go.Sh
set_option maxRecDepth 10000
set_option maxHeartbeats 2000000
variable (G : List (Nat × D))

def artIx (n : Int) : List Article → Nat → Int
  | [], _ => -1
  | d :: r, i => if d.number = n then i else artIx n r (i + 1)

theorem numbered_spec (c : Codex) (n : Int) (hsz : c.arts.length ≤ 9223372036854775807) : SPure Tryz.prog G 47 [c.sv, sI n] (sI (artIx n c.arts 0)) := by
  refine spure_enter Tryz.func47 rfl (by rw [Tryz.ntmps47]; simp) rfl rfl ?_; intro E hH hK
  have hlen : (c.arts.map Article.cells).length = c.arts.length := by simp
  (refine sgo_sound [] 1000 ?_; conv => whnf)
  refine sw_keep [1, 2, 5] ?_
  refine sw_each c.arts (fun i (_ : Unit) => [(1, sI n), (2, .ptr 0 0), (5, sI i)]) (fun _ _ => [.cells [.imm (dDecls c.facts), .imm (dDecls c.lines), .imm (dArts c.arts)]])
    (fun done rest _ => artIx n c.arts 0 = artIx n rest done.length) () rfl ?_ ?_
  · rintro _ h1
    (refine sgo_sound [] 1000 ?_; conv => whnf)
    repeat' ((first | with_reducible refine bdec (fun h => ?_) (fun h => ?_) | with_reducible refine bndec (fun h => ?_) (fun h => ?_) | with_reducible refine bwtd (fun h => ?_) (fun h => ?_) | with_reducible refine bwfd (fun h => ?_) (fun h => ?_) | with_reducible refine bwtn (fun h => ?_) (fun h => ?_) | with_reducible refine bwfn (fun h => ?_) (fun h => ?_) | with_reducible refine bwtb (fun h => ?_) (fun h => ?_) | with_reducible refine bwfb (fun h => ?_) (fun h => ?_) | with_reducible refine bwt (fun h => ?_) (fun h => ?_) | with_reducible refine bwf (fun h => ?_) (fun h => ?_) | with_reducible refine bnt (fun h => ?_) (fun h => ?_) | with_reducible refine bcase (fun h => ?_) (fun h => ?_)) <;> (conv => whnf))
    all_goals try (exfalso; omega)
    exact kI hK (by rw [h1]; rfl)
  · rintro done d rest _ ha hl h1 ih
    have hw := wrap_succ (n := done.length) (by omega)
    simp only [artIx] at h1
    (refine sgo_sound [] 1000 ?_; conv => whnf)
    repeat' ((first | with_reducible refine bdec (fun h => ?_) (fun h => ?_) | with_reducible refine bndec (fun h => ?_) (fun h => ?_) | with_reducible refine bwtd (fun h => ?_) (fun h => ?_) | with_reducible refine bwfd (fun h => ?_) (fun h => ?_) | with_reducible refine bwtn (fun h => ?_) (fun h => ?_) | with_reducible refine bwfn (fun h => ?_) (fun h => ?_) | with_reducible refine bwtb (fun h => ?_) (fun h => ?_) | with_reducible refine bwfb (fun h => ?_) (fun h => ?_) | with_reducible refine bwt (fun h => ?_) (fun h => ?_) | with_reducible refine bwf (fun h => ?_) (fun h => ?_) | with_reducible refine bnt (fun h => ?_) (fun h => ?_) | with_reducible refine bcase (fun h => ?_) (fun h => ?_)) <;> (conv => whnf))
    all_goals try (exfalso; omega)
    refine swr_index rfl rfl rfl rfl rfl rfl rfl rfl  (row := d.cells) (by simp [ha]) ?_
    (refine sgor_sound [] 1000 ?_; conv => whnf)
    repeat' ((first | with_reducible refine bdec (fun h => ?_) (fun h => ?_) | with_reducible refine bndec (fun h => ?_) (fun h => ?_) | with_reducible refine bwtd (fun h => ?_) (fun h => ?_) | with_reducible refine bwfd (fun h => ?_) (fun h => ?_) | with_reducible refine bwtn (fun h => ?_) (fun h => ?_) | with_reducible refine bwfn (fun h => ?_) (fun h => ?_) | with_reducible refine bwtb (fun h => ?_) (fun h => ?_) | with_reducible refine bwfb (fun h => ?_) (fun h => ?_) | with_reducible refine bwt (fun h => ?_) (fun h => ?_) | with_reducible refine bwf (fun h => ?_) (fun h => ?_) | with_reducible refine bnt (fun h => ?_) (fun h => ?_) | with_reducible refine bcase (fun h => ?_) (fun h => ?_)) <;> (conv => whnf))
    · exact kI hK (by rw [h1, if_pos h])
    · rw [hw]; exact sw_kc [1, 2, 5] 1 (by simp [hH]) (by simp) rfl rfl (ih () (by rw [h1, if_neg h]; simp))

theorem artIx_range (n : Int) : ∀ (l : List Article) (i : Nat), artIx n l i = -1 ∨ ((i : Int) ≤ artIx n l i ∧ artIx n l i < i + l.length ∧ ∃ a, l[(artIx n l i).toNat - i]? = some a ∧ a.number = n)
  | [], i => .inl rfl
  | a :: r, i => by
    simp only [artIx]
    split
    · rename_i h
      right
      refine ⟨by omega, by simp; omega, a, by simp, h⟩
    · rcases artIx_range n r (i + 1) with h | ⟨h1, h2, x, h3, h4⟩
      · exact .inl h
      · right
        refine ⟨by omega, by simp; omega, x, ?_, h4⟩
        rw [show (artIx n r (i + 1)).toNat - i = ((artIx n r (i + 1)).toNat - (i + 1)) + 1 by omega]
        simpa using h3
theorem artIx_some (n : Int) : ∀ (l : List Article) (i : Nat), artIx n l i = -1 ↔ ∀ a ∈ l, a.number ≠ n
  | [], i => by simp [artIx]
  | a :: r, i => by
    simp only [artIx]
    split
    · rename_i h
      constructor
      · intro h'; omega
      · intro h'; exact absurd h (h' a (by simp))
    · rename_i h
      rw [artIx_some n r (i + 1)]
      simp [h]

def artFew (L : Int) (a : Article) : Bool := decide (a.when_.length ≤ 40) && decide (a.unless_.length ≤ 80) && decide ((exSize a.amount : Int) ≤ L) && a.when_.all (fun e => decide ((exSize e : Int) ≤ L))
def fewOK (c : Codex) (L : Int) : Bool := decide (c.facts.length ≤ 40) && decide (c.lines.length ≤ 40) && decide (c.arts.length ≤ 70) && c.arts.all (artFew L)

theorem few_spec (c : Codex) (L : Int) (h0 : 0 ≤ L) (h1 : L ≤ 999999) : SPure Tryz.prog G 26 [c.sv, sI L] (sB (fewOK c L)) := by
  refine spure_enter Tryz.func26 rfl (by rw [Tryz.ntmps26]; simp) rfl rfl ?_; intro E hH hK
  have hlf : (c.facts.map Decl.cells).length = c.facts.length := by simp
  have hll : (c.lines.map Decl.cells).length = c.lines.length := by simp
  have hla : (c.arts.map Article.cells).length = c.arts.length := by simp
  (refine sgo_sound [] 1000 ?_; conv => whnf)
  repeat' ((first | with_reducible refine bdec (fun h => ?_) (fun h => ?_) | with_reducible refine bndec (fun h => ?_) (fun h => ?_) | with_reducible refine bwtd (fun h => ?_) (fun h => ?_) | with_reducible refine bwfd (fun h => ?_) (fun h => ?_) | with_reducible refine bwtn (fun h => ?_) (fun h => ?_) | with_reducible refine bwfn (fun h => ?_) (fun h => ?_) | with_reducible refine bwtb (fun h => ?_) (fun h => ?_) | with_reducible refine bwfb (fun h => ?_) (fun h => ?_) | with_reducible refine bwt (fun h => ?_) (fun h => ?_) | with_reducible refine bwf (fun h => ?_) (fun h => ?_) | with_reducible refine bnt (fun h => ?_) (fun h => ?_) | with_reducible refine bcase (fun h => ?_) (fun h => ?_)) <;> (conv => whnf))
  all_goals try exact kB hK (by simp [fewOK]; intros; omega)
  have hsz : c.facts.length ≤ 40 ∧ c.lines.length ≤ 40 ∧ c.arts.length ≤ 70 := by omega
  have hok : fewOK c L = c.arts.all (artFew L) := by simp [fewOK, hsz]
  refine sw_keep [1, 2, 5] ?_
  refine sw_each c.arts (fun i (_ : Unit) => [(1, sI L), (2, .ptr 0 0), (5, sI i)]) (fun _ _ => [.cells [.imm (dDecls c.facts), .imm (dDecls c.lines), .imm (dArts c.arts)]])
    (fun done rest _ => c.arts.all (artFew L) = rest.all (artFew L)) () rfl ?_ ?_
  · rintro _ h1
    (refine sgo_sound [] 1000 ?_; conv => whnf)
    repeat' ((first | with_reducible refine bdec (fun h => ?_) (fun h => ?_) | with_reducible refine bndec (fun h => ?_) (fun h => ?_) | with_reducible refine bwtd (fun h => ?_) (fun h => ?_) | with_reducible refine bwfd (fun h => ?_) (fun h => ?_) | with_reducible refine bwtn (fun h => ?_) (fun h => ?_) | with_reducible refine bwfn (fun h => ?_) (fun h => ?_) | with_reducible refine bwtb (fun h => ?_) (fun h => ?_) | with_reducible refine bwfb (fun h => ?_) (fun h => ?_) | with_reducible refine bwt (fun h => ?_) (fun h => ?_) | with_reducible refine bwf (fun h => ?_) (fun h => ?_) | with_reducible refine bnt (fun h => ?_) (fun h => ?_) | with_reducible refine bcase (fun h => ?_) (fun h => ?_)) <;> (conv => whnf))
    all_goals try (exfalso; omega)
    exact kB hK (by rw [hok, h1]; rfl)
  · rintro done a rest _ ha hl hinv ih
    have hw := wrap_succ (n := done.length) (by omega)
    simp only [List.all_cons] at hinv
    obtain ⟨op, n, u, den, ps, ks, ham⟩ : ∃ op n u den ps ks, a.amount = .mk op n u den ps ks := by cases h : a.amount; exact ⟨_, _, _, _, _, _, rfl⟩
    have hrow : (c.arts.map Article.cells)[((done.length : Nat) : Int).toNat]? = some [dI a.number, dI a.line, dI a.rank, dI a.lo, dI a.hi, dI a.known, dExprs a.when_, dInts a.unless_, dI op, dI n, dS u, dI den, .isl 3 (ps.map Piece.cells), .isl 6 (exprRows ks)] := by
      simp [ha, Article.cells, ham, exprRows_eq, Ex.op, Ex.n, Ex.unit, Ex.den, Ex.pieces, Ex.kids]
    have hwl : (a.when_.map Ex.cells).length = a.when_.length := by simp
    have hul : (a.unless_.map fun n => [dI n]).length = a.unless_.length := by simp
    have bad : artFew L a = false → fewOK c L = false := fun h => by rw [hok, hinv, h]; rfl
    (refine sgo_sound [] 1000 ?_; conv => whnf)
    repeat' ((first | with_reducible refine bdec (fun h => ?_) (fun h => ?_) | with_reducible refine bndec (fun h => ?_) (fun h => ?_) | with_reducible refine bwtd (fun h => ?_) (fun h => ?_) | with_reducible refine bwfd (fun h => ?_) (fun h => ?_) | with_reducible refine bwtn (fun h => ?_) (fun h => ?_) | with_reducible refine bwfn (fun h => ?_) (fun h => ?_) | with_reducible refine bwtb (fun h => ?_) (fun h => ?_) | with_reducible refine bwfb (fun h => ?_) (fun h => ?_) | with_reducible refine bwt (fun h => ?_) (fun h => ?_) | with_reducible refine bwf (fun h => ?_) (fun h => ?_) | with_reducible refine bnt (fun h => ?_) (fun h => ?_) | with_reducible refine bcase (fun h => ?_) (fun h => ?_)) <;> (conv => whnf))
    all_goals try (exfalso; omega)
    refine swr_index rfl rfl rfl rfl rfl rfl rfl rfl  (row := [dI a.number, dI a.line, dI a.rank, dI a.lo, dI a.hi, dI a.known, dExprs a.when_, dInts a.unless_, dI op, dI n, dS u, dI den, .isl 3 (ps.map Piece.cells), .isl 6 (exprRows ks)]) hrow ?_
    (refine sgor_sound [] 1000 ?_; conv => whnf)
    repeat' ((first | with_reducible refine bdec (fun h => ?_) (fun h => ?_) | with_reducible refine bndec (fun h => ?_) (fun h => ?_) | with_reducible refine bwtd (fun h => ?_) (fun h => ?_) | with_reducible refine bwfd (fun h => ?_) (fun h => ?_) | with_reducible refine bwtn (fun h => ?_) (fun h => ?_) | with_reducible refine bwfn (fun h => ?_) (fun h => ?_) | with_reducible refine bwtb (fun h => ?_) (fun h => ?_) | with_reducible refine bwfb (fun h => ?_) (fun h => ?_) | with_reducible refine bwt (fun h => ?_) (fun h => ?_) | with_reducible refine bwf (fun h => ?_) (fun h => ?_) | with_reducible refine bnt (fun h => ?_) (fun h => ?_) | with_reducible refine bcase (fun h => ?_) (fun h => ?_)) <;> (conv => whnf))
    all_goals try exact kB hK (bad (by simp [artFew]; intros; omega))
    refine swr_pure rfl rfl rfl rfl rfl rfl  (small_spec G (.mk op n u den ps ks) L h0 h1) ?_
    (refine sgor_sound [] 1000 ?_; conv => whnf)
    repeat' ((first | with_reducible refine bdec (fun h => ?_) (fun h => ?_) | with_reducible refine bndec (fun h => ?_) (fun h => ?_) | with_reducible refine bwtd (fun h => ?_) (fun h => ?_) | with_reducible refine bwfd (fun h => ?_) (fun h => ?_) | with_reducible refine bwtn (fun h => ?_) (fun h => ?_) | with_reducible refine bwfn (fun h => ?_) (fun h => ?_) | with_reducible refine bwtb (fun h => ?_) (fun h => ?_) | with_reducible refine bwfb (fun h => ?_) (fun h => ?_) | with_reducible refine bwt (fun h => ?_) (fun h => ?_) | with_reducible refine bwf (fun h => ?_) (fun h => ?_) | with_reducible refine bnt (fun h => ?_) (fun h => ?_) | with_reducible refine bcase (fun h => ?_) (fun h => ?_)) <;> (conv => whnf))
    · exact kB hK (bad (by simp [artFew, ham]; intros; omega))
    have hgood : artFew L a = a.when_.all (fun e => decide ((exSize e : Int) ≤ L)) := by
      simp only [artFew, ham]
      rw [decide_eq_true (by omega), decide_eq_true (by omega), decide_eq_true h]; rfl
    refine sw_keep [1, 2, 5, 6, 7] ?_
    refine sw_each a.when_ (fun i (_ : Unit) => [(1, sI L), (2, .ptr 0 0), (5, sI done.length), (6, .ptr 1 0), (7, sI i)])
      (fun _ _ => [.cells [.imm (dDecls c.facts), .imm (dDecls c.lines), .imm (dArts c.arts)], .cells (artList a op n u den ps ks)])
      (fun done rest _ => a.when_.all (fun e => decide ((exSize e : Int) ≤ L)) = rest.all (fun e => decide ((exSize e : Int) ≤ L))) () rfl ?_ ?_
    · rintro _ h2
      (refine sgo_sound [] 1000 ?_; conv => whnf)
      repeat' ((first | with_reducible refine bdec (fun h => ?_) (fun h => ?_) | with_reducible refine bndec (fun h => ?_) (fun h => ?_) | with_reducible refine bwtd (fun h => ?_) (fun h => ?_) | with_reducible refine bwfd (fun h => ?_) (fun h => ?_) | with_reducible refine bwtn (fun h => ?_) (fun h => ?_) | with_reducible refine bwfn (fun h => ?_) (fun h => ?_) | with_reducible refine bwtb (fun h => ?_) (fun h => ?_) | with_reducible refine bwfb (fun h => ?_) (fun h => ?_) | with_reducible refine bwt (fun h => ?_) (fun h => ?_) | with_reducible refine bwf (fun h => ?_) (fun h => ?_) | with_reducible refine bnt (fun h => ?_) (fun h => ?_) | with_reducible refine bcase (fun h => ?_) (fun h => ?_)) <;> (conv => whnf))
      all_goals try (exfalso; omega)
      rw [hw]
      exact sw_kc [1, 2, 5] 1 (by simp [hH]) (by simp) rfl rfl (ih () (by rw [hinv, hgood, h2]; rfl))
    · rintro d2 e r2 _ ha2 hl2 h2 ih2
      have hw2 := wrap_succ (n := d2.length) (by omega)
      simp only [List.all_cons] at h2
      obtain ⟨o1, n1, u1, d1, p1, q1⟩ := e
      (refine sgo_sound [] 1000 ?_; conv => whnf)
      repeat' ((first | with_reducible refine bdec (fun h => ?_) (fun h => ?_) | with_reducible refine bndec (fun h => ?_) (fun h => ?_) | with_reducible refine bwtd (fun h => ?_) (fun h => ?_) | with_reducible refine bwfd (fun h => ?_) (fun h => ?_) | with_reducible refine bwtn (fun h => ?_) (fun h => ?_) | with_reducible refine bwfn (fun h => ?_) (fun h => ?_) | with_reducible refine bwtb (fun h => ?_) (fun h => ?_) | with_reducible refine bwfb (fun h => ?_) (fun h => ?_) | with_reducible refine bwt (fun h => ?_) (fun h => ?_) | with_reducible refine bwf (fun h => ?_) (fun h => ?_) | with_reducible refine bnt (fun h => ?_) (fun h => ?_) | with_reducible refine bcase (fun h => ?_) (fun h => ?_)) <;> (conv => whnf))
      all_goals try (exfalso; omega)
      refine swr_index rfl rfl rfl rfl rfl rfl rfl rfl  (row := (Ex.mk o1 n1 u1 d1 p1 q1).cells) (by simp [ha2]) ?_
      (refine sgor_sound [] 1000 ?_; conv => whnf)
      refine swr_pure rfl rfl rfl rfl rfl rfl  (small_spec G (.mk o1 n1 u1 d1 p1 q1) L h0 h1) ?_
      (refine sgor_sound [] 1000 ?_; conv => whnf)
      repeat' ((first | with_reducible refine bdec (fun h => ?_) (fun h => ?_) | with_reducible refine bndec (fun h => ?_) (fun h => ?_) | with_reducible refine bwtd (fun h => ?_) (fun h => ?_) | with_reducible refine bwfd (fun h => ?_) (fun h => ?_) | with_reducible refine bwtn (fun h => ?_) (fun h => ?_) | with_reducible refine bwfn (fun h => ?_) (fun h => ?_) | with_reducible refine bwtb (fun h => ?_) (fun h => ?_) | with_reducible refine bwfb (fun h => ?_) (fun h => ?_) | with_reducible refine bwt (fun h => ?_) (fun h => ?_) | with_reducible refine bwf (fun h => ?_) (fun h => ?_) | with_reducible refine bnt (fun h => ?_) (fun h => ?_) | with_reducible refine bcase (fun h => ?_) (fun h => ?_)) <;> (conv => whnf))
      · exact kB hK (bad (by rw [hgood, h2, decide_eq_false h]; rfl))
      · rw [hw2]
        exact sw_kc [1, 2, 5, 6, 7] 2 (by simp [hH]) (by simp) rfl rfl (ih2 () (by rw [h2, decide_eq_true h]; rfl))

def smallOK (c : Codex) (l : List Fact) : Bool := fewOK c 420 && decide (l.length ≤ 402)
theorem lawSmall_spec (c : Codex) (l : List Fact) : SPure Tryz.prog G 10 [c.sv, storeSV l] (sB (smallOK c l)) := by
  refine spure_enter Tryz.func10 rfl (by rw [Tryz.ntmps10]; simp) rfl rfl ?_; intro E hH hK
  have hlen : (l.map Fact.cells).length = l.length := by simp
  (refine sgo_sound [] 1000 ?_; conv => whnf)
  refine swr_pure rfl rfl rfl rfl rfl rfl  (few_spec G c 420 (by omega) (by omega)) ?_
  cases hf : fewOK c 420 with
  | true =>
    (refine sgor_sound [] 1000 ?_; conv => whnf)
    exact kB hK (by simp only [smallOK, hf, Bool.true_and]; exact decide_eq_decide.2 (by omega))
  | false =>
    (refine sgor_sound [] 1000 ?_; conv => whnf)
    exact kB hK (by simp only [smallOK, hf, Bool.false_and])
end Go.Proofs.YthmkdghoaifkbaaGreatDoor

/- Contracts, part Hc: which expressions fit a codex (reference). -/
namespace Go.Proofs.YthmkdghoaifkbaaGreatDoor
open Go Go.Sh
set_option maxRecDepth 10000
set_option maxHeartbeats 4000000
variable (G : List (Nat × D))

def refLeaf (c : Codex) (op n : Int) (u : ByteArray) : Bool :=
  if op = 1 then unitOK u && decide (0 ≤ n) && decide (n ≤ 999999999999) && (!decide (u = tT) || decide (n ≤ 1))
  else if op = 2 then decide (0 ≤ n) && decide (n < c.facts.length) && unitAt c.facts n u
  else if op = 3 then (match c.arts[(artIx n c.arts 0).toNat]? with
    | some a => decide (0 ≤ artIx n c.arts 0) && decide (0 ≤ a.line) && decide (a.line < c.lines.length) && unitAt c.lines a.line u
    | none => false)
  else if op = 4 then decide (1 ≤ n) && decide (n ≤ 4) && decide (u = tN)
  else false

theorem refLeaf_spec (c : Codex) (op n : Int) (u : ByteArray) (den : Int) (ps : List Piece) (ks : List Ex) (hsz : c.arts.length ≤ 9223372036854775807) :
    SPure Tryz.prog G 82 [c.sv, (Ex.mk op n u den ps ks).sv] (sB (refLeaf c op n u)) := by
  refine spure_enter Tryz.func82 rfl (by rw [Tryz.ntmps82]; simp) rfl rfl ?_; intro E hH hK
  have hf : (c.facts.map Decl.cells).length = c.facts.length := by simp
  have hl : (c.lines.map Decl.cells).length = c.lines.length := by simp
  by_cases h1 : op = 1
  · subst h1
    have hr : refLeaf c 1 n u = (unitOK u && decide (0 ≤ n) && decide (n ≤ 999999999999) && (!decide (u = tT) || decide (n ≤ 1))) := rfl
    rw [hr] at hK
    (refine sgo_sound [] 1000 ?_; conv => whnf)
    refine swr_pure rfl rfl rfl rfl rfl rfl  (unit_spec G u) ?_
    (refine sgor_sound [] 1000 ?_; conv => whnf)
    repeat' ((first | with_reducible refine bdec (fun h => ?_) (fun h => ?_) | with_reducible refine bndec (fun h => ?_) (fun h => ?_) | with_reducible refine bwtd (fun h => ?_) (fun h => ?_) | with_reducible refine bwfd (fun h => ?_) (fun h => ?_) | with_reducible refine bwtn (fun h => ?_) (fun h => ?_) | with_reducible refine bwfn (fun h => ?_) (fun h => ?_) | with_reducible refine bwtb (fun h => ?_) (fun h => ?_) | with_reducible refine bwfb (fun h => ?_) (fun h => ?_) | with_reducible refine bwt (fun h => ?_) (fun h => ?_) | with_reducible refine bwf (fun h => ?_) (fun h => ?_) | with_reducible refine bnt (fun h => ?_) (fun h => ?_) | with_reducible refine bcase (fun h => ?_) (fun h => ?_)) <;> (conv => whnf))
    all_goals exact kB hK (by first | (rw [‹unitOK u = true›]; simp [*]; done) | (simp [*]; done))
  by_cases h2 : op = 2
  · subst h2
    have hr : refLeaf c 2 n u = (decide (0 ≤ n) && decide (n < c.facts.length) && unitAt c.facts n u) := rfl
    rw [hr] at hK
    (refine sgo_sound [] 1000 ?_; conv => whnf)
    (refine swd_start mixed rfl ?_; refine sgod_sound [] ?_; conv => whnf)
    repeat' ((first | with_reducible refine bdec (fun h => ?_) (fun h => ?_) | with_reducible refine bndec (fun h => ?_) (fun h => ?_) | with_reducible refine bwtd (fun h => ?_) (fun h => ?_) | with_reducible refine bwfd (fun h => ?_) (fun h => ?_) | with_reducible refine bwtn (fun h => ?_) (fun h => ?_) | with_reducible refine bwfn (fun h => ?_) (fun h => ?_) | with_reducible refine bwtb (fun h => ?_) (fun h => ?_) | with_reducible refine bwfb (fun h => ?_) (fun h => ?_) | with_reducible refine bwt (fun h => ?_) (fun h => ?_) | with_reducible refine bwf (fun h => ?_) (fun h => ?_) | with_reducible refine bnt (fun h => ?_) (fun h => ?_) | with_reducible refine bcase (fun h => ?_) (fun h => ?_)) <;> (conv => whnf))
    · have hlt : n.toNat < c.facts.length := by omega
      obtain ⟨d, hd⟩ : ∃ d, c.facts[n.toNat]? = some d := ⟨c.facts[n.toNat], List.getElem?_eq_getElem hlt⟩
      refine swd_index rfl rfl rfl rfl rfl rfl rfl (i := n.toNat) (by omega) (row := d.cells) (by simp [hd]) ?_
      (refine sgod_sound [] ?_; conv => whnf)
      (refine sgo_sound [] 1000 ?_; conv => whnf)
      refine kB hK ?_
      have hua : unitAt c.facts n u = decide (u = d.unit) := by simp only [unitAt, hd]
      rw [hua, decide_eq_true (by omega), decide_eq_true (by omega)]
      rfl
    all_goals (refine sgo_sound [] 1000 ?_; conv => whnf)
    · exact kB hK (by rw [decide_eq_false (p := n < c.facts.length) (by omega)]; simp)
    · exact kB hK (by rw [decide_eq_false (p := 0 ≤ n) (by omega)]; simp)
  by_cases h3 : op = 3
  · subst h3
    have hr : refLeaf c 3 n u = (match c.arts[(artIx n c.arts 0).toNat]? with
      | some a => decide (0 ≤ artIx n c.arts 0) && decide (0 ≤ a.line) && decide (a.line < c.lines.length) && unitAt c.lines a.line u
      | none => false) := rfl
    rw [hr] at hK
    (refine sgo_sound [] 1000 ?_; conv => whnf)
    refine swr_pure rfl rfl rfl rfl rfl rfl  (numbered_spec G c n hsz) ?_
    (refine sgor_sound [] 1000 ?_; conv => whnf)
    rcases artIx_range n c.arts 0 with h | ⟨g1, g2, a, g3, g4⟩
    · rw [h] at hK ⊢
      (refine swd_start mixed rfl ?_; refine sgod_sound [] ?_; conv => whnf)
      (refine sgo_sound [] 1000 ?_; conv => whnf)
      refine kB hK ?_
      split <;> rfl
    · rw [Nat.sub_zero] at g3
      rw [g3] at hK
      simp only [decide_eq_true (show (0 : Int) ≤ artIx n c.arts 0 from g1), Bool.true_and] at hK
      generalize artIx n c.arts 0 = ix at hK g1 g2 g3 ⊢
      (refine swd_start mixed rfl ?_; refine sgod_sound [] ?_; conv => whnf)
      repeat' ((first | with_reducible refine bdec (fun h => ?_) (fun h => ?_) | with_reducible refine bndec (fun h => ?_) (fun h => ?_) | with_reducible refine bwtd (fun h => ?_) (fun h => ?_) | with_reducible refine bwfd (fun h => ?_) (fun h => ?_) | with_reducible refine bwtn (fun h => ?_) (fun h => ?_) | with_reducible refine bwfn (fun h => ?_) (fun h => ?_) | with_reducible refine bwtb (fun h => ?_) (fun h => ?_) | with_reducible refine bwfb (fun h => ?_) (fun h => ?_) | with_reducible refine bwt (fun h => ?_) (fun h => ?_) | with_reducible refine bwf (fun h => ?_) (fun h => ?_) | with_reducible refine bnt (fun h => ?_) (fun h => ?_) | with_reducible refine bcase (fun h => ?_) (fun h => ?_)) <;> (conv => whnf))
      all_goals try (exfalso; omega)
      refine swd_index rfl rfl rfl rfl rfl rfl rfl (i := ix.toNat) (by omega) (row := a.cells) (by simp [g3]) ?_
      (refine sgod_sound [] ?_; conv => whnf)
      repeat' ((first | with_reducible refine bdec (fun h => ?_) (fun h => ?_) | with_reducible refine bndec (fun h => ?_) (fun h => ?_) | with_reducible refine bwtd (fun h => ?_) (fun h => ?_) | with_reducible refine bwfd (fun h => ?_) (fun h => ?_) | with_reducible refine bwtn (fun h => ?_) (fun h => ?_) | with_reducible refine bwfn (fun h => ?_) (fun h => ?_) | with_reducible refine bwtb (fun h => ?_) (fun h => ?_) | with_reducible refine bwfb (fun h => ?_) (fun h => ?_) | with_reducible refine bwt (fun h => ?_) (fun h => ?_) | with_reducible refine bwf (fun h => ?_) (fun h => ?_) | with_reducible refine bnt (fun h => ?_) (fun h => ?_) | with_reducible refine bcase (fun h => ?_) (fun h => ?_)) <;> (conv => whnf))
      · refine swd_index rfl rfl rfl rfl rfl rfl rfl (i := ix.toNat) (by omega) (row := a.cells) (by simp [g3]) ?_
        (refine sgod_sound [] ?_; conv => whnf)
        repeat' ((first | with_reducible refine bdec (fun h => ?_) (fun h => ?_) | with_reducible refine bndec (fun h => ?_) (fun h => ?_) | with_reducible refine bwtd (fun h => ?_) (fun h => ?_) | with_reducible refine bwfd (fun h => ?_) (fun h => ?_) | with_reducible refine bwtn (fun h => ?_) (fun h => ?_) | with_reducible refine bwfn (fun h => ?_) (fun h => ?_) | with_reducible refine bwtb (fun h => ?_) (fun h => ?_) | with_reducible refine bwfb (fun h => ?_) (fun h => ?_) | with_reducible refine bwt (fun h => ?_) (fun h => ?_) | with_reducible refine bwf (fun h => ?_) (fun h => ?_) | with_reducible refine bnt (fun h => ?_) (fun h => ?_) | with_reducible refine bcase (fun h => ?_) (fun h => ?_)) <;> (conv => whnf))
        · refine swd_index rfl rfl rfl rfl rfl rfl rfl (i := ix.toNat) (by omega) (row := a.cells) (by simp [g3]) ?_
          (refine sgod_sound [] ?_; conv => whnf)
          obtain ⟨d, hd⟩ : ∃ d, c.lines[a.line.toNat]? = some d := ⟨c.lines[a.line.toNat]'(by omega), List.getElem?_eq_getElem _⟩
          refine swd_index rfl rfl rfl rfl rfl rfl rfl (i := a.line.toNat) (by omega) (row := d.cells) (by simp [hd]) ?_
          (refine sgod_sound [] ?_; conv => whnf)
          (refine sgo_sound [] 1000 ?_; conv => whnf)
          refine kB hK ?_
          have hua : unitAt c.lines a.line u = decide (u = d.unit) := by simp only [unitAt, hd]
          rw [hua, decide_eq_true (p := 0 ≤ a.line) (by omega), decide_eq_true (p := a.line < c.lines.length) (by omega)]
          rfl
        · (refine sgo_sound [] 1000 ?_; conv => whnf)
          exact kB hK (by rw [decide_eq_false (p := a.line < c.lines.length) (by omega)]; simp)
      · (refine sgo_sound [] 1000 ?_; conv => whnf)
        exact kB hK (by rw [decide_eq_false (p := 0 ≤ a.line) (by omega)]; simp)
  · (refine sgo_sound [] 1000 ?_; conv => whnf)
    repeat' ((first | with_reducible refine bdec (fun h => ?_) (fun h => ?_) | with_reducible refine bndec (fun h => ?_) (fun h => ?_) | with_reducible refine bwtd (fun h => ?_) (fun h => ?_) | with_reducible refine bwfd (fun h => ?_) (fun h => ?_) | with_reducible refine bwtn (fun h => ?_) (fun h => ?_) | with_reducible refine bwfn (fun h => ?_) (fun h => ?_) | with_reducible refine bwtb (fun h => ?_) (fun h => ?_) | with_reducible refine bwfb (fun h => ?_) (fun h => ?_) | with_reducible refine bwt (fun h => ?_) (fun h => ?_) | with_reducible refine bwf (fun h => ?_) (fun h => ?_) | with_reducible refine bnt (fun h => ?_) (fun h => ?_) | with_reducible refine bcase (fun h => ?_) (fun h => ?_)) <;> (conv => whnf))
    all_goals try (exfalso; omega)
    all_goals exact kB hK (by simp only [refLeaf, if_neg h1, if_neg h2, if_neg h3]; simp [*])

theorem opOK16 (u : ByteArray) (f l : Ex) (len : Int) (h : 2 ≤ len) : opOK 16 u f l len true = (!decide (f.unit = tT) && decide (u = f.unit)) := by simp [opOK, h]
theorem opOK17 (u : ByteArray) (f l : Ex) (len : Int) (h : 2 ≤ len) : opOK 17 u f l len true = (!decide (f.unit = tT) && decide (u = f.unit)) := by simp [opOK, h]
theorem opOK6 (u : ByteArray) (f l : Ex) : opOK 6 u f l 2 (decide (l.unit = f.unit)) = (decide (u = tT) && decide (f.unit = tT) && decide (l.unit = tT)) := by
  by_cases e : f.unit = tT
  · simp [opOK, e]
  · simp [opOK, e]
theorem opOK7 (u : ByteArray) (f l : Ex) : opOK 7 u f l 2 (decide (l.unit = f.unit)) = (decide (u = tT) && decide (f.unit = tT) && decide (l.unit = tT)) := by
  by_cases e : f.unit = tT
  · simp [opOK, e]
  · simp [opOK, e]
theorem opOK8 (u : ByteArray) (f l : Ex) : opOK 8 u f l 2 (decide (l.unit = f.unit)) = (decide (u = tT) && decide (f.unit = l.unit)) := by
  simp [opOK, eq_comm (a := l.unit)]
theorem opOK9 (u : ByteArray) (f l : Ex) : opOK 9 u f l 2 (decide (l.unit = f.unit)) = (decide (u = tT) && decide (f.unit = l.unit) && !decide (f.unit = tT)) := by
  simp [opOK, Bool.and_assoc, eq_comm (a := l.unit)]
theorem opOK10 (u : ByteArray) (f l : Ex) : opOK 10 u f l 2 (decide (l.unit = f.unit)) = (decide (u = tT) && decide (f.unit = l.unit) && !decide (f.unit = tT)) := by
  simp [opOK, Bool.and_assoc, eq_comm (a := l.unit)]
theorem opOK11 (u : ByteArray) (f l : Ex) : opOK 11 u f l 2 (decide (l.unit = f.unit)) = (decide (u = f.unit) && decide (f.unit = l.unit) && !decide (f.unit = tT)) := by
  by_cases e1 : u = f.unit <;> by_cases e2 : l.unit = f.unit <;> simp [opOK, e1, e2, eq_comm (a := f.unit)]
theorem opOK12 (u : ByteArray) (f l : Ex) : opOK 12 u f l 2 (decide (l.unit = f.unit)) = (decide (u = f.unit) && decide (f.unit = l.unit) && !decide (f.unit = tT)) := by
  by_cases e1 : u = f.unit <;> by_cases e2 : l.unit = f.unit <;> simp [opOK, e1, e2, eq_comm (a := f.unit)]
theorem opOK13 (u : ByteArray) (f l : Ex) (s : Bool) : opOK 13 u f l 2 s = (!decide (f.unit = tT) && !decide (l.unit = tT) && ((decide (f.unit = tN) && decide (u = l.unit)) || (decide (l.unit = tN) && decide (u = f.unit)))) := by
  by_cases e1 : f.unit = tN
  · by_cases e2 : l.unit = tN
    · simp [opOK, e1, e2]
    · simp [opOK, e1, e2]
  · simp [opOK, e1, Bool.and_assoc]
theorem opOK14 (u : ByteArray) (f l : Ex) (s : Bool) : opOK 14 u f l 2 s = (decide (u = f.unit) && !decide (f.unit = tT) && decide (l.op = 1) && decide (l.unit = tN) && decide (1 ≤ l.n) && decide (l.n ≤ 1000000)) := by
  have e1 : (!decide (l.n < 1)) = decide (1 ≤ l.n) := by rw [Bool.eq_iff_iff]; simp
  have e2 : (!decide (1000000 < l.n)) = decide (l.n ≤ 1000000) := by rw [Bool.eq_iff_iff]; simp
  simp only [opOK]
  rw [e1, e2]
  by_cases f1 : u = f.unit <;> by_cases f2 : f.unit = tT <;> simp [f1, f2, Bool.and_assoc]
theorem opOK15 (u : ByteArray) (f l : Ex) (s : Bool) : opOK 15 u f l 2 s = (decide (f.unit = tM) && curOK l.unit && decide (u = l.unit)) := by simp [opOK]
theorem opOKelse (op : Int) (u : ByteArray) (f l : Ex) (s : Bool) (h : op < 6 ∨ 17 < op) : opOK op u f l 2 s = false := by
  by_cases e5 : op = 5
  · subst e5; simp [opOK]
  · simp only [opOK]
    rw [if_neg e5, if_neg (by omega), if_neg (by omega), if_neg (by omega), if_neg (by omega), if_neg (by omega), if_neg (by omega), if_neg (by omega), if_neg (by omega)]

end Go.Proofs.YthmkdghoaifkbaaGreatDoor

/- Contracts, part Hd: operations with two kids or more (reference). Printed by gen_many.py. -/
namespace Go.Proofs.YthmkdghoaifkbaaGreatDoor
open Go Go.Sh
set_option maxRecDepth 10000
set_option maxHeartbeats 4000000
variable (G : List (Nat × D))

theorem many6_spec (n : Int) (u : ByteArray) (den : Int) (ps : List Piece) (k0 k1 : Ex) : SPure Tryz.prog G 84 [(Ex.mk 6 n u den ps [k0, k1]).sv] (sB (opOK 6 u k0 k1 2 (decide (k1.unit = k0.unit)))) := by
  have hrows := exprRows_eq [k0, k1]
  have hlen : (exprRows [k0, k1]).length = 2 := by rw [hrows]; rfl
  have h0 : (exprRows [k0, k1])[0]? = some k0.cells := by rw [hrows]; rfl
  have h1 : (exprRows [k0, k1])[1]? = some k1.cells := by rw [hrows]; rfl
  have hkl : [k0, k1].length = 2 := rfl
  generalize [k0, k1] = ks at hrows hlen h0 h1 hkl ⊢
  refine spure_enter Tryz.func84 rfl (by rw [Tryz.ntmps84]; simp) rfl rfl ?_; intro E hH hK
  obtain ⟨o0, n0, u0, d0, p0, q0⟩ := k0
  obtain ⟨o1, n1, u1, d1, p1, q1⟩ := k1
  replace hK : ∀ H', E.K (sB (decide (u = tT) && decide (u0 = tT) && decide (u1 = tT))) H' := by
    intro H'
    have := hK H'
    rw [opOK6] at this
    exact this
  (refine sgo_sound [] 1000 ?_; conv => whnf)
  refine swr_index rfl rfl rfl rfl rfl rfl rfl rfl  (row := (Ex.mk o0 n0 u0 d0 p0 q0).cells) h0 ?_
  (refine sgor_sound [] 1000 ?_; conv => whnf)
  refine swr_index rfl rfl rfl rfl rfl rfl rfl rfl  (row := (Ex.mk o1 n1 u1 d1 p1 q1).cells) h1 ?_
  (refine sgor_sound [] 1000 ?_; conv => whnf)
  refine sw_keep [1, 3, 4, 5] ?_
  refine sw_each ks (fun i (_ : Unit) => [(1, .ptr 0 0), (3, sS u0), (4, sS u1), (5, sI i)]) (fun _ _ => [.cells [sI 6, sI n, sS u, sI den, .imm (.isl 3 (ps.map Piece.cells)), .imm (.isl 6 (exprRows ks))]])
    (fun _ _ _ => True) () trivial ?_ ?_
  · as_aux_lemma =>
      rintro _ _
      (refine sgo_sound [] 1000 ?_; conv => whnf)
      repeat' ((first | with_reducible refine bdec (fun h => ?_) (fun h => ?_) | with_reducible refine bndec (fun h => ?_) (fun h => ?_) | with_reducible refine bwtd (fun h => ?_) (fun h => ?_) | with_reducible refine bwfd (fun h => ?_) (fun h => ?_) | with_reducible refine bwtn (fun h => ?_) (fun h => ?_) | with_reducible refine bwfn (fun h => ?_) (fun h => ?_) | with_reducible refine bwtb (fun h => ?_) (fun h => ?_) | with_reducible refine bwfb (fun h => ?_) (fun h => ?_) | with_reducible refine bwt (fun h => ?_) (fun h => ?_) | with_reducible refine bwf (fun h => ?_) (fun h => ?_) | with_reducible refine bnt (fun h => ?_) (fun h => ?_) | with_reducible refine bcase (fun h => ?_) (fun h => ?_)) <;> (conv => whnf))
      all_goals try (exfalso; omega)
      all_goals exact kB hK (by simp [tT, tN, *])
  · as_aux_lemma =>
      rintro done k rest _ ha hl _ ih
      have hw := wrap_succ (n := done.length) (by omega)
      (refine sgo_sound [] 1000 ?_; conv => whnf)
      repeat' ((first | with_reducible refine bdec (fun h => ?_) (fun h => ?_) | with_reducible refine bndec (fun h => ?_) (fun h => ?_) | with_reducible refine bwtd (fun h => ?_) (fun h => ?_) | with_reducible refine bwfd (fun h => ?_) (fun h => ?_) | with_reducible refine bwtn (fun h => ?_) (fun h => ?_) | with_reducible refine bwfn (fun h => ?_) (fun h => ?_) | with_reducible refine bwtb (fun h => ?_) (fun h => ?_) | with_reducible refine bwfb (fun h => ?_) (fun h => ?_) | with_reducible refine bwt (fun h => ?_) (fun h => ?_) | with_reducible refine bwf (fun h => ?_) (fun h => ?_) | with_reducible refine bnt (fun h => ?_) (fun h => ?_) | with_reducible refine bcase (fun h => ?_) (fun h => ?_)) <;> (conv => whnf))
      all_goals try (exfalso; omega)
      all_goals (rw [hw]; exact sw_kc [1, 3, 4, 5] 1 (by simp [hH]) (by simp) rfl rfl (ih () trivial))

theorem many7_spec (n : Int) (u : ByteArray) (den : Int) (ps : List Piece) (k0 k1 : Ex) : SPure Tryz.prog G 84 [(Ex.mk 7 n u den ps [k0, k1]).sv] (sB (opOK 7 u k0 k1 2 (decide (k1.unit = k0.unit)))) := by
  have hrows := exprRows_eq [k0, k1]
  have hlen : (exprRows [k0, k1]).length = 2 := by rw [hrows]; rfl
  have h0 : (exprRows [k0, k1])[0]? = some k0.cells := by rw [hrows]; rfl
  have h1 : (exprRows [k0, k1])[1]? = some k1.cells := by rw [hrows]; rfl
  have hkl : [k0, k1].length = 2 := rfl
  generalize [k0, k1] = ks at hrows hlen h0 h1 hkl ⊢
  refine spure_enter Tryz.func84 rfl (by rw [Tryz.ntmps84]; simp) rfl rfl ?_; intro E hH hK
  obtain ⟨o0, n0, u0, d0, p0, q0⟩ := k0
  obtain ⟨o1, n1, u1, d1, p1, q1⟩ := k1
  replace hK : ∀ H', E.K (sB (decide (u = tT) && decide (u0 = tT) && decide (u1 = tT))) H' := by
    intro H'
    have := hK H'
    rw [opOK7] at this
    exact this
  (refine sgo_sound [] 1000 ?_; conv => whnf)
  refine swr_index rfl rfl rfl rfl rfl rfl rfl rfl  (row := (Ex.mk o0 n0 u0 d0 p0 q0).cells) h0 ?_
  (refine sgor_sound [] 1000 ?_; conv => whnf)
  refine swr_index rfl rfl rfl rfl rfl rfl rfl rfl  (row := (Ex.mk o1 n1 u1 d1 p1 q1).cells) h1 ?_
  (refine sgor_sound [] 1000 ?_; conv => whnf)
  refine sw_keep [1, 3, 4, 5] ?_
  refine sw_each ks (fun i (_ : Unit) => [(1, .ptr 0 0), (3, sS u0), (4, sS u1), (5, sI i)]) (fun _ _ => [.cells [sI 7, sI n, sS u, sI den, .imm (.isl 3 (ps.map Piece.cells)), .imm (.isl 6 (exprRows ks))]])
    (fun _ _ _ => True) () trivial ?_ ?_
  · as_aux_lemma =>
      rintro _ _
      (refine sgo_sound [] 1000 ?_; conv => whnf)
      repeat' ((first | with_reducible refine bdec (fun h => ?_) (fun h => ?_) | with_reducible refine bndec (fun h => ?_) (fun h => ?_) | with_reducible refine bwtd (fun h => ?_) (fun h => ?_) | with_reducible refine bwfd (fun h => ?_) (fun h => ?_) | with_reducible refine bwtn (fun h => ?_) (fun h => ?_) | with_reducible refine bwfn (fun h => ?_) (fun h => ?_) | with_reducible refine bwtb (fun h => ?_) (fun h => ?_) | with_reducible refine bwfb (fun h => ?_) (fun h => ?_) | with_reducible refine bwt (fun h => ?_) (fun h => ?_) | with_reducible refine bwf (fun h => ?_) (fun h => ?_) | with_reducible refine bnt (fun h => ?_) (fun h => ?_) | with_reducible refine bcase (fun h => ?_) (fun h => ?_)) <;> (conv => whnf))
      all_goals try (exfalso; omega)
      all_goals exact kB hK (by simp [tT, tN, *])
  · as_aux_lemma =>
      rintro done k rest _ ha hl _ ih
      have hw := wrap_succ (n := done.length) (by omega)
      (refine sgo_sound [] 1000 ?_; conv => whnf)
      repeat' ((first | with_reducible refine bdec (fun h => ?_) (fun h => ?_) | with_reducible refine bndec (fun h => ?_) (fun h => ?_) | with_reducible refine bwtd (fun h => ?_) (fun h => ?_) | with_reducible refine bwfd (fun h => ?_) (fun h => ?_) | with_reducible refine bwtn (fun h => ?_) (fun h => ?_) | with_reducible refine bwfn (fun h => ?_) (fun h => ?_) | with_reducible refine bwtb (fun h => ?_) (fun h => ?_) | with_reducible refine bwfb (fun h => ?_) (fun h => ?_) | with_reducible refine bwt (fun h => ?_) (fun h => ?_) | with_reducible refine bwf (fun h => ?_) (fun h => ?_) | with_reducible refine bnt (fun h => ?_) (fun h => ?_) | with_reducible refine bcase (fun h => ?_) (fun h => ?_)) <;> (conv => whnf))
      all_goals try (exfalso; omega)
      all_goals (rw [hw]; exact sw_kc [1, 3, 4, 5] 1 (by simp [hH]) (by simp) rfl rfl (ih () trivial))

theorem many8_spec (n : Int) (u : ByteArray) (den : Int) (ps : List Piece) (k0 k1 : Ex) : SPure Tryz.prog G 84 [(Ex.mk 8 n u den ps [k0, k1]).sv] (sB (opOK 8 u k0 k1 2 (decide (k1.unit = k0.unit)))) := by
  have hrows := exprRows_eq [k0, k1]
  have hlen : (exprRows [k0, k1]).length = 2 := by rw [hrows]; rfl
  have h0 : (exprRows [k0, k1])[0]? = some k0.cells := by rw [hrows]; rfl
  have h1 : (exprRows [k0, k1])[1]? = some k1.cells := by rw [hrows]; rfl
  have hkl : [k0, k1].length = 2 := rfl
  generalize [k0, k1] = ks at hrows hlen h0 h1 hkl ⊢
  refine spure_enter Tryz.func84 rfl (by rw [Tryz.ntmps84]; simp) rfl rfl ?_; intro E hH hK
  obtain ⟨o0, n0, u0, d0, p0, q0⟩ := k0
  obtain ⟨o1, n1, u1, d1, p1, q1⟩ := k1
  replace hK : ∀ H', E.K (sB (decide (u = tT) && decide (u0 = u1))) H' := by
    intro H'
    have := hK H'
    rw [opOK8] at this
    exact this
  (refine sgo_sound [] 1000 ?_; conv => whnf)
  refine swr_index rfl rfl rfl rfl rfl rfl rfl rfl  (row := (Ex.mk o0 n0 u0 d0 p0 q0).cells) h0 ?_
  (refine sgor_sound [] 1000 ?_; conv => whnf)
  refine swr_index rfl rfl rfl rfl rfl rfl rfl rfl  (row := (Ex.mk o1 n1 u1 d1 p1 q1).cells) h1 ?_
  (refine sgor_sound [] 1000 ?_; conv => whnf)
  refine sw_keep [1, 3, 4, 5] ?_
  refine sw_each ks (fun i (_ : Unit) => [(1, .ptr 0 0), (3, sS u0), (4, sS u1), (5, sI i)]) (fun _ _ => [.cells [sI 8, sI n, sS u, sI den, .imm (.isl 3 (ps.map Piece.cells)), .imm (.isl 6 (exprRows ks))]])
    (fun _ _ _ => True) () trivial ?_ ?_
  · as_aux_lemma =>
      rintro _ _
      (refine sgo_sound [] 1000 ?_; conv => whnf)
      repeat' ((first | with_reducible refine bdec (fun h => ?_) (fun h => ?_) | with_reducible refine bndec (fun h => ?_) (fun h => ?_) | with_reducible refine bwtd (fun h => ?_) (fun h => ?_) | with_reducible refine bwfd (fun h => ?_) (fun h => ?_) | with_reducible refine bwtn (fun h => ?_) (fun h => ?_) | with_reducible refine bwfn (fun h => ?_) (fun h => ?_) | with_reducible refine bwtb (fun h => ?_) (fun h => ?_) | with_reducible refine bwfb (fun h => ?_) (fun h => ?_) | with_reducible refine bwt (fun h => ?_) (fun h => ?_) | with_reducible refine bwf (fun h => ?_) (fun h => ?_) | with_reducible refine bnt (fun h => ?_) (fun h => ?_) | with_reducible refine bcase (fun h => ?_) (fun h => ?_)) <;> (conv => whnf))
      all_goals try (exfalso; omega)
      all_goals exact kB hK (by simp [tT, tN, *])
  · as_aux_lemma =>
      rintro done k rest _ ha hl _ ih
      have hw := wrap_succ (n := done.length) (by omega)
      (refine sgo_sound [] 1000 ?_; conv => whnf)
      repeat' ((first | with_reducible refine bdec (fun h => ?_) (fun h => ?_) | with_reducible refine bndec (fun h => ?_) (fun h => ?_) | with_reducible refine bwtd (fun h => ?_) (fun h => ?_) | with_reducible refine bwfd (fun h => ?_) (fun h => ?_) | with_reducible refine bwtn (fun h => ?_) (fun h => ?_) | with_reducible refine bwfn (fun h => ?_) (fun h => ?_) | with_reducible refine bwtb (fun h => ?_) (fun h => ?_) | with_reducible refine bwfb (fun h => ?_) (fun h => ?_) | with_reducible refine bwt (fun h => ?_) (fun h => ?_) | with_reducible refine bwf (fun h => ?_) (fun h => ?_) | with_reducible refine bnt (fun h => ?_) (fun h => ?_) | with_reducible refine bcase (fun h => ?_) (fun h => ?_)) <;> (conv => whnf))
      all_goals try (exfalso; omega)
      all_goals (rw [hw]; exact sw_kc [1, 3, 4, 5] 1 (by simp [hH]) (by simp) rfl rfl (ih () trivial))

theorem many9_spec (n : Int) (u : ByteArray) (den : Int) (ps : List Piece) (k0 k1 : Ex) : SPure Tryz.prog G 84 [(Ex.mk 9 n u den ps [k0, k1]).sv] (sB (opOK 9 u k0 k1 2 (decide (k1.unit = k0.unit)))) := by
  have hrows := exprRows_eq [k0, k1]
  have hlen : (exprRows [k0, k1]).length = 2 := by rw [hrows]; rfl
  have h0 : (exprRows [k0, k1])[0]? = some k0.cells := by rw [hrows]; rfl
  have h1 : (exprRows [k0, k1])[1]? = some k1.cells := by rw [hrows]; rfl
  have hkl : [k0, k1].length = 2 := rfl
  generalize [k0, k1] = ks at hrows hlen h0 h1 hkl ⊢
  refine spure_enter Tryz.func84 rfl (by rw [Tryz.ntmps84]; simp) rfl rfl ?_; intro E hH hK
  obtain ⟨o0, n0, u0, d0, p0, q0⟩ := k0
  obtain ⟨o1, n1, u1, d1, p1, q1⟩ := k1
  replace hK : ∀ H', E.K (sB (decide (u = tT) && decide (u0 = u1) && !decide (u0 = tT))) H' := by
    intro H'
    have := hK H'
    rw [opOK9] at this
    exact this
  (refine sgo_sound [] 1000 ?_; conv => whnf)
  refine swr_index rfl rfl rfl rfl rfl rfl rfl rfl  (row := (Ex.mk o0 n0 u0 d0 p0 q0).cells) h0 ?_
  (refine sgor_sound [] 1000 ?_; conv => whnf)
  refine swr_index rfl rfl rfl rfl rfl rfl rfl rfl  (row := (Ex.mk o1 n1 u1 d1 p1 q1).cells) h1 ?_
  (refine sgor_sound [] 1000 ?_; conv => whnf)
  refine sw_keep [1, 3, 4, 5] ?_
  refine sw_each ks (fun i (_ : Unit) => [(1, .ptr 0 0), (3, sS u0), (4, sS u1), (5, sI i)]) (fun _ _ => [.cells [sI 9, sI n, sS u, sI den, .imm (.isl 3 (ps.map Piece.cells)), .imm (.isl 6 (exprRows ks))]])
    (fun _ _ _ => True) () trivial ?_ ?_
  · as_aux_lemma =>
      rintro _ _
      (refine sgo_sound [] 1000 ?_; conv => whnf)
      repeat' ((first | with_reducible refine bdec (fun h => ?_) (fun h => ?_) | with_reducible refine bndec (fun h => ?_) (fun h => ?_) | with_reducible refine bwtd (fun h => ?_) (fun h => ?_) | with_reducible refine bwfd (fun h => ?_) (fun h => ?_) | with_reducible refine bwtn (fun h => ?_) (fun h => ?_) | with_reducible refine bwfn (fun h => ?_) (fun h => ?_) | with_reducible refine bwtb (fun h => ?_) (fun h => ?_) | with_reducible refine bwfb (fun h => ?_) (fun h => ?_) | with_reducible refine bwt (fun h => ?_) (fun h => ?_) | with_reducible refine bwf (fun h => ?_) (fun h => ?_) | with_reducible refine bnt (fun h => ?_) (fun h => ?_) | with_reducible refine bcase (fun h => ?_) (fun h => ?_)) <;> (conv => whnf))
      all_goals try (exfalso; omega)
      all_goals exact kB hK (by simp [tT, tN, *])
  · as_aux_lemma =>
      rintro done k rest _ ha hl _ ih
      have hw := wrap_succ (n := done.length) (by omega)
      (refine sgo_sound [] 1000 ?_; conv => whnf)
      repeat' ((first | with_reducible refine bdec (fun h => ?_) (fun h => ?_) | with_reducible refine bndec (fun h => ?_) (fun h => ?_) | with_reducible refine bwtd (fun h => ?_) (fun h => ?_) | with_reducible refine bwfd (fun h => ?_) (fun h => ?_) | with_reducible refine bwtn (fun h => ?_) (fun h => ?_) | with_reducible refine bwfn (fun h => ?_) (fun h => ?_) | with_reducible refine bwtb (fun h => ?_) (fun h => ?_) | with_reducible refine bwfb (fun h => ?_) (fun h => ?_) | with_reducible refine bwt (fun h => ?_) (fun h => ?_) | with_reducible refine bwf (fun h => ?_) (fun h => ?_) | with_reducible refine bnt (fun h => ?_) (fun h => ?_) | with_reducible refine bcase (fun h => ?_) (fun h => ?_)) <;> (conv => whnf))
      all_goals try (exfalso; omega)
      all_goals (rw [hw]; exact sw_kc [1, 3, 4, 5] 1 (by simp [hH]) (by simp) rfl rfl (ih () trivial))

theorem many10_spec (n : Int) (u : ByteArray) (den : Int) (ps : List Piece) (k0 k1 : Ex) : SPure Tryz.prog G 84 [(Ex.mk 10 n u den ps [k0, k1]).sv] (sB (opOK 10 u k0 k1 2 (decide (k1.unit = k0.unit)))) := by
  have hrows := exprRows_eq [k0, k1]
  have hlen : (exprRows [k0, k1]).length = 2 := by rw [hrows]; rfl
  have h0 : (exprRows [k0, k1])[0]? = some k0.cells := by rw [hrows]; rfl
  have h1 : (exprRows [k0, k1])[1]? = some k1.cells := by rw [hrows]; rfl
  have hkl : [k0, k1].length = 2 := rfl
  generalize [k0, k1] = ks at hrows hlen h0 h1 hkl ⊢
  refine spure_enter Tryz.func84 rfl (by rw [Tryz.ntmps84]; simp) rfl rfl ?_; intro E hH hK
  obtain ⟨o0, n0, u0, d0, p0, q0⟩ := k0
  obtain ⟨o1, n1, u1, d1, p1, q1⟩ := k1
  replace hK : ∀ H', E.K (sB (decide (u = tT) && decide (u0 = u1) && !decide (u0 = tT))) H' := by
    intro H'
    have := hK H'
    rw [opOK10] at this
    exact this
  (refine sgo_sound [] 1000 ?_; conv => whnf)
  refine swr_index rfl rfl rfl rfl rfl rfl rfl rfl  (row := (Ex.mk o0 n0 u0 d0 p0 q0).cells) h0 ?_
  (refine sgor_sound [] 1000 ?_; conv => whnf)
  refine swr_index rfl rfl rfl rfl rfl rfl rfl rfl  (row := (Ex.mk o1 n1 u1 d1 p1 q1).cells) h1 ?_
  (refine sgor_sound [] 1000 ?_; conv => whnf)
  refine sw_keep [1, 3, 4, 5] ?_
  refine sw_each ks (fun i (_ : Unit) => [(1, .ptr 0 0), (3, sS u0), (4, sS u1), (5, sI i)]) (fun _ _ => [.cells [sI 10, sI n, sS u, sI den, .imm (.isl 3 (ps.map Piece.cells)), .imm (.isl 6 (exprRows ks))]])
    (fun _ _ _ => True) () trivial ?_ ?_
  · as_aux_lemma =>
      rintro _ _
      (refine sgo_sound [] 1000 ?_; conv => whnf)
      repeat' ((first | with_reducible refine bdec (fun h => ?_) (fun h => ?_) | with_reducible refine bndec (fun h => ?_) (fun h => ?_) | with_reducible refine bwtd (fun h => ?_) (fun h => ?_) | with_reducible refine bwfd (fun h => ?_) (fun h => ?_) | with_reducible refine bwtn (fun h => ?_) (fun h => ?_) | with_reducible refine bwfn (fun h => ?_) (fun h => ?_) | with_reducible refine bwtb (fun h => ?_) (fun h => ?_) | with_reducible refine bwfb (fun h => ?_) (fun h => ?_) | with_reducible refine bwt (fun h => ?_) (fun h => ?_) | with_reducible refine bwf (fun h => ?_) (fun h => ?_) | with_reducible refine bnt (fun h => ?_) (fun h => ?_) | with_reducible refine bcase (fun h => ?_) (fun h => ?_)) <;> (conv => whnf))
      all_goals try (exfalso; omega)
      all_goals exact kB hK (by simp [tT, tN, *])
  · as_aux_lemma =>
      rintro done k rest _ ha hl _ ih
      have hw := wrap_succ (n := done.length) (by omega)
      (refine sgo_sound [] 1000 ?_; conv => whnf)
      repeat' ((first | with_reducible refine bdec (fun h => ?_) (fun h => ?_) | with_reducible refine bndec (fun h => ?_) (fun h => ?_) | with_reducible refine bwtd (fun h => ?_) (fun h => ?_) | with_reducible refine bwfd (fun h => ?_) (fun h => ?_) | with_reducible refine bwtn (fun h => ?_) (fun h => ?_) | with_reducible refine bwfn (fun h => ?_) (fun h => ?_) | with_reducible refine bwtb (fun h => ?_) (fun h => ?_) | with_reducible refine bwfb (fun h => ?_) (fun h => ?_) | with_reducible refine bwt (fun h => ?_) (fun h => ?_) | with_reducible refine bwf (fun h => ?_) (fun h => ?_) | with_reducible refine bnt (fun h => ?_) (fun h => ?_) | with_reducible refine bcase (fun h => ?_) (fun h => ?_)) <;> (conv => whnf))
      all_goals try (exfalso; omega)
      all_goals (rw [hw]; exact sw_kc [1, 3, 4, 5] 1 (by simp [hH]) (by simp) rfl rfl (ih () trivial))

theorem many11_spec (n : Int) (u : ByteArray) (den : Int) (ps : List Piece) (k0 k1 : Ex) : SPure Tryz.prog G 84 [(Ex.mk 11 n u den ps [k0, k1]).sv] (sB (opOK 11 u k0 k1 2 (decide (k1.unit = k0.unit)))) := by
  have hrows := exprRows_eq [k0, k1]
  have hlen : (exprRows [k0, k1]).length = 2 := by rw [hrows]; rfl
  have h0 : (exprRows [k0, k1])[0]? = some k0.cells := by rw [hrows]; rfl
  have h1 : (exprRows [k0, k1])[1]? = some k1.cells := by rw [hrows]; rfl
  have hkl : [k0, k1].length = 2 := rfl
  generalize [k0, k1] = ks at hrows hlen h0 h1 hkl ⊢
  refine spure_enter Tryz.func84 rfl (by rw [Tryz.ntmps84]; simp) rfl rfl ?_; intro E hH hK
  obtain ⟨o0, n0, u0, d0, p0, q0⟩ := k0
  obtain ⟨o1, n1, u1, d1, p1, q1⟩ := k1
  replace hK : ∀ H', E.K (sB (decide (u = u0) && decide (u0 = u1) && !decide (u0 = tT))) H' := by
    intro H'
    have := hK H'
    rw [opOK11] at this
    exact this
  (refine sgo_sound [] 1000 ?_; conv => whnf)
  refine swr_index rfl rfl rfl rfl rfl rfl rfl rfl  (row := (Ex.mk o0 n0 u0 d0 p0 q0).cells) h0 ?_
  (refine sgor_sound [] 1000 ?_; conv => whnf)
  refine swr_index rfl rfl rfl rfl rfl rfl rfl rfl  (row := (Ex.mk o1 n1 u1 d1 p1 q1).cells) h1 ?_
  (refine sgor_sound [] 1000 ?_; conv => whnf)
  refine sw_keep [1, 3, 4, 5] ?_
  refine sw_each ks (fun i (_ : Unit) => [(1, .ptr 0 0), (3, sS u0), (4, sS u1), (5, sI i)]) (fun _ _ => [.cells [sI 11, sI n, sS u, sI den, .imm (.isl 3 (ps.map Piece.cells)), .imm (.isl 6 (exprRows ks))]])
    (fun _ _ _ => True) () trivial ?_ ?_
  · as_aux_lemma =>
      rintro _ _
      (refine sgo_sound [] 1000 ?_; conv => whnf)
      repeat' ((first | with_reducible refine bdec (fun h => ?_) (fun h => ?_) | with_reducible refine bndec (fun h => ?_) (fun h => ?_) | with_reducible refine bwtd (fun h => ?_) (fun h => ?_) | with_reducible refine bwfd (fun h => ?_) (fun h => ?_) | with_reducible refine bwtn (fun h => ?_) (fun h => ?_) | with_reducible refine bwfn (fun h => ?_) (fun h => ?_) | with_reducible refine bwtb (fun h => ?_) (fun h => ?_) | with_reducible refine bwfb (fun h => ?_) (fun h => ?_) | with_reducible refine bwt (fun h => ?_) (fun h => ?_) | with_reducible refine bwf (fun h => ?_) (fun h => ?_) | with_reducible refine bnt (fun h => ?_) (fun h => ?_) | with_reducible refine bcase (fun h => ?_) (fun h => ?_)) <;> (conv => whnf))
      all_goals try (exfalso; omega)
      all_goals exact kB hK (by simp [tT, tN, *])
  · as_aux_lemma =>
      rintro done k rest _ ha hl _ ih
      have hw := wrap_succ (n := done.length) (by omega)
      (refine sgo_sound [] 1000 ?_; conv => whnf)
      repeat' ((first | with_reducible refine bdec (fun h => ?_) (fun h => ?_) | with_reducible refine bndec (fun h => ?_) (fun h => ?_) | with_reducible refine bwtd (fun h => ?_) (fun h => ?_) | with_reducible refine bwfd (fun h => ?_) (fun h => ?_) | with_reducible refine bwtn (fun h => ?_) (fun h => ?_) | with_reducible refine bwfn (fun h => ?_) (fun h => ?_) | with_reducible refine bwtb (fun h => ?_) (fun h => ?_) | with_reducible refine bwfb (fun h => ?_) (fun h => ?_) | with_reducible refine bwt (fun h => ?_) (fun h => ?_) | with_reducible refine bwf (fun h => ?_) (fun h => ?_) | with_reducible refine bnt (fun h => ?_) (fun h => ?_) | with_reducible refine bcase (fun h => ?_) (fun h => ?_)) <;> (conv => whnf))
      all_goals try (exfalso; omega)
      all_goals (rw [hw]; exact sw_kc [1, 3, 4, 5] 1 (by simp [hH]) (by simp) rfl rfl (ih () trivial))

theorem many12_spec (n : Int) (u : ByteArray) (den : Int) (ps : List Piece) (k0 k1 : Ex) : SPure Tryz.prog G 84 [(Ex.mk 12 n u den ps [k0, k1]).sv] (sB (opOK 12 u k0 k1 2 (decide (k1.unit = k0.unit)))) := by
  have hrows := exprRows_eq [k0, k1]
  have hlen : (exprRows [k0, k1]).length = 2 := by rw [hrows]; rfl
  have h0 : (exprRows [k0, k1])[0]? = some k0.cells := by rw [hrows]; rfl
  have h1 : (exprRows [k0, k1])[1]? = some k1.cells := by rw [hrows]; rfl
  have hkl : [k0, k1].length = 2 := rfl
  generalize [k0, k1] = ks at hrows hlen h0 h1 hkl ⊢
  refine spure_enter Tryz.func84 rfl (by rw [Tryz.ntmps84]; simp) rfl rfl ?_; intro E hH hK
  obtain ⟨o0, n0, u0, d0, p0, q0⟩ := k0
  obtain ⟨o1, n1, u1, d1, p1, q1⟩ := k1
  replace hK : ∀ H', E.K (sB (decide (u = u0) && decide (u0 = u1) && !decide (u0 = tT))) H' := by
    intro H'
    have := hK H'
    rw [opOK12] at this
    exact this
  (refine sgo_sound [] 1000 ?_; conv => whnf)
  refine swr_index rfl rfl rfl rfl rfl rfl rfl rfl  (row := (Ex.mk o0 n0 u0 d0 p0 q0).cells) h0 ?_
  (refine sgor_sound [] 1000 ?_; conv => whnf)
  refine swr_index rfl rfl rfl rfl rfl rfl rfl rfl  (row := (Ex.mk o1 n1 u1 d1 p1 q1).cells) h1 ?_
  (refine sgor_sound [] 1000 ?_; conv => whnf)
  refine sw_keep [1, 3, 4, 5] ?_
  refine sw_each ks (fun i (_ : Unit) => [(1, .ptr 0 0), (3, sS u0), (4, sS u1), (5, sI i)]) (fun _ _ => [.cells [sI 12, sI n, sS u, sI den, .imm (.isl 3 (ps.map Piece.cells)), .imm (.isl 6 (exprRows ks))]])
    (fun _ _ _ => True) () trivial ?_ ?_
  · as_aux_lemma =>
      rintro _ _
      (refine sgo_sound [] 1000 ?_; conv => whnf)
      repeat' ((first | with_reducible refine bdec (fun h => ?_) (fun h => ?_) | with_reducible refine bndec (fun h => ?_) (fun h => ?_) | with_reducible refine bwtd (fun h => ?_) (fun h => ?_) | with_reducible refine bwfd (fun h => ?_) (fun h => ?_) | with_reducible refine bwtn (fun h => ?_) (fun h => ?_) | with_reducible refine bwfn (fun h => ?_) (fun h => ?_) | with_reducible refine bwtb (fun h => ?_) (fun h => ?_) | with_reducible refine bwfb (fun h => ?_) (fun h => ?_) | with_reducible refine bwt (fun h => ?_) (fun h => ?_) | with_reducible refine bwf (fun h => ?_) (fun h => ?_) | with_reducible refine bnt (fun h => ?_) (fun h => ?_) | with_reducible refine bcase (fun h => ?_) (fun h => ?_)) <;> (conv => whnf))
      all_goals try (exfalso; omega)
      all_goals exact kB hK (by simp [tT, tN, *])
  · as_aux_lemma =>
      rintro done k rest _ ha hl _ ih
      have hw := wrap_succ (n := done.length) (by omega)
      (refine sgo_sound [] 1000 ?_; conv => whnf)
      repeat' ((first | with_reducible refine bdec (fun h => ?_) (fun h => ?_) | with_reducible refine bndec (fun h => ?_) (fun h => ?_) | with_reducible refine bwtd (fun h => ?_) (fun h => ?_) | with_reducible refine bwfd (fun h => ?_) (fun h => ?_) | with_reducible refine bwtn (fun h => ?_) (fun h => ?_) | with_reducible refine bwfn (fun h => ?_) (fun h => ?_) | with_reducible refine bwtb (fun h => ?_) (fun h => ?_) | with_reducible refine bwfb (fun h => ?_) (fun h => ?_) | with_reducible refine bwt (fun h => ?_) (fun h => ?_) | with_reducible refine bwf (fun h => ?_) (fun h => ?_) | with_reducible refine bnt (fun h => ?_) (fun h => ?_) | with_reducible refine bcase (fun h => ?_) (fun h => ?_)) <;> (conv => whnf))
      all_goals try (exfalso; omega)
      all_goals (rw [hw]; exact sw_kc [1, 3, 4, 5] 1 (by simp [hH]) (by simp) rfl rfl (ih () trivial))

theorem many13_spec (n : Int) (u : ByteArray) (den : Int) (ps : List Piece) (k0 k1 : Ex) : SPure Tryz.prog G 84 [(Ex.mk 13 n u den ps [k0, k1]).sv] (sB (opOK 13 u k0 k1 2 (decide (k1.unit = k0.unit)))) := by
  have hrows := exprRows_eq [k0, k1]
  have hlen : (exprRows [k0, k1]).length = 2 := by rw [hrows]; rfl
  have h0 : (exprRows [k0, k1])[0]? = some k0.cells := by rw [hrows]; rfl
  have h1 : (exprRows [k0, k1])[1]? = some k1.cells := by rw [hrows]; rfl
  have hkl : [k0, k1].length = 2 := rfl
  generalize [k0, k1] = ks at hrows hlen h0 h1 hkl ⊢
  refine spure_enter Tryz.func84 rfl (by rw [Tryz.ntmps84]; simp) rfl rfl ?_; intro E hH hK
  obtain ⟨o0, n0, u0, d0, p0, q0⟩ := k0
  obtain ⟨o1, n1, u1, d1, p1, q1⟩ := k1
  replace hK : ∀ H', E.K (sB (!decide (u0 = tT) && !decide (u1 = tT) && ((decide (u0 = tN) && decide (u = u1)) || (decide (u1 = tN) && decide (u = u0))))) H' := by
    intro H'
    have := hK H'
    rw [opOK13] at this
    exact this
  (refine sgo_sound [] 1000 ?_; conv => whnf)
  refine swr_index rfl rfl rfl rfl rfl rfl rfl rfl  (row := (Ex.mk o0 n0 u0 d0 p0 q0).cells) h0 ?_
  (refine sgor_sound [] 1000 ?_; conv => whnf)
  refine swr_index rfl rfl rfl rfl rfl rfl rfl rfl  (row := (Ex.mk o1 n1 u1 d1 p1 q1).cells) h1 ?_
  (refine sgor_sound [] 1000 ?_; conv => whnf)
  refine sw_keep [1, 3, 4, 5] ?_
  refine sw_each ks (fun i (_ : Unit) => [(1, .ptr 0 0), (3, sS u0), (4, sS u1), (5, sI i)]) (fun _ _ => [.cells [sI 13, sI n, sS u, sI den, .imm (.isl 3 (ps.map Piece.cells)), .imm (.isl 6 (exprRows ks))]])
    (fun _ _ _ => True) () trivial ?_ ?_
  · as_aux_lemma =>
      rintro _ _
      (refine sgo_sound [] 1000 ?_; conv => whnf)
      repeat' ((first | with_reducible refine bdec (fun h => ?_) (fun h => ?_) | with_reducible refine bndec (fun h => ?_) (fun h => ?_) | with_reducible refine bwtd (fun h => ?_) (fun h => ?_) | with_reducible refine bwfd (fun h => ?_) (fun h => ?_) | with_reducible refine bwtn (fun h => ?_) (fun h => ?_) | with_reducible refine bwfn (fun h => ?_) (fun h => ?_) | with_reducible refine bwtb (fun h => ?_) (fun h => ?_) | with_reducible refine bwfb (fun h => ?_) (fun h => ?_) | with_reducible refine bwt (fun h => ?_) (fun h => ?_) | with_reducible refine bwf (fun h => ?_) (fun h => ?_) | with_reducible refine bnt (fun h => ?_) (fun h => ?_) | with_reducible refine bcase (fun h => ?_) (fun h => ?_)) <;> (conv => whnf))
      all_goals try (exfalso; omega)
      all_goals exact kB hK (by simp [tT, tN, *])
  · as_aux_lemma =>
      rintro done k rest _ ha hl _ ih
      have hw := wrap_succ (n := done.length) (by omega)
      (refine sgo_sound [] 1000 ?_; conv => whnf)
      repeat' ((first | with_reducible refine bdec (fun h => ?_) (fun h => ?_) | with_reducible refine bndec (fun h => ?_) (fun h => ?_) | with_reducible refine bwtd (fun h => ?_) (fun h => ?_) | with_reducible refine bwfd (fun h => ?_) (fun h => ?_) | with_reducible refine bwtn (fun h => ?_) (fun h => ?_) | with_reducible refine bwfn (fun h => ?_) (fun h => ?_) | with_reducible refine bwtb (fun h => ?_) (fun h => ?_) | with_reducible refine bwfb (fun h => ?_) (fun h => ?_) | with_reducible refine bwt (fun h => ?_) (fun h => ?_) | with_reducible refine bwf (fun h => ?_) (fun h => ?_) | with_reducible refine bnt (fun h => ?_) (fun h => ?_) | with_reducible refine bcase (fun h => ?_) (fun h => ?_)) <;> (conv => whnf))
      all_goals try (exfalso; omega)
      all_goals (rw [hw]; exact sw_kc [1, 3, 4, 5] 1 (by simp [hH]) (by simp) rfl rfl (ih () trivial))

theorem many14_spec (n : Int) (u : ByteArray) (den : Int) (ps : List Piece) (k0 k1 : Ex) : SPure Tryz.prog G 84 [(Ex.mk 14 n u den ps [k0, k1]).sv] (sB (opOK 14 u k0 k1 2 (decide (k1.unit = k0.unit)))) := by
  have hrows := exprRows_eq [k0, k1]
  have hlen : (exprRows [k0, k1]).length = 2 := by rw [hrows]; rfl
  have h0 : (exprRows [k0, k1])[0]? = some k0.cells := by rw [hrows]; rfl
  have h1 : (exprRows [k0, k1])[1]? = some k1.cells := by rw [hrows]; rfl
  have hkl : [k0, k1].length = 2 := rfl
  generalize [k0, k1] = ks at hrows hlen h0 h1 hkl ⊢
  refine spure_enter Tryz.func84 rfl (by rw [Tryz.ntmps84]; simp) rfl rfl ?_; intro E hH hK
  obtain ⟨o0, n0, u0, d0, p0, q0⟩ := k0
  obtain ⟨o1, n1, u1, d1, p1, q1⟩ := k1
  replace hK : ∀ H', E.K (sB (decide (u = u0) && !decide (u0 = tT) && decide (o1 = 1) && decide (u1 = tN) && decide (1 ≤ n1) && decide (n1 ≤ 1000000))) H' := by
    intro H'
    have := hK H'
    rw [opOK14] at this
    exact this
  (refine sgo_sound [] 1000 ?_; conv => whnf)
  refine swr_index rfl rfl rfl rfl rfl rfl rfl rfl  (row := (Ex.mk o0 n0 u0 d0 p0 q0).cells) h0 ?_
  (refine sgor_sound [] 1000 ?_; conv => whnf)
  refine swr_index rfl rfl rfl rfl rfl rfl rfl rfl  (row := (Ex.mk o1 n1 u1 d1 p1 q1).cells) h1 ?_
  (refine sgor_sound [] 1000 ?_; conv => whnf)
  refine sw_keep [1, 3, 4, 5] ?_
  refine sw_each ks (fun i (_ : Unit) => [(1, .ptr 0 0), (3, sS u0), (4, sS u1), (5, sI i)]) (fun _ _ => [.cells [sI 14, sI n, sS u, sI den, .imm (.isl 3 (ps.map Piece.cells)), .imm (.isl 6 (exprRows ks))]])
    (fun _ _ _ => True) () trivial ?_ ?_
  · as_aux_lemma =>
      rintro _ _
      (refine sgo_sound [] 1000 ?_; conv => whnf)
      repeat' ((first | with_reducible refine bdec (fun h => ?_) (fun h => ?_) | with_reducible refine bndec (fun h => ?_) (fun h => ?_) | with_reducible refine bwtd (fun h => ?_) (fun h => ?_) | with_reducible refine bwfd (fun h => ?_) (fun h => ?_) | with_reducible refine bwtn (fun h => ?_) (fun h => ?_) | with_reducible refine bwfn (fun h => ?_) (fun h => ?_) | with_reducible refine bwtb (fun h => ?_) (fun h => ?_) | with_reducible refine bwfb (fun h => ?_) (fun h => ?_) | with_reducible refine bwt (fun h => ?_) (fun h => ?_) | with_reducible refine bwf (fun h => ?_) (fun h => ?_) | with_reducible refine bnt (fun h => ?_) (fun h => ?_) | with_reducible refine bcase (fun h => ?_) (fun h => ?_)) <;> (conv => whnf))
      all_goals try (exfalso; omega)
      all_goals try exact kB hK (by simp [tT, *]; done)
      refine swr_index rfl rfl rfl rfl rfl rfl rfl rfl  (row := (Ex.mk o1 n1 u1 d1 p1 q1).cells) h1 ?_
      (refine sgor_sound [] 1000 ?_; conv => whnf)
      repeat' ((first | with_reducible refine bdec (fun h => ?_) (fun h => ?_) | with_reducible refine bndec (fun h => ?_) (fun h => ?_) | with_reducible refine bwtd (fun h => ?_) (fun h => ?_) | with_reducible refine bwfd (fun h => ?_) (fun h => ?_) | with_reducible refine bwtn (fun h => ?_) (fun h => ?_) | with_reducible refine bwfn (fun h => ?_) (fun h => ?_) | with_reducible refine bwtb (fun h => ?_) (fun h => ?_) | with_reducible refine bwfb (fun h => ?_) (fun h => ?_) | with_reducible refine bwt (fun h => ?_) (fun h => ?_) | with_reducible refine bwf (fun h => ?_) (fun h => ?_) | with_reducible refine bnt (fun h => ?_) (fun h => ?_) | with_reducible refine bcase (fun h => ?_) (fun h => ?_)) <;> (conv => whnf))
      all_goals try exact kB hK (by simp [tT, *]; done)
      refine swr_index rfl rfl rfl rfl rfl rfl rfl rfl  (row := (Ex.mk o1 n1 u1 d1 p1 q1).cells) h1 ?_
      (refine sgor_sound [] 1000 ?_; conv => whnf)
      repeat' ((first | with_reducible refine bdec (fun h => ?_) (fun h => ?_) | with_reducible refine bndec (fun h => ?_) (fun h => ?_) | with_reducible refine bwtd (fun h => ?_) (fun h => ?_) | with_reducible refine bwfd (fun h => ?_) (fun h => ?_) | with_reducible refine bwtn (fun h => ?_) (fun h => ?_) | with_reducible refine bwfn (fun h => ?_) (fun h => ?_) | with_reducible refine bwtb (fun h => ?_) (fun h => ?_) | with_reducible refine bwfb (fun h => ?_) (fun h => ?_) | with_reducible refine bwt (fun h => ?_) (fun h => ?_) | with_reducible refine bwf (fun h => ?_) (fun h => ?_) | with_reducible refine bnt (fun h => ?_) (fun h => ?_) | with_reducible refine bcase (fun h => ?_) (fun h => ?_)) <;> (conv => whnf))
      all_goals try exact kB hK (by simp [tT, *]; done)
      refine swr_index rfl rfl rfl rfl rfl rfl rfl rfl  (row := (Ex.mk o1 n1 u1 d1 p1 q1).cells) h1 ?_
      (refine sgor_sound [] 1000 ?_; conv => whnf)
      repeat' ((first | with_reducible refine bdec (fun h => ?_) (fun h => ?_) | with_reducible refine bndec (fun h => ?_) (fun h => ?_) | with_reducible refine bwtd (fun h => ?_) (fun h => ?_) | with_reducible refine bwfd (fun h => ?_) (fun h => ?_) | with_reducible refine bwtn (fun h => ?_) (fun h => ?_) | with_reducible refine bwfn (fun h => ?_) (fun h => ?_) | with_reducible refine bwtb (fun h => ?_) (fun h => ?_) | with_reducible refine bwfb (fun h => ?_) (fun h => ?_) | with_reducible refine bwt (fun h => ?_) (fun h => ?_) | with_reducible refine bwf (fun h => ?_) (fun h => ?_) | with_reducible refine bnt (fun h => ?_) (fun h => ?_) | with_reducible refine bcase (fun h => ?_) (fun h => ?_)) <;> (conv => whnf))
      all_goals exact kB hK (by simp [tT, *])
  · as_aux_lemma =>
      rintro done k rest _ ha hl _ ih
      have hw := wrap_succ (n := done.length) (by omega)
      (refine sgo_sound [] 1000 ?_; conv => whnf)
      repeat' ((first | with_reducible refine bdec (fun h => ?_) (fun h => ?_) | with_reducible refine bndec (fun h => ?_) (fun h => ?_) | with_reducible refine bwtd (fun h => ?_) (fun h => ?_) | with_reducible refine bwfd (fun h => ?_) (fun h => ?_) | with_reducible refine bwtn (fun h => ?_) (fun h => ?_) | with_reducible refine bwfn (fun h => ?_) (fun h => ?_) | with_reducible refine bwtb (fun h => ?_) (fun h => ?_) | with_reducible refine bwfb (fun h => ?_) (fun h => ?_) | with_reducible refine bwt (fun h => ?_) (fun h => ?_) | with_reducible refine bwf (fun h => ?_) (fun h => ?_) | with_reducible refine bnt (fun h => ?_) (fun h => ?_) | with_reducible refine bcase (fun h => ?_) (fun h => ?_)) <;> (conv => whnf))
      all_goals try (exfalso; omega)
      all_goals (rw [hw]; exact sw_kc [1, 3, 4, 5] 1 (by simp [hH]) (by simp) rfl rfl (ih () trivial))

theorem many15_spec (n : Int) (u : ByteArray) (den : Int) (ps : List Piece) (k0 k1 : Ex) : SPure Tryz.prog G 84 [(Ex.mk 15 n u den ps [k0, k1]).sv] (sB (opOK 15 u k0 k1 2 (decide (k1.unit = k0.unit)))) := by
  have hrows := exprRows_eq [k0, k1]
  have hlen : (exprRows [k0, k1]).length = 2 := by rw [hrows]; rfl
  have h0 : (exprRows [k0, k1])[0]? = some k0.cells := by rw [hrows]; rfl
  have h1 : (exprRows [k0, k1])[1]? = some k1.cells := by rw [hrows]; rfl
  have hkl : [k0, k1].length = 2 := rfl
  generalize [k0, k1] = ks at hrows hlen h0 h1 hkl ⊢
  refine spure_enter Tryz.func84 rfl (by rw [Tryz.ntmps84]; simp) rfl rfl ?_; intro E hH hK
  obtain ⟨o0, n0, u0, d0, p0, q0⟩ := k0
  obtain ⟨o1, n1, u1, d1, p1, q1⟩ := k1
  replace hK : ∀ H', E.K (sB (decide (u0 = tM) && curOK u1 && decide (u = u1))) H' := by
    intro H'
    have := hK H'
    rw [opOK15] at this
    exact this
  (refine sgo_sound [] 1000 ?_; conv => whnf)
  refine swr_index rfl rfl rfl rfl rfl rfl rfl rfl  (row := (Ex.mk o0 n0 u0 d0 p0 q0).cells) h0 ?_
  (refine sgor_sound [] 1000 ?_; conv => whnf)
  refine swr_index rfl rfl rfl rfl rfl rfl rfl rfl  (row := (Ex.mk o1 n1 u1 d1 p1 q1).cells) h1 ?_
  (refine sgor_sound [] 1000 ?_; conv => whnf)
  refine sw_keep [1, 3, 4, 5] ?_
  refine sw_each ks (fun i (_ : Unit) => [(1, .ptr 0 0), (3, sS u0), (4, sS u1), (5, sI i)]) (fun _ _ => [.cells [sI 15, sI n, sS u, sI den, .imm (.isl 3 (ps.map Piece.cells)), .imm (.isl 6 (exprRows ks))]])
    (fun _ _ _ => True) () trivial ?_ ?_
  · as_aux_lemma =>
      rintro _ _
      (refine sgo_sound [] 1000 ?_; conv => whnf)
      repeat' ((first | with_reducible refine bdec (fun h => ?_) (fun h => ?_) | with_reducible refine bndec (fun h => ?_) (fun h => ?_) | with_reducible refine bwtd (fun h => ?_) (fun h => ?_) | with_reducible refine bwfd (fun h => ?_) (fun h => ?_) | with_reducible refine bwtn (fun h => ?_) (fun h => ?_) | with_reducible refine bwfn (fun h => ?_) (fun h => ?_) | with_reducible refine bwtb (fun h => ?_) (fun h => ?_) | with_reducible refine bwfb (fun h => ?_) (fun h => ?_) | with_reducible refine bwt (fun h => ?_) (fun h => ?_) | with_reducible refine bwf (fun h => ?_) (fun h => ?_) | with_reducible refine bnt (fun h => ?_) (fun h => ?_) | with_reducible refine bcase (fun h => ?_) (fun h => ?_)) <;> (conv => whnf))
      all_goals try (exfalso; omega)
      all_goals try exact kB hK (by simp [tM, *]; done)
      refine swr_pure rfl rfl rfl rfl rfl rfl  (cur_spec G u1) ?_
      (refine sgor_sound [] 1000 ?_; conv => whnf)
      repeat' ((first | with_reducible refine bdec (fun h => ?_) (fun h => ?_) | with_reducible refine bndec (fun h => ?_) (fun h => ?_) | with_reducible refine bwtd (fun h => ?_) (fun h => ?_) | with_reducible refine bwfd (fun h => ?_) (fun h => ?_) | with_reducible refine bwtn (fun h => ?_) (fun h => ?_) | with_reducible refine bwfn (fun h => ?_) (fun h => ?_) | with_reducible refine bwtb (fun h => ?_) (fun h => ?_) | with_reducible refine bwfb (fun h => ?_) (fun h => ?_) | with_reducible refine bwt (fun h => ?_) (fun h => ?_) | with_reducible refine bwf (fun h => ?_) (fun h => ?_) | with_reducible refine bnt (fun h => ?_) (fun h => ?_) | with_reducible refine bcase (fun h => ?_) (fun h => ?_)) <;> (conv => whnf))
      all_goals exact kB hK (by simp [tM, *])
  · as_aux_lemma =>
      rintro done k rest _ ha hl _ ih
      have hw := wrap_succ (n := done.length) (by omega)
      (refine sgo_sound [] 1000 ?_; conv => whnf)
      repeat' ((first | with_reducible refine bdec (fun h => ?_) (fun h => ?_) | with_reducible refine bndec (fun h => ?_) (fun h => ?_) | with_reducible refine bwtd (fun h => ?_) (fun h => ?_) | with_reducible refine bwfd (fun h => ?_) (fun h => ?_) | with_reducible refine bwtn (fun h => ?_) (fun h => ?_) | with_reducible refine bwfn (fun h => ?_) (fun h => ?_) | with_reducible refine bwtb (fun h => ?_) (fun h => ?_) | with_reducible refine bwfb (fun h => ?_) (fun h => ?_) | with_reducible refine bwt (fun h => ?_) (fun h => ?_) | with_reducible refine bwf (fun h => ?_) (fun h => ?_) | with_reducible refine bnt (fun h => ?_) (fun h => ?_) | with_reducible refine bcase (fun h => ?_) (fun h => ?_)) <;> (conv => whnf))
      all_goals try (exfalso; omega)
      all_goals (rw [hw]; exact sw_kc [1, 3, 4, 5] 1 (by simp [hH]) (by simp) rfl rfl (ih () trivial))

theorem manyElse_spec (op n : Int) (u : ByteArray) (den : Int) (ps : List Piece) (k0 k1 : Ex) (hc : op < 6 ∨ 17 < op) : SPure Tryz.prog G 84 [(Ex.mk op n u den ps [k0, k1]).sv] (sB (opOK op u k0 k1 2 (decide (k1.unit = k0.unit)))) := by
  have hrows := exprRows_eq [k0, k1]
  have hlen : (exprRows [k0, k1]).length = 2 := by rw [hrows]; rfl
  have h0 : (exprRows [k0, k1])[0]? = some k0.cells := by rw [hrows]; rfl
  have h1 : (exprRows [k0, k1])[1]? = some k1.cells := by rw [hrows]; rfl
  have hkl : [k0, k1].length = 2 := rfl
  generalize [k0, k1] = ks at hrows hlen h0 h1 hkl ⊢
  refine spure_enter Tryz.func84 rfl (by rw [Tryz.ntmps84]; simp) rfl rfl ?_; intro E hH hK
  obtain ⟨o0, n0, u0, d0, p0, q0⟩ := k0
  obtain ⟨o1, n1, u1, d1, p1, q1⟩ := k1
  rw [opOKelse _ _ _ _ _ hc] at hK
  (refine sgo_sound [] 1000 ?_; conv => whnf)
  refine swr_index rfl rfl rfl rfl rfl rfl rfl rfl  (row := (Ex.mk o0 n0 u0 d0 p0 q0).cells) h0 ?_
  (refine sgor_sound [] 1000 ?_; conv => whnf)
  refine swr_index rfl rfl rfl rfl rfl rfl rfl rfl  (row := (Ex.mk o1 n1 u1 d1 p1 q1).cells) h1 ?_
  (refine sgor_sound [] 1000 ?_; conv => whnf)
  refine sw_keep [1, 3, 4, 5] ?_
  refine sw_each ks (fun i (_ : Unit) => [(1, .ptr 0 0), (3, sS u0), (4, sS u1), (5, sI i)]) (fun _ _ => [.cells [sI op, sI n, sS u, sI den, .imm (.isl 3 (ps.map Piece.cells)), .imm (.isl 6 (exprRows ks))]])
    (fun _ _ _ => True) () trivial ?_ ?_
  · as_aux_lemma =>
      rintro _ _
      (refine sgo_sound [] 1000 ?_; conv => whnf)
      repeat' ((first | with_reducible refine bdec (fun h => ?_) (fun h => ?_) | with_reducible refine bndec (fun h => ?_) (fun h => ?_) | with_reducible refine bwtd (fun h => ?_) (fun h => ?_) | with_reducible refine bwfd (fun h => ?_) (fun h => ?_) | with_reducible refine bwtn (fun h => ?_) (fun h => ?_) | with_reducible refine bwfn (fun h => ?_) (fun h => ?_) | with_reducible refine bwtb (fun h => ?_) (fun h => ?_) | with_reducible refine bwfb (fun h => ?_) (fun h => ?_) | with_reducible refine bwt (fun h => ?_) (fun h => ?_) | with_reducible refine bwf (fun h => ?_) (fun h => ?_) | with_reducible refine bnt (fun h => ?_) (fun h => ?_) | with_reducible refine bcase (fun h => ?_) (fun h => ?_)) <;> (conv => whnf))
      all_goals try (exfalso; omega)
      all_goals exact hK _
  · as_aux_lemma =>
      rintro done k rest _ ha hl _ ih
      have hw := wrap_succ (n := done.length) (by omega)
      (refine sgo_sound [] 1000 ?_; conv => whnf)
      repeat' ((first | with_reducible refine bdec (fun h => ?_) (fun h => ?_) | with_reducible refine bndec (fun h => ?_) (fun h => ?_) | with_reducible refine bwtd (fun h => ?_) (fun h => ?_) | with_reducible refine bwfd (fun h => ?_) (fun h => ?_) | with_reducible refine bwtn (fun h => ?_) (fun h => ?_) | with_reducible refine bwfn (fun h => ?_) (fun h => ?_) | with_reducible refine bwtb (fun h => ?_) (fun h => ?_) | with_reducible refine bwfb (fun h => ?_) (fun h => ?_) | with_reducible refine bwt (fun h => ?_) (fun h => ?_) | with_reducible refine bwf (fun h => ?_) (fun h => ?_) | with_reducible refine bnt (fun h => ?_) (fun h => ?_) | with_reducible refine bcase (fun h => ?_) (fun h => ?_)) <;> (conv => whnf))
      all_goals try (exfalso; omega)
      all_goals (rw [hw]; exact sw_kc [1, 3, 4, 5] 1 (by simp [hH]) (by simp) rfl rfl (ih () trivial))

theorem manyLong_spec (op n : Int) (u : ByteArray) (den : Int) (ps : List Piece) (k0 k1 k2 : Ex) (kr : List Ex) (hsz : kr.length ≤ 100000) (hop : ¬ (op = 16 ∨ op = 17)) :
    SPure Tryz.prog G 84 [(Ex.mk op n u den ps (k0 :: k1 :: k2 :: kr)).sv] (sB false) := by
  have hrows := exprRows_eq (k0 :: k1 :: k2 :: kr)
  have hlen : (exprRows (k0 :: k1 :: k2 :: kr)).length = kr.length + 3 := by rw [hrows]; simp
  have h0 : (exprRows (k0 :: k1 :: k2 :: kr))[0]? = some k0.cells := by rw [hrows]; rfl
  have h1 : (exprRows (k0 :: k1 :: k2 :: kr))[1]? = some k1.cells := by rw [hrows]; rfl
  have hkl : (k0 :: k1 :: k2 :: kr).length = kr.length + 3 := by simp
  generalize k0 :: k1 :: k2 :: kr = ks at hrows hlen h0 h1 hkl ⊢
  refine spure_enter Tryz.func84 rfl (by rw [Tryz.ntmps84]; simp) rfl rfl ?_; intro E hH hK
  obtain ⟨o0, n0, u0, d0, p0, q0⟩ := k0
  obtain ⟨o1, n1, u1, d1, p1, q1⟩ := k1
  (refine sgo_sound [] 1000 ?_; conv => whnf)
  refine swr_index rfl rfl rfl rfl rfl rfl rfl rfl  (row := (Ex.mk o0 n0 u0 d0 p0 q0).cells) h0 ?_
  (refine sgor_sound [] 1000 ?_; conv => whnf)
  refine swr_index rfl rfl rfl rfl rfl rfl rfl rfl  (row := (Ex.mk o1 n1 u1 d1 p1 q1).cells) h1 ?_
  (refine sgor_sound [] 1000 ?_; conv => whnf)
  refine sw_keep [1, 3, 4, 5] ?_
  refine sw_each ks (fun i (_ : Unit) => [(1, .ptr 0 0), (3, sS u0), (4, sS u1), (5, sI i)]) (fun _ _ => [.cells [sI op, sI n, sS u, sI den, .imm (.isl 3 (ps.map Piece.cells)), .imm (.isl 6 (exprRows ks))]])
    (fun _ _ _ => True) () trivial ?_ ?_
  · as_aux_lemma =>
      rintro _ _
      (refine sgo_sound [] 1000 ?_; conv => whnf)
      repeat' ((first | with_reducible refine bdec (fun h => ?_) (fun h => ?_) | with_reducible refine bndec (fun h => ?_) (fun h => ?_) | with_reducible refine bwtd (fun h => ?_) (fun h => ?_) | with_reducible refine bwfd (fun h => ?_) (fun h => ?_) | with_reducible refine bwtn (fun h => ?_) (fun h => ?_) | with_reducible refine bwfn (fun h => ?_) (fun h => ?_) | with_reducible refine bwtb (fun h => ?_) (fun h => ?_) | with_reducible refine bwfb (fun h => ?_) (fun h => ?_) | with_reducible refine bwt (fun h => ?_) (fun h => ?_) | with_reducible refine bwf (fun h => ?_) (fun h => ?_) | with_reducible refine bnt (fun h => ?_) (fun h => ?_) | with_reducible refine bcase (fun h => ?_) (fun h => ?_)) <;> (conv => whnf))
      all_goals try (exfalso; omega)
      all_goals exact hK _
  · as_aux_lemma =>
      rintro done k rest _ ha hl _ ih
      have hw := wrap_succ (n := done.length) (by omega)
      (refine sgo_sound [] 1000 ?_; conv => whnf)
      repeat' ((first | with_reducible refine bdec (fun h => ?_) (fun h => ?_) | with_reducible refine bndec (fun h => ?_) (fun h => ?_) | with_reducible refine bwtd (fun h => ?_) (fun h => ?_) | with_reducible refine bwfd (fun h => ?_) (fun h => ?_) | with_reducible refine bwtn (fun h => ?_) (fun h => ?_) | with_reducible refine bwfn (fun h => ?_) (fun h => ?_) | with_reducible refine bwtb (fun h => ?_) (fun h => ?_) | with_reducible refine bwfb (fun h => ?_) (fun h => ?_) | with_reducible refine bwt (fun h => ?_) (fun h => ?_) | with_reducible refine bwf (fun h => ?_) (fun h => ?_) | with_reducible refine bnt (fun h => ?_) (fun h => ?_) | with_reducible refine bcase (fun h => ?_) (fun h => ?_)) <;> (conv => whnf))
      all_goals try (exfalso; omega)
      all_goals (rw [hw]; exact sw_kc [1, 3, 4, 5] 1 (by simp [hH]) (by simp) rfl rfl (ih () trivial))

theorem many1617_spec (op n : Int) (u : ByteArray) (den : Int) (ps : List Piece) (k0 k1 : Ex) (kr : List Ex) (hsz : kr.length ≤ 100000) (hop : op = 16 ∨ op = 17) :
    SPure Tryz.prog G 84 [(Ex.mk op n u den ps (k0 :: k1 :: kr)).sv] (sB (sameU (k0 :: k1 :: kr) && (!decide (k0.unit = tT) && decide (u = k0.unit)))) := by
  have hrows := exprRows_eq (k0 :: k1 :: kr)
  have hlen : (exprRows (k0 :: k1 :: kr)).length = kr.length + 2 := by rw [hrows]; simp
  have h0 : (exprRows (k0 :: k1 :: kr))[0]? = some k0.cells := by rw [hrows]; rfl
  have h1 : (exprRows (k0 :: k1 :: kr))[1]? = some k1.cells := by rw [hrows]; rfl
  have hkl : (k0 :: k1 :: kr).length = kr.length + 2 := by simp
  have hsm : sameU (k0 :: k1 :: kr) = (k0 :: k1 :: kr).all fun x => decide (x.unit = k0.unit) := rfl
  generalize k0 :: k1 :: kr = ks at hrows hlen h0 h1 hkl hsm ⊢
  refine spure_enter Tryz.func84 rfl (by rw [Tryz.ntmps84]; simp) rfl rfl ?_; intro E hH hK
  obtain ⟨o0, n0, u0, d0, p0, q0⟩ := k0
  obtain ⟨o1, n1, u1, d1, p1, q1⟩ := k1
  replace hK : ∀ H', E.K (sB (sameU ks && (!decide (u0 = tT) && decide (u = u0)))) H' := hK
  (refine sgo_sound [] 1000 ?_; conv => whnf)
  refine swr_index rfl rfl rfl rfl rfl rfl rfl rfl  (row := (Ex.mk o0 n0 u0 d0 p0 q0).cells) h0 ?_
  (refine sgor_sound [] 1000 ?_; conv => whnf)
  refine swr_index rfl rfl rfl rfl rfl rfl rfl rfl  (row := (Ex.mk o1 n1 u1 d1 p1 q1).cells) h1 ?_
  (refine sgor_sound [] 1000 ?_; conv => whnf)
  refine sw_keep [1, 3, 4, 5] ?_
  refine sw_each ks (fun i (_ : Unit) => [(1, .ptr 0 0), (3, sS u0), (4, sS u1), (5, sI i)]) (fun _ _ => [.cells [sI op, sI n, sS u, sI den, .imm (.isl 3 (ps.map Piece.cells)), .imm (.isl 6 (exprRows ks))]])
    (fun done rest _ => sameU ks = rest.all fun x => decide (x.unit = u0)) () hsm ?_ ?_
  · as_aux_lemma =>
      rintro _ hs
      have hs' : sameU ks = true := by rw [hs]; rfl
      rw [hs', Bool.true_and] at hK
      (refine sgo_sound [] 1000 ?_; conv => whnf)
      repeat' ((first | with_reducible refine bdec (fun h => ?_) (fun h => ?_) | with_reducible refine bndec (fun h => ?_) (fun h => ?_) | with_reducible refine bwtd (fun h => ?_) (fun h => ?_) | with_reducible refine bwfd (fun h => ?_) (fun h => ?_) | with_reducible refine bwtn (fun h => ?_) (fun h => ?_) | with_reducible refine bwfn (fun h => ?_) (fun h => ?_) | with_reducible refine bwtb (fun h => ?_) (fun h => ?_) | with_reducible refine bwfb (fun h => ?_) (fun h => ?_) | with_reducible refine bwt (fun h => ?_) (fun h => ?_) | with_reducible refine bwf (fun h => ?_) (fun h => ?_) | with_reducible refine bnt (fun h => ?_) (fun h => ?_) | with_reducible refine bcase (fun h => ?_) (fun h => ?_)) <;> (conv => whnf))
      all_goals try (exfalso; omega)
      all_goals exact kB hK (by simp [tT, *])
  · as_aux_lemma =>
      rintro done k rest _ ha hl hs ih
      have hw := wrap_succ (n := done.length) (by omega)
      have hrow : (exprRows ks)[((done.length : Nat) : Int).toNat]? = some k.cells := by rw [hrows]; simp [ha]
      obtain ⟨o2, n2, u2, d2, p2, q2⟩ := k
      have hs' : sameU ks = (decide (u2 = u0) && rest.all fun x => decide (x.unit = u0)) := hs
      have hbad : ¬ u2 = u0 → (sameU ks && (!decide (u0 = tT) && decide (u = u0))) = false := fun h => by rw [hs', decide_eq_false h]; rfl
      (refine sgo_sound [] 1000 ?_; conv => whnf)
      repeat' ((first | with_reducible refine bdec (fun h => ?_) (fun h => ?_) | with_reducible refine bndec (fun h => ?_) (fun h => ?_) | with_reducible refine bwtd (fun h => ?_) (fun h => ?_) | with_reducible refine bwfd (fun h => ?_) (fun h => ?_) | with_reducible refine bwtn (fun h => ?_) (fun h => ?_) | with_reducible refine bwfn (fun h => ?_) (fun h => ?_) | with_reducible refine bwtb (fun h => ?_) (fun h => ?_) | with_reducible refine bwfb (fun h => ?_) (fun h => ?_) | with_reducible refine bwt (fun h => ?_) (fun h => ?_) | with_reducible refine bwf (fun h => ?_) (fun h => ?_) | with_reducible refine bnt (fun h => ?_) (fun h => ?_) | with_reducible refine bcase (fun h => ?_) (fun h => ?_)) <;> (conv => whnf))
      all_goals try (exfalso; omega)
      all_goals refine swr_index rfl rfl rfl rfl rfl rfl rfl rfl  (row := (Ex.mk o2 n2 u2 d2 p2 q2).cells) hrow ?_
      all_goals (refine sgor_sound [] 1000 ?_; conv => whnf)
      all_goals repeat' ((first | with_reducible refine bdec (fun h => ?_) (fun h => ?_) | with_reducible refine bndec (fun h => ?_) (fun h => ?_) | with_reducible refine bwtd (fun h => ?_) (fun h => ?_) | with_reducible refine bwfd (fun h => ?_) (fun h => ?_) | with_reducible refine bwtn (fun h => ?_) (fun h => ?_) | with_reducible refine bwfn (fun h => ?_) (fun h => ?_) | with_reducible refine bwtb (fun h => ?_) (fun h => ?_) | with_reducible refine bwfb (fun h => ?_) (fun h => ?_) | with_reducible refine bwt (fun h => ?_) (fun h => ?_) | with_reducible refine bwf (fun h => ?_) (fun h => ?_) | with_reducible refine bnt (fun h => ?_) (fun h => ?_) | with_reducible refine bcase (fun h => ?_) (fun h => ?_)) <;> (conv => whnf))
      all_goals first
        | exact kB hK (hbad (by assumption))
        | (rw [hw]; exact sw_kc [1, 3, 4, 5] 1 (by simp [hH]) (by simp) rfl rfl (ih () (by rw [hs', decide_eq_true (by assumption)]; rfl)))

theorem many_spec (op n : Int) (u : ByteArray) (den : Int) (ps : List Piece) (k0 k1 : Ex) (kr : List Ex) (hsz : kr.length ≤ 100000) :
    SPure Tryz.prog G 84 [(Ex.mk op n u den ps (k0 :: k1 :: kr)).sv] (sB (opOK op u k0 (((k0 :: k1 :: kr).getLast?).getD k0) (k0 :: k1 :: kr).length (sameU (k0 :: k1 :: kr)))) := by
  by_cases hop : op = 16 ∨ op = 17
  · have := many1617_spec G op n u den ps k0 k1 kr hsz hop
    cases hs : sameU (k0 :: k1 :: kr) with
    | true =>
      rw [hs, Bool.true_and] at this
      have h2 : (2 : Int) ≤ ((k0 :: k1 :: kr).length : Nat) := by simp; omega
      rcases hop with rfl | rfl
      · rw [opOK16 _ _ _ _ h2]; exact this
      · rw [opOK17 _ _ _ _ h2]; exact this
    | false =>
      rw [hs, Bool.false_and] at this
      have e : opOK op u k0 (((k0 :: k1 :: kr).getLast?).getD k0) (k0 :: k1 :: kr).length false = false := by
        rcases hop with rfl | rfl <;> simp [opOK]
      rw [e]; exact this
  · cases kr with
    | cons k2 kr =>
      have e : opOK op u k0 (((k0 :: k1 :: k2 :: kr).getLast?).getD k0) (k0 :: k1 :: k2 :: kr).length (sameU (k0 :: k1 :: k2 :: kr)) = false := by
        simp only [opOK, if_neg hop]
        rw [decide_eq_false (p := (((k0 :: k1 :: k2 :: kr).length : Nat) : Int) = 2) (by simp; omega), decide_eq_false (p := (((k0 :: k1 :: k2 :: kr).length : Nat) : Int) = 1) (by simp; omega)]
        simp
      rw [e]
      exact manyLong_spec G op n u den ps k0 k1 k2 kr (by simp at hsz; omega) hop
    | nil =>
      have e1 : ([k0, k1].getLast?).getD k0 = k1 := rfl
      have e2 : (([k0, k1].length : Nat) : Int) = 2 := rfl
      have e3 : sameU [k0, k1] = decide (k1.unit = k0.unit) := by simp [sameU]
      rw [e1, e2, e3]
      have hc : op = 6 ∨ op = 7 ∨ op = 8 ∨ op = 9 ∨ op = 10 ∨ op = 11 ∨ op = 12 ∨ op = 13 ∨ op = 14 ∨ op = 15 ∨ (op < 6 ∨ 17 < op) := by omega
      rcases hc with rfl | rfl | rfl | rfl | rfl | rfl | rfl | rfl | rfl | rfl | hc
      · exact many6_spec G n u den ps k0 k1
      · exact many7_spec G n u den ps k0 k1
      · exact many8_spec G n u den ps k0 k1
      · exact many9_spec G n u den ps k0 k1
      · exact many10_spec G n u den ps k0 k1
      · exact many11_spec G n u den ps k0 k1
      · exact many12_spec G n u den ps k0 k1
      · exact many13_spec G n u den ps k0 k1
      · exact many14_spec G n u den ps k0 k1
      · exact many15_spec G n u den ps k0 k1
      · exact manyElse_spec G op n u den ps k0 k1 hc
end Go.Proofs.YthmkdghoaifkbaaGreatDoor

/- Contracts, part He: expressions and codices that are valid (reference). -/
namespace Go.Proofs.YthmkdghoaifkbaaGreatDoor
open Go Go.Sh
set_option maxRecDepth 10000
set_option maxHeartbeats 4000000
variable (G : List (Nat × D))

/-- what a node says apart from its kids -/
def nodeR (c : Codex) (op n : Int) (u : ByteArray) (den : Int) (ps : List Piece) (ks : List Ex) : Bool :=
  if op = 18 then decide (n = 0) && decide (ks.length = 1) && curOK u && (match ks with | k :: _ => decide (u = k.unit) | [] => false) && tableOK den ps
  else if ¬ den = 0 ∨ 0 < ps.length then false
  else if 1 ≤ op ∧ op ≤ 4 then decide (ks.length = 0) && refLeaf c op n u
  else decide (n = 0) && (match ks.head?, ks.getLast? with | some f, some l => opOK op u f l ks.length (sameU ks) | _, _ => false)
mutual
def refFit (c : Codex) : Ex → Bool
  | .mk op n u den ps ks => refFits c ks && nodeR c op n u den ps ks
def refFits (c : Codex) : List Ex → Bool
  | [] => true
  | k :: r => refFit c k && refFits c r
end
theorem refFits_eq (c : Codex) (ks : List Ex) : refFits c ks = ks.all (refFit c) := by
  induction ks with
  | nil => rfl
  | cons k r ih => simp [refFits, ih]

theorem refLeaf_else (c : Codex) (op n : Int) (u : ByteArray) (h : ¬ (1 ≤ op ∧ op ≤ 4)) : refLeaf c op n u = false := by
  simp only [refLeaf]
  rw [if_neg (by omega), if_neg (by omega), if_neg (by omega), if_neg (by omega)]

/-- the end of a node without kids -/
theorem nodeR_nil (c : Codex) (op n : Int) (u : ByteArray) (den : Int) (ps : List Piece) :
    nodeR c op n u den ps [] = if (¬ (1 ≤ op ∧ op ≤ 4) ∧ ¬ n = 0) ∨ (¬ op = 18 ∧ (¬ den = 0 ∨ 0 < ps.length)) then false else refLeaf c op n u := by
  simp only [nodeR]
  by_cases h18 : op = 18
  · subst h18
    rw [if_pos rfl, refLeaf_else c 18 n u (by omega)]
    simp
  · rw [if_neg h18]
    by_cases hd : ¬ den = 0 ∨ 0 < ps.length
    · rw [if_pos hd, if_pos (.inr ⟨h18, hd⟩)]
    · rw [if_neg hd]
      by_cases h4 : 1 ≤ op ∧ op ≤ 4
      · rw [if_pos h4, if_neg (by simp [h4, hd])]
        simp
      · rw [if_neg h4, refLeaf_else c op n u h4]
        simp
/-- the end of a node with one kid -/
theorem nodeR_one (c : Codex) (op n : Int) (u : ByteArray) (den : Int) (ps : List Piece) (k : Ex) :
    nodeR c op n u den ps [k] = if (¬ (1 ≤ op ∧ op ≤ 4) ∧ ¬ n = 0) ∨ (¬ op = 18 ∧ (¬ den = 0 ∨ 0 < ps.length)) then false
      else (decide (op = 5) && decide (u = tT) && decide (k.unit = tT)) || (decide (op = 18) && decide (u = k.unit) && curOK u && tableOK den ps) := by
  simp only [nodeR]
  by_cases h18 : op = 18
  · subst h18
    rw [if_pos rfl]
    by_cases hn : n = 0
    · rw [if_neg (by simp [hn])]
      simp [hn]
      cases curOK u <;> simp
    · rw [if_pos (by left; exact ⟨by omega, hn⟩)]
      simp [hn]
  · rw [if_neg h18]
    by_cases hd : ¬ den = 0 ∨ 0 < ps.length
    · rw [if_pos hd, if_pos (.inr ⟨h18, hd⟩)]
    · rw [if_neg hd]
      by_cases h4 : 1 ≤ op ∧ op ≤ 4
      · rw [if_pos h4, if_neg (by simp [h4, hd])]
        have h5 : ¬ op = 5 := by omega
        simp [h18, h5]
      · rw [if_neg h4]
        by_cases hn : n = 0
        · rw [if_neg (by simp [hn, hd])]
          by_cases h5 : op = 5
          · subst h5; simp [opOK, hn]
          · simp [opOK, hn, h5, h18]
        · rw [if_pos (.inl ⟨h4, hn⟩)]
          simp [hn]
/-- the end of a node with more -/
theorem nodeR_many (c : Codex) (op n : Int) (u : ByteArray) (den : Int) (ps : List Piece) (k0 k1 : Ex) (kr : List Ex) :
    nodeR c op n u den ps (k0 :: k1 :: kr) = if (¬ (1 ≤ op ∧ op ≤ 4) ∧ ¬ n = 0) ∨ (¬ op = 18 ∧ (¬ den = 0 ∨ 0 < ps.length)) then false
      else opOK op u k0 (((k0 :: k1 :: kr).getLast?).getD k0) (k0 :: k1 :: kr).length (sameU (k0 :: k1 :: kr)) := by
  have hno : op = 18 ∨ (1 ≤ op ∧ op ≤ 4) → opOK op u k0 (((k0 :: k1 :: kr).getLast?).getD k0) (k0 :: k1 :: kr).length (sameU (k0 :: k1 :: kr)) = false := fun h => by
    simp only [opOK]
    rw [if_neg (by omega), if_neg (by omega), if_neg (by omega), if_neg (by omega), if_neg (by omega), if_neg (by omega), if_neg (by omega), if_neg (by omega), if_neg (by omega)]
  have hlast : ∃ l, (k0 :: k1 :: kr).getLast? = some l := ⟨_, List.getLast?_eq_some_getLast (by simp)⟩
  obtain ⟨l, hl⟩ := hlast
  simp only [nodeR]
  by_cases h18 : op = 18
  · rw [if_pos h18, hno (.inl h18)]
    simp
  · rw [if_neg h18]
    by_cases hd : ¬ den = 0 ∨ 0 < ps.length
    · rw [if_pos hd, if_pos (.inr ⟨h18, hd⟩)]
    · rw [if_neg hd]
      by_cases h4 : 1 ≤ op ∧ op ≤ 4
      · rw [if_pos h4, if_neg (by simp [h4, hd]), hno (.inr h4)]
        simp
      · rw [if_neg h4]
        by_cases hn : n = 0
        · rw [if_neg (by simp [hn, hd]), hl]
          simp [hn]
        · rw [if_pos (.inl ⟨h4, hn⟩)]
          simp [hn]

theorem refFits_spec (c : Codex) (hsz : c.arts.length ≤ 9223372036854775807) (N : Nat) : ∀ (e : Ex), SizeOf.sizeOf e < N → exSize e ≤ 1000 → SPure Tryz.prog G 65 [c.sv, e.sv] (sB (refFit c e)) := by
  induction N with
  | zero => intro e h; omega
  | succ N IH =>
  intro e he hs
  obtain ⟨op, n, u, den, ps, ks⟩ := e
  simp only [Ex.mk.sizeOf_spec] at he
  simp only [exSize] at hs
  have hrows := exprRows_eq ks
  have hlen : (exprRows ks).length = ks.length := by rw [hrows]; simp
  have hkl := exsSize_len ks
  have hpl : (ps.map Piece.cells).length = ps.length := by simp
  have hfit : refFit c (.mk op n u den ps ks) = (ks.all (refFit c) && nodeR c op n u den ps ks) := by simp only [refFit, refFits_eq]
  rw [hfit]
  refine spure_enter Tryz.func65 rfl (by rw [Tryz.ntmps65]; simp) rfl rfl ?_; intro E hH hK
  (refine sgo_sound [] 1000 ?_; conv => whnf)
  refine sw_keep [2, 3, 5] ?_
  refine sw_each ks (fun i (_ : Unit) => [(2, .ptr 0 0), (3, .ptr 1 0), (5, sI i)])
    (fun _ _ => [.cells [.imm (dDecls c.facts), .imm (dDecls c.lines), .imm (dArts c.arts)], .cells [sI op, sI n, sS u, sI den, .imm (.isl 3 (ps.map Piece.cells)), .imm (.isl 6 (exprRows ks))]])
    (fun done rest _ => ks.all (refFit c) = rest.all (refFit c)) () rfl ?_ ?_
  · as_aux_lemma =>
      rintro _ h1
      have hall : ks.all (refFit c) = true := by rw [h1]; rfl
      rw [hall, Bool.true_and] at hK
      clear IH h1 hfit
      by_cases hbad : (¬ (1 ≤ op ∧ op ≤ 4) ∧ ¬ n = 0) ∨ (¬ op = 18 ∧ (¬ den = 0 ∨ 0 < ps.length))
      · have hr : nodeR c op n u den ps ks = false := by
          match ks with
          | [] => rw [nodeR_nil, if_pos hbad]
          | [k] => rw [nodeR_one, if_pos hbad]
          | k0 :: k1 :: kr => rw [nodeR_many, if_pos hbad]
        rw [hr] at hK
        as_aux_lemma =>
          (refine sgo_sound [] 1000 ?_; conv => whnf)
          repeat' ((first | with_reducible refine bdec (fun h => ?_) (fun h => ?_) | with_reducible refine bndec (fun h => ?_) (fun h => ?_) | with_reducible refine bwtd (fun h => ?_) (fun h => ?_) | with_reducible refine bwfd (fun h => ?_) (fun h => ?_) | with_reducible refine bwtn (fun h => ?_) (fun h => ?_) | with_reducible refine bwfn (fun h => ?_) (fun h => ?_) | with_reducible refine bwtb (fun h => ?_) (fun h => ?_) | with_reducible refine bwfb (fun h => ?_) (fun h => ?_) | with_reducible refine bwt (fun h => ?_) (fun h => ?_) | with_reducible refine bwf (fun h => ?_) (fun h => ?_) | with_reducible refine bnt (fun h => ?_) (fun h => ?_) | with_reducible refine bcase (fun h => ?_) (fun h => ?_)) <;> (first | (exfalso; omega) | (conv => whnf)))
          all_goals try (exfalso; omega)
          all_goals exact hK _
      · match ks with
        | [] =>
          rw [nodeR_nil, if_neg hbad] at hK
          as_aux_lemma =>
            (refine sgo_sound [] 1000 ?_; conv => whnf)
            repeat' ((first | with_reducible refine bdec (fun h => ?_) (fun h => ?_) | with_reducible refine bndec (fun h => ?_) (fun h => ?_) | with_reducible refine bwtd (fun h => ?_) (fun h => ?_) | with_reducible refine bwfd (fun h => ?_) (fun h => ?_) | with_reducible refine bwtn (fun h => ?_) (fun h => ?_) | with_reducible refine bwfn (fun h => ?_) (fun h => ?_) | with_reducible refine bwtb (fun h => ?_) (fun h => ?_) | with_reducible refine bwfb (fun h => ?_) (fun h => ?_) | with_reducible refine bwt (fun h => ?_) (fun h => ?_) | with_reducible refine bwf (fun h => ?_) (fun h => ?_) | with_reducible refine bnt (fun h => ?_) (fun h => ?_) | with_reducible refine bcase (fun h => ?_) (fun h => ?_)) <;> (first | (exfalso; omega) | (conv => whnf)))
            all_goals try (exfalso; omega)
            all_goals refine swr_pure rfl rfl rfl rfl rfl rfl  (refLeaf_spec G c op n u den ps [] hsz) ?_
            all_goals (refine sgor_sound [] 1000 ?_; conv => whnf)
            all_goals exact hK _
        | [k] =>
          rw [nodeR_one, if_neg hbad] at hK
          obtain ⟨o0, n0, u0, d0, p0, q0⟩ := k
          replace hK : ∀ H', E.K (sB ((decide (op = 5) && decide (u = tT) && decide (u0 = tT)) || (decide (op = 18) && decide (u = u0) && curOK u && tableOK den ps))) H' := hK
          have h0 : (exprRows [Ex.mk o0 n0 u0 d0 p0 q0])[0]? = some (Ex.mk o0 n0 u0 d0 p0 q0).cells := by rw [exprRows_eq]; rfl
          have hlen1 : (exprRows [Ex.mk o0 n0 u0 d0 p0 q0]).length = 1 := by rw [exprRows_eq]; rfl
          generalize exprRows [Ex.mk o0 n0 u0 d0 p0 q0] = rows at h0 hlen hlen1 ⊢
          by_cases h5 : op = 5
          · subst h5
            replace hK : ∀ H', E.K (sB (decide (u = tT) && decide (u0 = tT))) H' := by simpa using hK
            as_aux_lemma =>
              (refine sgo_sound [] 1000 ?_; conv => whnf)
              repeat' ((first | with_reducible refine bdec (fun h => ?_) (fun h => ?_) | with_reducible refine bndec (fun h => ?_) (fun h => ?_) | with_reducible refine bwtd (fun h => ?_) (fun h => ?_) | with_reducible refine bwfd (fun h => ?_) (fun h => ?_) | with_reducible refine bwtn (fun h => ?_) (fun h => ?_) | with_reducible refine bwfn (fun h => ?_) (fun h => ?_) | with_reducible refine bwtb (fun h => ?_) (fun h => ?_) | with_reducible refine bwfb (fun h => ?_) (fun h => ?_) | with_reducible refine bwt (fun h => ?_) (fun h => ?_) | with_reducible refine bwf (fun h => ?_) (fun h => ?_) | with_reducible refine bnt (fun h => ?_) (fun h => ?_) | with_reducible refine bcase (fun h => ?_) (fun h => ?_)) <;> (first | (exfalso; omega) | (conv => whnf)))
              all_goals try (exfalso; omega)
              all_goals (refine swd_start mixed rfl ?_; refine sgod_sound [] ?_; conv => whnf)
              all_goals repeat' ((first | with_reducible refine bdec (fun h => ?_) (fun h => ?_) | with_reducible refine bndec (fun h => ?_) (fun h => ?_) | with_reducible refine bwtd (fun h => ?_) (fun h => ?_) | with_reducible refine bwfd (fun h => ?_) (fun h => ?_) | with_reducible refine bwtn (fun h => ?_) (fun h => ?_) | with_reducible refine bwfn (fun h => ?_) (fun h => ?_) | with_reducible refine bwtb (fun h => ?_) (fun h => ?_) | with_reducible refine bwfb (fun h => ?_) (fun h => ?_) | with_reducible refine bwt (fun h => ?_) (fun h => ?_) | with_reducible refine bwf (fun h => ?_) (fun h => ?_) | with_reducible refine bnt (fun h => ?_) (fun h => ?_) | with_reducible refine bcase (fun h => ?_) (fun h => ?_)) <;> (first | (exfalso; omega) | (conv => whnf)))
              all_goals try refine swd_index rfl rfl rfl rfl rfl rfl rfl rfl  (row := (Ex.mk o0 n0 u0 d0 p0 q0).cells) h0 ?_
              all_goals try (refine sgod_sound [] ?_; conv => whnf)
              all_goals try repeat' ((first | with_reducible refine bdec (fun h => ?_) (fun h => ?_) | with_reducible refine bndec (fun h => ?_) (fun h => ?_) | with_reducible refine bwtd (fun h => ?_) (fun h => ?_) | with_reducible refine bwfd (fun h => ?_) (fun h => ?_) | with_reducible refine bwtn (fun h => ?_) (fun h => ?_) | with_reducible refine bwfn (fun h => ?_) (fun h => ?_) | with_reducible refine bwtb (fun h => ?_) (fun h => ?_) | with_reducible refine bwfb (fun h => ?_) (fun h => ?_) | with_reducible refine bwt (fun h => ?_) (fun h => ?_) | with_reducible refine bwf (fun h => ?_) (fun h => ?_) | with_reducible refine bnt (fun h => ?_) (fun h => ?_) | with_reducible refine bcase (fun h => ?_) (fun h => ?_)) <;> (first | (exfalso; omega) | (conv => whnf)))
              all_goals try (refine sgo_sound [] 1000 ?_; conv => whnf)
              all_goals exact kB hK (by simp [tT, *])
          by_cases h18 : op = 18
          · subst h18
            replace hK : ∀ H', E.K (sB (decide (u = u0) && curOK u && tableOK den ps)) H' := by simpa using hK
            as_aux_lemma =>
              (refine sgo_sound [] 1000 ?_; conv => whnf)
              repeat' ((first | with_reducible refine bdec (fun h => ?_) (fun h => ?_) | with_reducible refine bndec (fun h => ?_) (fun h => ?_) | with_reducible refine bwtd (fun h => ?_) (fun h => ?_) | with_reducible refine bwfd (fun h => ?_) (fun h => ?_) | with_reducible refine bwtn (fun h => ?_) (fun h => ?_) | with_reducible refine bwfn (fun h => ?_) (fun h => ?_) | with_reducible refine bwtb (fun h => ?_) (fun h => ?_) | with_reducible refine bwfb (fun h => ?_) (fun h => ?_) | with_reducible refine bwt (fun h => ?_) (fun h => ?_) | with_reducible refine bwf (fun h => ?_) (fun h => ?_) | with_reducible refine bnt (fun h => ?_) (fun h => ?_) | with_reducible refine bcase (fun h => ?_) (fun h => ?_)) <;> (first | (exfalso; omega) | (conv => whnf)))
              all_goals try (exfalso; omega)
              (refine swd_start mixed rfl ?_; refine sgod_sound [] ?_; conv => whnf)
              refine swd_index rfl rfl rfl rfl rfl rfl rfl rfl  (row := (Ex.mk o0 n0 u0 d0 p0 q0).cells) h0 ?_
              (refine sgod_sound [] ?_; conv => whnf)
              repeat' ((first | with_reducible refine bdec (fun h => ?_) (fun h => ?_) | with_reducible refine bndec (fun h => ?_) (fun h => ?_) | with_reducible refine bwtd (fun h => ?_) (fun h => ?_) | with_reducible refine bwfd (fun h => ?_) (fun h => ?_) | with_reducible refine bwtn (fun h => ?_) (fun h => ?_) | with_reducible refine bwfn (fun h => ?_) (fun h => ?_) | with_reducible refine bwtb (fun h => ?_) (fun h => ?_) | with_reducible refine bwfb (fun h => ?_) (fun h => ?_) | with_reducible refine bwt (fun h => ?_) (fun h => ?_) | with_reducible refine bwf (fun h => ?_) (fun h => ?_) | with_reducible refine bnt (fun h => ?_) (fun h => ?_) | with_reducible refine bcase (fun h => ?_) (fun h => ?_)) <;> (first | (exfalso; omega) | (conv => whnf)))
              · refine swd_pure rfl rfl rfl rfl rfl rfl  (cur_spec G u) ?_
                cases hc : curOK u with
                | false =>
                  (refine sgod_sound [] ?_; conv => whnf)
                  (refine sgo_sound [] 1000 ?_; conv => whnf)
                  exact kB hK (by simp [hc])
                | true =>
                  (refine sgod_sound [] ?_; conv => whnf)
                  refine swd_pure rfl rfl rfl rfl rfl rfl  (refTable_spec G den ps) ?_
                  (refine sgod_sound [] ?_; conv => whnf)
                  (refine sgo_sound [] 1000 ?_; conv => whnf)
                  exact kB hK (by rw [hc, decide_eq_true h]; rfl)
              · (refine sgo_sound [] 1000 ?_; conv => whnf)
                exact kB hK (by rw [decide_eq_false h]; rfl)
          · replace hK : ∀ H', E.K (sB false) H' := by simpa [h5, h18] using hK
            as_aux_lemma =>
              (refine sgo_sound [] 1000 ?_; conv => whnf)
              repeat' ((first | with_reducible refine bdec (fun h => ?_) (fun h => ?_) | with_reducible refine bndec (fun h => ?_) (fun h => ?_) | with_reducible refine bwtd (fun h => ?_) (fun h => ?_) | with_reducible refine bwfd (fun h => ?_) (fun h => ?_) | with_reducible refine bwtn (fun h => ?_) (fun h => ?_) | with_reducible refine bwfn (fun h => ?_) (fun h => ?_) | with_reducible refine bwtb (fun h => ?_) (fun h => ?_) | with_reducible refine bwfb (fun h => ?_) (fun h => ?_) | with_reducible refine bwt (fun h => ?_) (fun h => ?_) | with_reducible refine bwf (fun h => ?_) (fun h => ?_) | with_reducible refine bnt (fun h => ?_) (fun h => ?_) | with_reducible refine bcase (fun h => ?_) (fun h => ?_)) <;> (first | (exfalso; omega) | (conv => whnf)))
              all_goals try (exfalso; omega)
              all_goals (refine swd_start mixed rfl ?_; refine sgod_sound [] ?_; conv => whnf)
              all_goals repeat' ((first | with_reducible refine bdec (fun h => ?_) (fun h => ?_) | with_reducible refine bndec (fun h => ?_) (fun h => ?_) | with_reducible refine bwtd (fun h => ?_) (fun h => ?_) | with_reducible refine bwfd (fun h => ?_) (fun h => ?_) | with_reducible refine bwtn (fun h => ?_) (fun h => ?_) | with_reducible refine bwfn (fun h => ?_) (fun h => ?_) | with_reducible refine bwtb (fun h => ?_) (fun h => ?_) | with_reducible refine bwfb (fun h => ?_) (fun h => ?_) | with_reducible refine bwt (fun h => ?_) (fun h => ?_) | with_reducible refine bwf (fun h => ?_) (fun h => ?_) | with_reducible refine bnt (fun h => ?_) (fun h => ?_) | with_reducible refine bcase (fun h => ?_) (fun h => ?_)) <;> (first | (exfalso; omega) | (conv => whnf)))
              all_goals try (exfalso; omega)
              all_goals (refine sgo_sound [] 1000 ?_; conv => whnf)
              all_goals exact hK _
        | k0 :: k1 :: kr =>
          rw [nodeR_many, if_neg hbad] at hK
          as_aux_lemma =>
            (refine sgo_sound [] 1000 ?_; conv => whnf)
            repeat' ((first | with_reducible refine bdec (fun h => ?_) (fun h => ?_) | with_reducible refine bndec (fun h => ?_) (fun h => ?_) | with_reducible refine bwtd (fun h => ?_) (fun h => ?_) | with_reducible refine bwfd (fun h => ?_) (fun h => ?_) | with_reducible refine bwtn (fun h => ?_) (fun h => ?_) | with_reducible refine bwfn (fun h => ?_) (fun h => ?_) | with_reducible refine bwtb (fun h => ?_) (fun h => ?_) | with_reducible refine bwfb (fun h => ?_) (fun h => ?_) | with_reducible refine bwt (fun h => ?_) (fun h => ?_) | with_reducible refine bwf (fun h => ?_) (fun h => ?_) | with_reducible refine bnt (fun h => ?_) (fun h => ?_) | with_reducible refine bcase (fun h => ?_) (fun h => ?_)) <;> (first | (exfalso; omega) | (conv => whnf)))
            all_goals try (exfalso; omega)
            all_goals refine swr_pure rfl rfl rfl rfl rfl rfl  (many_spec G op n u den ps k0 k1 kr (by simp at hkl; omega)) ?_
            all_goals (refine sgor_sound [] 1000 ?_; conv => whnf)
            all_goals exact hK _
  · as_aux_lemma =>
      rintro done k rest _ ha hl h1 ih
      have hkm : SizeOf.sizeOf k < SizeOf.sizeOf ks := List.sizeOf_lt_of_mem (by rw [ha]; simp)
      have hks : exSize k ≤ exsSize ks := exsSize_mem (by rw [ha]; simp)
      have hw := wrap_succ (n := done.length) (by omega)
      have hrow : (exprRows ks)[((done.length : Nat) : Int).toNat]? = some k.cells := by rw [hrows]; simp [ha]
      have hcall := IH k (by omega) (by omega)
      simp only [List.all_cons] at h1
      obtain ⟨o1, n1, u1, d1, p1, q1⟩ := k
      (refine sgo_sound [] 1000 ?_; conv => whnf)
      repeat' ((first | with_reducible refine bdec (fun h => ?_) (fun h => ?_) | with_reducible refine bndec (fun h => ?_) (fun h => ?_) | with_reducible refine bwtd (fun h => ?_) (fun h => ?_) | with_reducible refine bwfd (fun h => ?_) (fun h => ?_) | with_reducible refine bwtn (fun h => ?_) (fun h => ?_) | with_reducible refine bwfn (fun h => ?_) (fun h => ?_) | with_reducible refine bwtb (fun h => ?_) (fun h => ?_) | with_reducible refine bwfb (fun h => ?_) (fun h => ?_) | with_reducible refine bwt (fun h => ?_) (fun h => ?_) | with_reducible refine bwf (fun h => ?_) (fun h => ?_) | with_reducible refine bnt (fun h => ?_) (fun h => ?_) | with_reducible refine bcase (fun h => ?_) (fun h => ?_)) <;> (first | (exfalso; omega) | (conv => whnf)))
      all_goals try (exfalso; omega)
      (refine swd_start mixed rfl ?_; refine sgod_sound [] ?_; conv => whnf)
      refine swd_index rfl rfl rfl rfl rfl rfl rfl rfl  (row := (Ex.mk o1 n1 u1 d1 p1 q1).cells) hrow ?_
      (refine sgod_sound [] ?_; conv => whnf)
      refine swd_pure rfl rfl rfl rfl rfl rfl  hcall ?_
      cases hb : refFit c (.mk o1 n1 u1 d1 p1 q1) with
      | false =>
        (refine sgod_sound [] ?_; conv => whnf)
        (refine sgo_sound [] 1000 ?_; conv => whnf)
        exact kB hK (by rw [h1, hb]; rfl)
      | true =>
        (refine sgod_sound [] ?_; conv => whnf)
        (refine sgo_sound [] 1000 ?_; conv => whnf)
        rw [hw]
        exact sw_kc [2, 3, 5] 2 (by simp [hH]) (by simp) rfl rfl (ih () (by rw [h1, hb]; rfl))
end Go.Proofs.YthmkdghoaifkbaaGreatDoor

/- Contracts, part Hf: valid codices (reference); the law's own validity. -/
namespace Go.Proofs.YthmkdghoaifkbaaGreatDoor
open Go Go.Sh
set_option maxRecDepth 10000
set_option maxHeartbeats 4000000
variable (G : List (Nat × D))

def refFitsOK (c : Codex) (e : Ex) : Bool := withinOK e && refFit c e
theorem refFits10_spec (c : Codex) (hsz : c.arts.length ≤ 9223372036854775807) (e : Ex) : SPure Tryz.prog G 48 [c.sv, e.sv] (sB (refFitsOK c e)) := by
  have hw := within10_spec G e
  have hf := fun h => refFits_spec G c hsz (SizeOf.sizeOf e + 1) e (by omega) h
  have he : refFitsOK c e = (withinOK e && refFit c e) := rfl
  rw [he]
  have hsmall : withinOK e = true → exSize e ≤ 1000 := fun h => by simp [withinOK] at h; omega
  obtain ⟨op, n, u, den, ps, ks⟩ := e
  refine spure_enter Tryz.func48 rfl (by rw [Tryz.ntmps48]; simp) rfl rfl ?_; intro E hH hK
  (refine sgo_sound [] 1000 ?_; conv => whnf)
  refine swr_pure rfl rfl rfl rfl rfl rfl  hw ?_
  cases hwi : withinOK (.mk op n u den ps ks) with
  | false =>
    (refine sgor_sound [] 1000 ?_; conv => whnf)
    exact kB hK (by rw [hwi]; rfl)
  | true =>
    (refine sgor_sound [] 1000 ?_; conv => whnf)
    refine swr_pure rfl rfl rfl rfl rfl rfl  (hf (hsmall hwi)) ?_
    (refine sgor_sound [] 1000 ?_; conv => whnf)
    exact kB hK (by rw [hwi]; rfl)

def firstLine (c : Codex) (n : Int) : Int := match c.arts[(artIx n c.arts 0).toNat]? with | some a => a.line | none => 0
def refArtOK (c : Codex) (a : Article) : Bool :=
  decide (1 ≤ a.number ∧ a.number ≤ 1000000 ∧ 0 ≤ a.line ∧ a.line < c.lines.length ∧ a.line = firstLine c a.number) && artHead a && a.when_.all (fun e => refFitsOK c e && decide (e.unit = tT)) &&
  a.unless_.all (fun n => decide (0 ≤ artIx n c.arts 0)) && (refFitsOK c a.amount && decide (a.amount.unit = lineUnit c a.line))
def refOK (c : Codex) : Bool :=
  (declsOK 0 0 c.facts && decide (c.facts.length ≤ 32)) && (declsOK 1 4 c.lines && decide (c.lines.length ≤ 32)) && decide (c.arts.length ≤ 60) && c.arts.all (refArtOK c)

theorem refValid10_spec (c : Codex) (hfew : fewOK c 420 = true) : SPure Tryz.prog G 30 [c.sv] (sB (refOK c)) := by
  have hfew' : c.facts.length ≤ 40 ∧ c.lines.length ≤ 40 ∧ c.arts.length ≤ 70 ∧ ∀ a ∈ c.arts, a.when_.length ≤ 40 ∧ a.unless_.length ≤ 80 := by
    simp only [fewOK, Bool.and_eq_true, decide_eq_true_eq, List.all_eq_true] at hfew
    obtain ⟨⟨⟨h1, h2⟩, h3⟩, h4⟩ := hfew
    refine ⟨h1, h2, h3, fun a ha => ?_⟩
    have := h4 a ha
    simp only [artFew, Bool.and_eq_true, decide_eq_true_eq] at this
    exact ⟨this.1.1.1, this.1.1.2⟩
  obtain ⟨hsf, hsl, hsa, hart⟩ := hfew'
  refine spure_enter Tryz.func30 rfl (by rw [Tryz.ntmps30]; simp) rfl rfl ?_; intro E hH hK
  have hll : (c.lines.map Decl.cells).length = c.lines.length := by simp
  have hla : (c.arts.map Article.cells).length = c.arts.length := by simp
  (refine sgo_sound [] 1000 ?_; conv => whnf)
  refine swr_pure rfl rfl rfl rfl rfl rfl  (refDecls_spec G c.facts 0 0 (by omega)) ?_
  cases hd1 : (declsOK 0 0 c.facts && decide (c.facts.length ≤ 32)) with
  | false =>
    (refine sgor_sound [] 1000 ?_; conv => whnf)
    exact kB hK (by simp only [refOK, hd1, Bool.false_and])
  | true =>
  (refine sgor_sound [] 1000 ?_; conv => whnf)
  refine swr_pure rfl rfl rfl rfl rfl rfl  (refDecls_spec G c.lines 1 4 (by omega)) ?_
  cases hd2 : (declsOK 1 4 c.lines && decide (c.lines.length ≤ 32)) with
  | false =>
    (refine sgor_sound [] 1000 ?_; conv => whnf)
    exact kB hK (by simp only [refOK, hd1, hd2, Bool.and_false, Bool.false_and])
  | true =>
  (refine sgor_sound [] 1000 ?_; conv => whnf)
  repeat' ((first | with_reducible refine bdec (fun h => ?_) (fun h => ?_) | with_reducible refine bndec (fun h => ?_) (fun h => ?_) | with_reducible refine bwtd (fun h => ?_) (fun h => ?_) | with_reducible refine bwfd (fun h => ?_) (fun h => ?_) | with_reducible refine bwtn (fun h => ?_) (fun h => ?_) | with_reducible refine bwfn (fun h => ?_) (fun h => ?_) | with_reducible refine bwtb (fun h => ?_) (fun h => ?_) | with_reducible refine bwfb (fun h => ?_) (fun h => ?_) | with_reducible refine bwt (fun h => ?_) (fun h => ?_) | with_reducible refine bwf (fun h => ?_) (fun h => ?_) | with_reducible refine bnt (fun h => ?_) (fun h => ?_) | with_reducible refine bcase (fun h => ?_) (fun h => ?_)) <;> (first | (exfalso; omega) | (conv => whnf)))
  · exact kB hK (by simp only [refOK, hd1, hd2]; rw [decide_eq_false (by omega)]; rfl)
  have hok : refOK c = c.arts.all (refArtOK c) := by simp only [refOK, hd1, hd2]; rw [decide_eq_true (by omega)]; rfl
  refine sw_keep [1, 3] ?_
  refine sw_each c.arts (fun i (_ : Unit) => [(1, .ptr 0 0), (3, sI i)]) (fun _ _ => [.cells [.imm (dDecls c.facts), .imm (dDecls c.lines), .imm (dArts c.arts)]])
    (fun done rest _ => c.arts.all (refArtOK c) = rest.all (refArtOK c)) () rfl ?_ ?_
  · as_aux_lemma =>
      rintro _ h1
      (refine sgo_sound [] 1000 ?_; conv => whnf)
      repeat' ((first | with_reducible refine bdec (fun h => ?_) (fun h => ?_) | with_reducible refine bndec (fun h => ?_) (fun h => ?_) | with_reducible refine bwtd (fun h => ?_) (fun h => ?_) | with_reducible refine bwfd (fun h => ?_) (fun h => ?_) | with_reducible refine bwtn (fun h => ?_) (fun h => ?_) | with_reducible refine bwfn (fun h => ?_) (fun h => ?_) | with_reducible refine bwtb (fun h => ?_) (fun h => ?_) | with_reducible refine bwfb (fun h => ?_) (fun h => ?_) | with_reducible refine bwt (fun h => ?_) (fun h => ?_) | with_reducible refine bwf (fun h => ?_) (fun h => ?_) | with_reducible refine bnt (fun h => ?_) (fun h => ?_) | with_reducible refine bcase (fun h => ?_) (fun h => ?_)) <;> (first | (exfalso; omega) | (conv => whnf)))
      all_goals try (exfalso; omega)
      exact kB hK (by rw [hok, h1]; rfl)
  · as_aux_lemma =>
      rintro done a rest _ ha hl hinv ih
      have hw := wrap_succ (n := done.length) (by omega)
      simp only [List.all_cons] at hinv
      obtain ⟨hwn, hun⟩ := hart a (by rw [ha]; simp)
      obtain ⟨op, n, u, den, ps, ks, ham⟩ : ∃ op n u den ps ks, a.amount = .mk op n u den ps ks := by cases h : a.amount; exact ⟨_, _, _, _, _, _, rfl⟩
      have hrow : (c.arts.map Article.cells)[((done.length : Nat) : Int).toNat]? = some [dI a.number, dI a.line, dI a.rank, dI a.lo, dI a.hi, dI a.known, dExprs a.when_, dInts a.unless_, dI op, dI n, dS u, dI den, .isl 3 (ps.map Piece.cells), .isl 6 (exprRows ks)] := by
        simp [ha, Article.cells, ham, exprRows_eq, Ex.op, Ex.n, Ex.unit, Ex.den, Ex.pieces, Ex.kids]
      have hwl : (a.when_.map Ex.cells).length = a.when_.length := by simp
      have hul : (a.unless_.map fun n => [dI n]).length = a.unless_.length := by simp
      have bad : refArtOK c a = false → refOK c = false := fun h => by rw [hok, hinv, h]; rfl
      have bad1 : ¬ (1 ≤ a.number ∧ a.number ≤ 1000000 ∧ 0 ≤ a.line ∧ a.line < c.lines.length ∧ a.line = firstLine c a.number) → refOK c = false := fun h => bad (by simp only [refArtOK]; rw [decide_eq_false h]; rfl)
      have bad2 : artHead a = false → refOK c = false := fun h => bad (by simp only [refArtOK, h, Bool.and_false, Bool.false_and])
      obtain ⟨b, hb1, hb2⟩ : ∃ b, c.arts[(artIx a.number c.arts 0).toNat]? = some b ∧ 0 ≤ artIx a.number c.arts 0 := by
        rcases artIx_range a.number c.arts 0 with h | ⟨g1, g2, x, g3, g4⟩
        · exact absurd rfl ((artIx_some a.number c.arts 0).1 h a (by rw [ha]; simp))
        · exact ⟨x, by simpa using g3, by simpa using g1⟩
      have hfl : firstLine c a.number = b.line := by simp only [firstLine, hb1]
      have hnum := numbered_spec G c a.number (by omega)
      generalize hix : artIx a.number c.arts 0 = ix at hb1 hb2 hnum
      (refine sgo_sound [] 1000 ?_; conv => whnf)
      repeat' ((first | with_reducible refine bdec (fun h => ?_) (fun h => ?_) | with_reducible refine bndec (fun h => ?_) (fun h => ?_) | with_reducible refine bwtd (fun h => ?_) (fun h => ?_) | with_reducible refine bwfd (fun h => ?_) (fun h => ?_) | with_reducible refine bwtn (fun h => ?_) (fun h => ?_) | with_reducible refine bwfn (fun h => ?_) (fun h => ?_) | with_reducible refine bwtb (fun h => ?_) (fun h => ?_) | with_reducible refine bwfb (fun h => ?_) (fun h => ?_) | with_reducible refine bwt (fun h => ?_) (fun h => ?_) | with_reducible refine bwf (fun h => ?_) (fun h => ?_) | with_reducible refine bnt (fun h => ?_) (fun h => ?_) | with_reducible refine bcase (fun h => ?_) (fun h => ?_)) <;> (first | (exfalso; omega) | (conv => whnf)))
      all_goals try (exfalso; omega)
      refine swr_index rfl rfl rfl rfl rfl rfl rfl rfl  (row := [dI a.number, dI a.line, dI a.rank, dI a.lo, dI a.hi, dI a.known, dExprs a.when_, dInts a.unless_, dI op, dI n, dS u, dI den, .isl 3 (ps.map Piece.cells), .isl 6 (exprRows ks)]) hrow ?_
      (refine sgor_sound [] 1000 ?_; conv => whnf)
      by_cases hg1 : 1 ≤ a.number ∧ a.number ≤ 1000000 ∧ 0 ≤ a.line ∧ a.line < c.lines.length
      · (refine swd_start mixed rfl ?_; refine sgod_sound [] ?_; conv => whnf)
        repeat' ((first | with_reducible refine bdec (fun h => ?_) (fun h => ?_) | with_reducible refine bndec (fun h => ?_) (fun h => ?_) | with_reducible refine bwtd (fun h => ?_) (fun h => ?_) | with_reducible refine bwfd (fun h => ?_) (fun h => ?_) | with_reducible refine bwtn (fun h => ?_) (fun h => ?_) | with_reducible refine bwfn (fun h => ?_) (fun h => ?_) | with_reducible refine bwtb (fun h => ?_) (fun h => ?_) | with_reducible refine bwfb (fun h => ?_) (fun h => ?_) | with_reducible refine bwt (fun h => ?_) (fun h => ?_) | with_reducible refine bwf (fun h => ?_) (fun h => ?_) | with_reducible refine bnt (fun h => ?_) (fun h => ?_) | with_reducible refine bcase (fun h => ?_) (fun h => ?_)) <;> (first | (exfalso; omega) | (conv => whnf)))
        all_goals try (exfalso; omega)
        refine swd_pure rfl rfl rfl rfl rfl rfl  hnum ?_
        (refine sgod_sound [] ?_; conv => whnf)
        refine swd_index rfl rfl rfl rfl rfl rfl rfl (i := ix.toNat) (by omega) (row := b.cells) (by simp [hb1]) ?_
        by_cases hline : a.line = b.line
        rotate_left
        · (refine sgod_sound [] ?_; conv => whnf)
          repeat' ((first | with_reducible refine bdec (fun h => ?_) (fun h => ?_) | with_reducible refine bndec (fun h => ?_) (fun h => ?_) | with_reducible refine bwtd (fun h => ?_) (fun h => ?_) | with_reducible refine bwfd (fun h => ?_) (fun h => ?_) | with_reducible refine bwtn (fun h => ?_) (fun h => ?_) | with_reducible refine bwfn (fun h => ?_) (fun h => ?_) | with_reducible refine bwtb (fun h => ?_) (fun h => ?_) | with_reducible refine bwfb (fun h => ?_) (fun h => ?_) | with_reducible refine bwt (fun h => ?_) (fun h => ?_) | with_reducible refine bwf (fun h => ?_) (fun h => ?_) | with_reducible refine bnt (fun h => ?_) (fun h => ?_) | with_reducible refine bcase (fun h => ?_) (fun h => ?_)) <;> (first | (exfalso; omega) | (conv => whnf)))
          all_goals (refine sgo_sound [] 1000 ?_; conv => whnf)
          all_goals exact kB hK (bad1 (fun hc => hline (by rw [← hfl]; exact hc.2.2.2.2)))
        (refine sgod_sound [] ?_; conv => whnf)
        repeat' ((first | with_reducible refine bdec (fun h => ?_) (fun h => ?_) | with_reducible refine bndec (fun h => ?_) (fun h => ?_) | with_reducible refine bwtd (fun h => ?_) (fun h => ?_) | with_reducible refine bwfd (fun h => ?_) (fun h => ?_) | with_reducible refine bwtn (fun h => ?_) (fun h => ?_) | with_reducible refine bwfn (fun h => ?_) (fun h => ?_) | with_reducible refine bwtb (fun h => ?_) (fun h => ?_) | with_reducible refine bwfb (fun h => ?_) (fun h => ?_) | with_reducible refine bwt (fun h => ?_) (fun h => ?_) | with_reducible refine bwf (fun h => ?_) (fun h => ?_) | with_reducible refine bnt (fun h => ?_) (fun h => ?_) | with_reducible refine bcase (fun h => ?_) (fun h => ?_)) <;> (first | (exfalso; omega) | (conv => whnf)))
        all_goals (refine sgo_sound [] 1000 ?_; conv => whnf)
        all_goals repeat' ((first | with_reducible refine bdec (fun h => ?_) (fun h => ?_) | with_reducible refine bndec (fun h => ?_) (fun h => ?_) | with_reducible refine bwtd (fun h => ?_) (fun h => ?_) | with_reducible refine bwfd (fun h => ?_) (fun h => ?_) | with_reducible refine bwtn (fun h => ?_) (fun h => ?_) | with_reducible refine bwfn (fun h => ?_) (fun h => ?_) | with_reducible refine bwtb (fun h => ?_) (fun h => ?_) | with_reducible refine bwfb (fun h => ?_) (fun h => ?_) | with_reducible refine bwt (fun h => ?_) (fun h => ?_) | with_reducible refine bwf (fun h => ?_) (fun h => ?_) | with_reducible refine bnt (fun h => ?_) (fun h => ?_) | with_reducible refine bcase (fun h => ?_) (fun h => ?_)) <;> (first | (exfalso; omega) | (conv => whnf)))
        all_goals try exact kB hK (bad2 (by simp [artHead]; intros; omega))
        have hhead : artHead a = true := by simp [artHead]; omega
        have hone : decide (1 ≤ a.number ∧ a.number ≤ 1000000 ∧ 0 ≤ a.line ∧ a.line < c.lines.length ∧ a.line = firstLine c a.number) = true := decide_eq_true ⟨hg1.1, hg1.2.1, hg1.2.2.1, hg1.2.2.2, by rw [hfl]; exact hline⟩
        have hart2 : refArtOK c a = (a.when_.all (fun e => refFitsOK c e && decide (e.unit = tT)) && a.unless_.all (fun n => decide (0 ≤ artIx n c.arts 0)) && (refFitsOK c a.amount && decide (a.amount.unit = lineUnit c a.line))) := by
          simp only [refArtOK, hone, hhead, Bool.true_and]
        clear hnum bad1 bad2 hone hhead
        refine sw_keep [1, 3, 4, 5] ?_
        refine sw_each a.when_ (fun i (_ : Unit) => [(1, .ptr 0 0), (3, sI done.length), (4, .ptr 1 0), (5, sI i)])
          (fun _ _ => [.cells [.imm (dDecls c.facts), .imm (dDecls c.lines), .imm (dArts c.arts)], .cells (artList a op n u den ps ks)])
          (fun done rest _ => a.when_.all (fun e => refFitsOK c e && decide (e.unit = tT)) = rest.all (fun e => refFitsOK c e && decide (e.unit = tT))) () rfl ?_ ?_
        · as_aux_lemma =>
            rintro _ hwh
            have hwt : a.when_.all (fun e => refFitsOK c e && decide (e.unit = tT)) = true := by rw [hwh]; rfl
            rw [hwt, Bool.true_and] at hart2
            (refine sgo_sound [] 1000 ?_; conv => whnf)
            repeat' ((first | with_reducible refine bdec (fun h => ?_) (fun h => ?_) | with_reducible refine bndec (fun h => ?_) (fun h => ?_) | with_reducible refine bwtd (fun h => ?_) (fun h => ?_) | with_reducible refine bwfd (fun h => ?_) (fun h => ?_) | with_reducible refine bwtn (fun h => ?_) (fun h => ?_) | with_reducible refine bwfn (fun h => ?_) (fun h => ?_) | with_reducible refine bwtb (fun h => ?_) (fun h => ?_) | with_reducible refine bwfb (fun h => ?_) (fun h => ?_) | with_reducible refine bwt (fun h => ?_) (fun h => ?_) | with_reducible refine bwf (fun h => ?_) (fun h => ?_) | with_reducible refine bnt (fun h => ?_) (fun h => ?_) | with_reducible refine bcase (fun h => ?_) (fun h => ?_)) <;> (first | (exfalso; omega) | (conv => whnf)))
            all_goals try (exfalso; omega)
            refine sw_keep [1, 3, 4, 6] ?_
            refine sw_each a.unless_ (fun i (_ : Unit) => [(1, .ptr 0 0), (3, sI done.length), (4, .ptr 1 0), (6, sI i)])
              (fun _ _ => [.cells [.imm (dDecls c.facts), .imm (dDecls c.lines), .imm (dArts c.arts)], .cells (artList a op n u den ps ks)])
              (fun done rest _ => a.unless_.all (fun n => decide (0 ≤ artIx n c.arts 0)) = rest.all (fun n => decide (0 ≤ artIx n c.arts 0))) () rfl ?_ ?_
            · as_aux_lemma =>
                rintro _ huh
                have hut : a.unless_.all (fun n => decide (0 ≤ artIx n c.arts 0)) = true := by rw [huh]; rfl
                rw [hut, Bool.true_and, ham] at hart2
                obtain ⟨d, hd⟩ : ∃ d, c.lines[a.line.toNat]? = some d := ⟨c.lines[a.line.toNat]'(by omega), List.getElem?_eq_getElem _⟩
                have hlu : lineUnit c a.line = d.unit := by simp only [lineUnit, hd]
                rw [hlu] at hart2
                replace hart2 : refArtOK c a = (refFitsOK c (.mk op n u den ps ks) && decide (u = d.unit)) := hart2
                have hfit := refFits10_spec G c (by omega) (.mk op n u den ps ks)
                (refine sgo_sound [] 1000 ?_; conv => whnf)
                repeat' ((first | with_reducible refine bdec (fun h => ?_) (fun h => ?_) | with_reducible refine bndec (fun h => ?_) (fun h => ?_) | with_reducible refine bwtd (fun h => ?_) (fun h => ?_) | with_reducible refine bwfd (fun h => ?_) (fun h => ?_) | with_reducible refine bwtn (fun h => ?_) (fun h => ?_) | with_reducible refine bwfn (fun h => ?_) (fun h => ?_) | with_reducible refine bwtb (fun h => ?_) (fun h => ?_) | with_reducible refine bwfb (fun h => ?_) (fun h => ?_) | with_reducible refine bwt (fun h => ?_) (fun h => ?_) | with_reducible refine bwf (fun h => ?_) (fun h => ?_) | with_reducible refine bnt (fun h => ?_) (fun h => ?_) | with_reducible refine bcase (fun h => ?_) (fun h => ?_)) <;> (first | (exfalso; omega) | (conv => whnf)))
                all_goals try (exfalso; omega)
                (refine swd_start mixed rfl ?_; refine sgod_sound [] ?_; conv => whnf)
                refine swd_pure rfl rfl rfl rfl rfl rfl  hfit ?_
                cases hf : refFitsOK c (.mk op n u den ps ks) with
                | false =>
                  (refine sgod_sound [] ?_; conv => whnf)
                  (refine sgo_sound [] 1000 ?_; conv => whnf)
                  exact kB hK (bad (by rw [hart2, hf]; rfl))
                | true =>
                  (refine sgod_sound [] ?_; conv => whnf)
                  refine swd_index rfl rfl rfl rfl rfl rfl rfl (i := a.line.toNat) (by omega) (row := d.cells) (by simp [hd]) ?_
                  (refine sgod_sound [] ?_; conv => whnf)
                  (refine sgo_sound [] 1000 ?_; conv => whnf)
                  repeat' ((first | with_reducible refine bdec (fun h => ?_) (fun h => ?_) | with_reducible refine bndec (fun h => ?_) (fun h => ?_) | with_reducible refine bwtd (fun h => ?_) (fun h => ?_) | with_reducible refine bwfd (fun h => ?_) (fun h => ?_) | with_reducible refine bwtn (fun h => ?_) (fun h => ?_) | with_reducible refine bwfn (fun h => ?_) (fun h => ?_) | with_reducible refine bwtb (fun h => ?_) (fun h => ?_) | with_reducible refine bwfb (fun h => ?_) (fun h => ?_) | with_reducible refine bwt (fun h => ?_) (fun h => ?_) | with_reducible refine bwf (fun h => ?_) (fun h => ?_) | with_reducible refine bnt (fun h => ?_) (fun h => ?_) | with_reducible refine bcase (fun h => ?_) (fun h => ?_)) <;> (first | (exfalso; omega) | (conv => whnf)))
                  · exact kB hK (bad (by rw [hart2, hf, decide_eq_false h]; rfl))
                  · rw [hw]
                    exact sw_kc [1, 3] 1 (by simp [hH]) (by simp) rfl rfl (ih () (by rw [hinv, hart2, hf, decide_eq_true h]; rfl))
            · as_aux_lemma =>
                rintro d3 x r3 _ ha3 hl3 h3 ih3
                have hw3 := wrap_succ (n := d3.length) (by omega)
                simp only [List.all_cons] at h3
                (refine sgo_sound [] 1000 ?_; conv => whnf)
                repeat' ((first | with_reducible refine bdec (fun h => ?_) (fun h => ?_) | with_reducible refine bndec (fun h => ?_) (fun h => ?_) | with_reducible refine bwtd (fun h => ?_) (fun h => ?_) | with_reducible refine bwfd (fun h => ?_) (fun h => ?_) | with_reducible refine bwtn (fun h => ?_) (fun h => ?_) | with_reducible refine bwfn (fun h => ?_) (fun h => ?_) | with_reducible refine bwtb (fun h => ?_) (fun h => ?_) | with_reducible refine bwfb (fun h => ?_) (fun h => ?_) | with_reducible refine bwt (fun h => ?_) (fun h => ?_) | with_reducible refine bwf (fun h => ?_) (fun h => ?_) | with_reducible refine bnt (fun h => ?_) (fun h => ?_) | with_reducible refine bcase (fun h => ?_) (fun h => ?_)) <;> (first | (exfalso; omega) | (conv => whnf)))
                all_goals try (exfalso; omega)
                (refine swd_start mixed rfl ?_; refine sgod_sound [] ?_; conv => whnf)
                refine swd_index rfl rfl rfl rfl rfl rfl rfl rfl  (row := [dI x]) (by simp [ha3]) ?_
                (refine sgod_sound [] ?_; conv => whnf)
                refine swd_pure rfl rfl rfl rfl rfl rfl  (numbered_spec G c x (by omega)) ?_
                (refine sgod_sound [] ?_; conv => whnf)
                (refine sgo_sound [] 1000 ?_; conv => whnf)
                repeat' ((first | with_reducible refine bdec (fun h => ?_) (fun h => ?_) | with_reducible refine bndec (fun h => ?_) (fun h => ?_) | with_reducible refine bwtd (fun h => ?_) (fun h => ?_) | with_reducible refine bwfd (fun h => ?_) (fun h => ?_) | with_reducible refine bwtn (fun h => ?_) (fun h => ?_) | with_reducible refine bwfn (fun h => ?_) (fun h => ?_) | with_reducible refine bwtb (fun h => ?_) (fun h => ?_) | with_reducible refine bwfb (fun h => ?_) (fun h => ?_) | with_reducible refine bwt (fun h => ?_) (fun h => ?_) | with_reducible refine bwf (fun h => ?_) (fun h => ?_) | with_reducible refine bnt (fun h => ?_) (fun h => ?_) | with_reducible refine bcase (fun h => ?_) (fun h => ?_)) <;> (first | (exfalso; omega) | (conv => whnf)))
                · exact kB hK (bad (by rw [hart2, h3, decide_eq_false (by omega)]; rfl))
                · rw [hw3]
                  exact sw_kc [1, 3, 4, 6] 2 (by simp [hH]) (by simp) rfl rfl (ih3 () (by rw [h3, decide_eq_true (by omega)]; rfl))
        · as_aux_lemma =>
            rintro d2 e r2 _ ha2 hl2 h2 ih2
            have hw2 := wrap_succ (n := d2.length) (by omega)
            simp only [List.all_cons] at h2
            have hfit := refFits10_spec G c (by omega) e
            obtain ⟨o1, n1, u1, d1, p1, q1⟩ := e
            replace h2 : a.when_.all (fun e => refFitsOK c e && decide (e.unit = tT)) = ((refFitsOK c (.mk o1 n1 u1 d1 p1 q1) && decide (u1 = tT)) && r2.all (fun e => refFitsOK c e && decide (e.unit = tT))) := h2
            (refine sgo_sound [] 1000 ?_; conv => whnf)
            repeat' ((first | with_reducible refine bdec (fun h => ?_) (fun h => ?_) | with_reducible refine bndec (fun h => ?_) (fun h => ?_) | with_reducible refine bwtd (fun h => ?_) (fun h => ?_) | with_reducible refine bwfd (fun h => ?_) (fun h => ?_) | with_reducible refine bwtn (fun h => ?_) (fun h => ?_) | with_reducible refine bwfn (fun h => ?_) (fun h => ?_) | with_reducible refine bwtb (fun h => ?_) (fun h => ?_) | with_reducible refine bwfb (fun h => ?_) (fun h => ?_) | with_reducible refine bwt (fun h => ?_) (fun h => ?_) | with_reducible refine bwf (fun h => ?_) (fun h => ?_) | with_reducible refine bnt (fun h => ?_) (fun h => ?_) | with_reducible refine bcase (fun h => ?_) (fun h => ?_)) <;> (first | (exfalso; omega) | (conv => whnf)))
            all_goals try (exfalso; omega)
            (refine swd_start mixed rfl ?_; refine sgod_sound [] ?_; conv => whnf)
            refine swd_index rfl rfl rfl rfl rfl rfl rfl rfl  (row := (Ex.mk o1 n1 u1 d1 p1 q1).cells) (by simp [ha2]) ?_
            (refine sgod_sound [] ?_; conv => whnf)
            refine swd_pure rfl rfl rfl rfl rfl rfl  hfit ?_
            cases hf : refFitsOK c (.mk o1 n1 u1 d1 p1 q1) with
            | false =>
              (refine sgod_sound [] ?_; conv => whnf)
              (refine sgo_sound [] 1000 ?_; conv => whnf)
              exact kB hK (bad (by rw [hart2, h2, hf]; rfl))
            | true =>
              (refine sgod_sound [] ?_; conv => whnf)
              refine swd_index rfl rfl rfl rfl rfl rfl rfl rfl  (row := (Ex.mk o1 n1 u1 d1 p1 q1).cells) (by simp [ha2]) ?_
              (refine sgod_sound [] ?_; conv => whnf)
              (refine sgo_sound [] 1000 ?_; conv => whnf)
              repeat' ((first | with_reducible refine bdec (fun h => ?_) (fun h => ?_) | with_reducible refine bndec (fun h => ?_) (fun h => ?_) | with_reducible refine bwtd (fun h => ?_) (fun h => ?_) | with_reducible refine bwfd (fun h => ?_) (fun h => ?_) | with_reducible refine bwtn (fun h => ?_) (fun h => ?_) | with_reducible refine bwfn (fun h => ?_) (fun h => ?_) | with_reducible refine bwtb (fun h => ?_) (fun h => ?_) | with_reducible refine bwfb (fun h => ?_) (fun h => ?_) | with_reducible refine bwt (fun h => ?_) (fun h => ?_) | with_reducible refine bwf (fun h => ?_) (fun h => ?_) | with_reducible refine bnt (fun h => ?_) (fun h => ?_) | with_reducible refine bcase (fun h => ?_) (fun h => ?_)) <;> (first | (exfalso; omega) | (conv => whnf)))
              · exact kB hK (bad (by rw [hart2, h2, hf, decide_eq_false (by exact h)]; rfl))
              · rw [hw2]
                exact sw_kc [1, 3, 4, 5] 2 (by simp [hH]) (by simp) rfl rfl (ih2 () (by rw [h2, hf, decide_eq_true (by exact h)]; rfl))
      · (refine swd_start mixed rfl ?_; refine sgod_sound [] ?_; conv => whnf)
        repeat' ((first | with_reducible refine bdec (fun h => ?_) (fun h => ?_) | with_reducible refine bndec (fun h => ?_) (fun h => ?_) | with_reducible refine bwtd (fun h => ?_) (fun h => ?_) | with_reducible refine bwfd (fun h => ?_) (fun h => ?_) | with_reducible refine bwtn (fun h => ?_) (fun h => ?_) | with_reducible refine bwfn (fun h => ?_) (fun h => ?_) | with_reducible refine bwtb (fun h => ?_) (fun h => ?_) | with_reducible refine bwfb (fun h => ?_) (fun h => ?_) | with_reducible refine bwt (fun h => ?_) (fun h => ?_) | with_reducible refine bwf (fun h => ?_) (fun h => ?_) | with_reducible refine bnt (fun h => ?_) (fun h => ?_) | with_reducible refine bcase (fun h => ?_) (fun h => ?_)) <;> (first | (exfalso; omega) | (conv => whnf)))
        all_goals try (exfalso; omega)
        all_goals try (refine sgo_sound [] 1000 ?_; conv => whnf)
        all_goals exact kB hK (bad1 (fun hc => hg1 ⟨hc.1, hc.2.1, hc.2.2.1, hc.2.2.2.1⟩))

def validOK (c : Codex) (l : List Fact) : Bool := smallOK c l && refOK c && storeOK l
theorem lawValid_spec (c : Codex) (l : List Fact) (hfit : ∀ f ∈ l, f.fit) : SPure Tryz.prog G 18 [c.sv, storeSV l] (sB (validOK c l)) := by
  refine spure_enter Tryz.func18 rfl (by rw [Tryz.ntmps18]; simp) rfl rfl ?_; intro E hH hK
  (refine sgo_sound [] 1000 ?_; conv => whnf)
  refine swr_pure rfl rfl rfl rfl rfl rfl  (lawSmall_spec G c l) ?_
  cases hs : smallOK c l with
  | false =>
    (refine sgor_sound [] 1000 ?_; conv => whnf)
    exact kB hK (by simp only [validOK, hs, Bool.false_and])
  | true =>
    have hfew : fewOK c 420 = true := by simp only [smallOK, Bool.and_eq_true] at hs; exact hs.1
    (refine sgor_sound [] 1000 ?_; conv => whnf)
    refine swr_pure rfl rfl rfl rfl rfl rfl  (refValid10_spec G c hfew) ?_
    cases hr : refOK c with
    | false =>
      (refine sgor_sound [] 1000 ?_; conv => whnf)
      exact kB hK (by simp only [validOK, hr, Bool.and_false, Bool.false_and])
    | true =>
      (refine sgor_sound [] 1000 ?_; conv => whnf)
      refine swr_pure rfl rfl rfl rfl rfl rfl  (refValid12_spec G l hfit) ?_
      (refine sgor_sound [] 1000 ?_; conv => whnf)
      exact kB hK (by simp only [validOK, hs, hr, Bool.true_and])
end Go.Proofs.YthmkdghoaifkbaaGreatDoor

/- The law ViewFacts: what it computes. -/
namespace Go.Proofs.YthmkdghoaifkbaaGreatDoor
open Go Go.Sh
set_option maxRecDepth 10000
set_option maxHeartbeats 4000000

theorem viewAt_ok {c : Codex} {l : List Fact} {p : ByteArray} {day k : Int} (h : (viewAt c l p day k).2 = 0) : viewAt c l p day k = (viewOf c l p k day, 0) ∧ readerOK c l k = true ∧ dayOK day = true := by
  simp only [viewAt] at h ⊢
  split at h
  · rename_i hc
    rw [if_pos hc]
    simp only [Bool.and_eq_true] at hc
    exact ⟨rfl, hc.1, hc.2⟩
  · simp at h
theorem storeFit {l : List Fact} (h : storeGo l) : ∀ f ∈ l, f.fit := fun f hf => ⟨(h.fact f hf).person, (h.fact f hf).name⟩
theorem codexFit {c : Codex} (h : Codex.ok c) : Codex.fit c := fun a ha => ⟨(h.art a ha).unless_, (h.art a ha).when_⟩
theorem viewAt_two (c : Codex) (l : List Fact) (p : ByteArray) (day k : Int) : (viewAt c l p day k).2 = 0 ∨ (viewAt c l p day k).2 = 1 := by
  simp only [viewAt]; split <;> simp

theorem viewFactsLaw_spec (c : Codex) (l : List Fact) (p : ByteArray) (day k : Int) (hc : Codex.ok c) (hl : storeGo l) :
    SPure Tryz.prog G0 7 [c.sv, storeSV l, sS p, sI day, sI k] (sB true) := by
  refine spure_enter Tryz.func7 rfl (by rw [Tryz.ntmps7]; simp) rfl rfl ?_; intro E hH hK
  have hlf : (c.facts.map Decl.cells).length = c.facts.length := by simp
  (refine sgo_sound [] 1000 ?_; conv => whnf)
  refine swr_pure rfl rfl rfl rfl rfl rfl  head_spec ?_
  (refine sgor_sound [] 1000 ?_; conv => whnf)
  refine swr_pure rfl rfl rfl rfl rfl rfl  (viewAt_spec G0 c l p day k (codexFit hc)) ?_
  rcases viewAt_two c l p day k with he | he
  · obtain ⟨hv, hr, hd⟩ := viewAt_ok he
    rw [show errSV (viewAt c l p day k).1.sv (viewAt c l p day k).2 = errSV (viewOf c l p k day).sv 0 by rw [hv]]
    have hVd : (viewOf c l p k day).day = day := rfl
    have hVh : (viewOf c l p k day).has = c.facts.map fun d => (usableOf c l p k day d).2 := rfl
    have hVv : (viewOf c l p k day).value = c.facts.map fun d => (usableOf c l p k day d).1 := rfl
    generalize viewOf c l p k day = V at hVd hVh hVv ⊢
    obtain ⟨hz1, hz2, hz3⟩ := readerOK_len hr
    have hst : storeOK l = true := by simp only [readerOK, Bool.and_eq_true] at hr; exact hr.1.2
    have hh : (c.facts.map fun d => (usableOf c l p k day d).2).length = c.facts.length := by simp
    have hvl : (c.facts.map fun d => (usableOf c l p k day d).1).length = c.facts.length := by simp
    (refine sgor_sound [] 1000 ?_; conv => whnf)
    refine swr_pure rfl rfl rfl rfl rfl rfl  (lawValid_spec G0 c l (storeFit hl)) ?_
    cases hval : validOK c l with
    | false =>
      (refine sgor_sound [] 1000 ?_; conv => whnf)
      exact hK _
    | true =>
      have hbl : (V.has.map fun b => [dB b]).length = c.facts.length := by rw [hVh]; simp
      have hil : (V.value.map fun n => [dI n]).length = c.facts.length := by rw [hVv]; simp
      (refine sgor_sound [] 1000 ?_; conv => whnf)
      repeat' ((first | with_reducible refine bdec (fun h => ?_) (fun h => ?_) | with_reducible refine bndec (fun h => ?_) (fun h => ?_) | with_reducible refine bwtd (fun h => ?_) (fun h => ?_) | with_reducible refine bwfd (fun h => ?_) (fun h => ?_) | with_reducible refine bwtn (fun h => ?_) (fun h => ?_) | with_reducible refine bwfn (fun h => ?_) (fun h => ?_) | with_reducible refine bwtb (fun h => ?_) (fun h => ?_) | with_reducible refine bwfb (fun h => ?_) (fun h => ?_) | with_reducible refine bwt (fun h => ?_) (fun h => ?_) | with_reducible refine bwf (fun h => ?_) (fun h => ?_) | with_reducible refine bnt (fun h => ?_) (fun h => ?_) | with_reducible refine bcase (fun h => ?_) (fun h => ?_)) <;> (first | (exfalso; omega) | (conv => whnf)))
      refine sw_keep [2, 3, 4, 5, 6, 11, 12, 61, 62, 63] ?_
      refine sw_each c.facts (fun i (_ : Unit) => [(2, sS p), (3, sI day), (4, sI k), (5, .ptr 0 0), (6, .ptr 1 0), (11, sB true), (12, .ptr 2 0), (61, .imm (dDecls c.facts)), (62, sI (c.facts.map Decl.cells).length), (63, sI i)])
        (fun _ _ => [.cells [.imm (dDecls c.facts), .imm (dDecls c.lines), .imm (dArts c.arts)], .cells [.imm (dFacts l)], .cells [sI V.day, .imm (dBools V.has), .imm (dInts V.value), .imm (dInts V.arts)]])
        (fun _ _ _ => True) () trivial ?_ ?_
      · as_aux_lemma =>
          rintro _ _
          (refine sgo_sound [] 1000 ?_; conv => whnf)
          repeat' ((first | with_reducible refine bdec (fun h => ?_) (fun h => ?_) | with_reducible refine bndec (fun h => ?_) (fun h => ?_) | with_reducible refine bwtd (fun h => ?_) (fun h => ?_) | with_reducible refine bwfd (fun h => ?_) (fun h => ?_) | with_reducible refine bwtn (fun h => ?_) (fun h => ?_) | with_reducible refine bwfn (fun h => ?_) (fun h => ?_) | with_reducible refine bwtb (fun h => ?_) (fun h => ?_) | with_reducible refine bwfb (fun h => ?_) (fun h => ?_) | with_reducible refine bwt (fun h => ?_) (fun h => ?_) | with_reducible refine bwf (fun h => ?_) (fun h => ?_) | with_reducible refine bnt (fun h => ?_) (fun h => ?_) | with_reducible refine bcase (fun h => ?_) (fun h => ?_)) <;> (first | (exfalso; omega) | (conv => whnf)))
          exact hK _
      · as_aux_lemma =>
          rintro done d rest _ ha hl2 _ ih
          have hw := wrap_succ (n := done.length) (by omega)
          have hrow : (c.facts.map Decl.cells)[((done.length : Nat) : Int).toNat]? = some d.cells := by simp [ha]
          have hhas : (V.has.map fun b => [dB b])[((done.length : Nat) : Int).toNat]? = some [dB (usableOf c l p k day d).2] := by rw [hVh]; simp [ha]
          have hvals : (V.value.map fun n => [dI n])[((done.length : Nat) : Int).toNat]? = some [dI (usableOf c l p k day d).1] := by rw [hVv]; simp [ha]
          have hu : usableOf c l p k day d = if (look p d.name day k l).2.2 = false ∨ (d.unit = tT ∧ (look p d.name day k l).1 ≠ 0 ∧ (look p d.name day k l).1 ≠ 1) then (0, false) else ((look p d.name day k l).1, true) := rfl
          have hlk := factsValue_spec G0 l p d.name day k
          simp only [valueOf, hst, if_true] at hlk
          have hz : (look p d.name day k l).2.2 = false → (look p d.name day k l).1 = 0 := by
            simp only [look]
            split
            · intro _; rfl
            · split
              · intro _; rfl
              · intro h; cases h
          generalize usableOf c l p k day d = us at hhas hvals hu
          generalize look p d.name day k l = r at hu hlk hz
          obtain ⟨val, ix, ok⟩ := r
          simp only at hu hz
          (refine sgo_sound [] 1000 ?_; conv => whnf)
          repeat' ((first | with_reducible refine bdec (fun h => ?_) (fun h => ?_) | with_reducible refine bndec (fun h => ?_) (fun h => ?_) | with_reducible refine bwtd (fun h => ?_) (fun h => ?_) | with_reducible refine bwfd (fun h => ?_) (fun h => ?_) | with_reducible refine bwtn (fun h => ?_) (fun h => ?_) | with_reducible refine bwfn (fun h => ?_) (fun h => ?_) | with_reducible refine bwtb (fun h => ?_) (fun h => ?_) | with_reducible refine bwfb (fun h => ?_) (fun h => ?_) | with_reducible refine bwt (fun h => ?_) (fun h => ?_) | with_reducible refine bwf (fun h => ?_) (fun h => ?_) | with_reducible refine bnt (fun h => ?_) (fun h => ?_) | with_reducible refine bcase (fun h => ?_) (fun h => ?_)) <;> (first | (exfalso; omega) | (conv => whnf)))
          refine swr_index rfl rfl rfl rfl rfl rfl rfl rfl  (row := d.cells) hrow ?_
          (refine sgor_sound [] 1000 ?_; conv => whnf)
          refine swr_pure rfl rfl rfl rfl rfl rfl  hlk ?_
          rw [show lookSV (val, ix, ok) = .tup [sI val, sI ix, sB ok] from rfl]
          cases ok with
          | false =>
            simp only [true_or, if_true] at hu
            subst hu
            have hz0 := hz rfl
            subst hz0
            by_cases hut : d.unit = tT
            · (refine sgor_sound [] 1000 ?_; conv => whnf)
              repeat' ((first | with_reducible refine bdec (fun h => ?_) (fun h => ?_) | with_reducible refine bndec (fun h => ?_) (fun h => ?_) | with_reducible refine bwtd (fun h => ?_) (fun h => ?_) | with_reducible refine bwfd (fun h => ?_) (fun h => ?_) | with_reducible refine bwtn (fun h => ?_) (fun h => ?_) | with_reducible refine bwfn (fun h => ?_) (fun h => ?_) | with_reducible refine bwtb (fun h => ?_) (fun h => ?_) | with_reducible refine bwfb (fun h => ?_) (fun h => ?_) | with_reducible refine bwt (fun h => ?_) (fun h => ?_) | with_reducible refine bwf (fun h => ?_) (fun h => ?_) | with_reducible refine bnt (fun h => ?_) (fun h => ?_) | with_reducible refine bcase (fun h => ?_) (fun h => ?_)) <;> (first | (exfalso; omega) | (conv => whnf)))
              all_goals (try exact absurd hut (by assumption))
              all_goals refine swr_index rfl rfl rfl rfl rfl rfl rfl rfl  (row := [dB false]) hhas ?_
              all_goals (refine sgor_sound [] 1000 ?_; conv => whnf)
              all_goals refine swr_index rfl rfl rfl rfl rfl rfl rfl rfl  (row := [dI 0]) hvals ?_
              all_goals (refine sgor_sound [] 1000 ?_; conv => whnf)
              all_goals (rw [hw]; exact sw_kc [2, 3, 4, 5, 6, 11, 12, 61, 62, 63] 3 (by simp [hH]) (by simp) rfl rfl (ih () trivial))
            · (refine sgor_sound [] 1000 ?_; conv => whnf)
              repeat' ((first | with_reducible refine bdec (fun h => ?_) (fun h => ?_) | with_reducible refine bndec (fun h => ?_) (fun h => ?_) | with_reducible refine bwtd (fun h => ?_) (fun h => ?_) | with_reducible refine bwfd (fun h => ?_) (fun h => ?_) | with_reducible refine bwtn (fun h => ?_) (fun h => ?_) | with_reducible refine bwfn (fun h => ?_) (fun h => ?_) | with_reducible refine bwtb (fun h => ?_) (fun h => ?_) | with_reducible refine bwfb (fun h => ?_) (fun h => ?_) | with_reducible refine bwt (fun h => ?_) (fun h => ?_) | with_reducible refine bwf (fun h => ?_) (fun h => ?_) | with_reducible refine bnt (fun h => ?_) (fun h => ?_) | with_reducible refine bcase (fun h => ?_) (fun h => ?_)) <;> (first | (exfalso; omega) | (conv => whnf)))
              all_goals (try exact absurd (by assumption) hut)
              all_goals refine swr_index rfl rfl rfl rfl rfl rfl rfl rfl  (row := [dB false]) hhas ?_
              all_goals (refine sgor_sound [] 1000 ?_; conv => whnf)
              all_goals refine swr_index rfl rfl rfl rfl rfl rfl rfl rfl  (row := [dI 0]) hvals ?_
              all_goals (refine sgor_sound [] 1000 ?_; conv => whnf)
              all_goals (rw [hw]; exact sw_kc [2, 3, 4, 5, 6, 11, 12, 61, 62, 63] 3 (by simp [hH]) (by simp) rfl rfl (ih () trivial))
          | true =>
            by_cases hcond : d.unit = tT ∧ val ≠ 0 ∧ val ≠ 1
            · rw [if_pos (.inr hcond)] at hu
              subst hu
              have hv01 : val < 0 ∨ 1 < val := by omega
              have hut := hcond.1
              (refine sgor_sound [] 1000 ?_; conv => whnf)
              repeat' ((first | with_reducible refine bdec (fun h => ?_) (fun h => ?_) | with_reducible refine bndec (fun h => ?_) (fun h => ?_) | with_reducible refine bwtd (fun h => ?_) (fun h => ?_) | with_reducible refine bwfd (fun h => ?_) (fun h => ?_) | with_reducible refine bwtn (fun h => ?_) (fun h => ?_) | with_reducible refine bwfn (fun h => ?_) (fun h => ?_) | with_reducible refine bwtb (fun h => ?_) (fun h => ?_) | with_reducible refine bwfb (fun h => ?_) (fun h => ?_) | with_reducible refine bwt (fun h => ?_) (fun h => ?_) | with_reducible refine bwf (fun h => ?_) (fun h => ?_) | with_reducible refine bnt (fun h => ?_) (fun h => ?_) | with_reducible refine bcase (fun h => ?_) (fun h => ?_)) <;> (first | (exfalso; omega) | (conv => whnf)))
              all_goals (try exact absurd hut (by assumption))
              all_goals refine swr_index rfl rfl rfl rfl rfl rfl rfl rfl  (row := [dB false]) hhas ?_
              all_goals (refine sgor_sound [] 1000 ?_; conv => whnf)
              all_goals refine swr_index rfl rfl rfl rfl rfl rfl rfl rfl  (row := [dI 0]) hvals ?_
              all_goals (refine sgor_sound [] 1000 ?_; conv => whnf)
              all_goals (rw [hw]; exact sw_kc [2, 3, 4, 5, 6, 11, 12, 61, 62, 63] 3 (by simp [hH]) (by simp) rfl rfl (ih () trivial))
            · rw [if_neg (by simp only [Bool.true_eq_false, false_or]; exact hcond)] at hu
              subst hu
              by_cases hut : d.unit = tT
              · have hv01 : 0 ≤ val ∧ val ≤ 1 := by
                  by_cases h0 : val = 0
                  · omega
                  · by_cases h1 : val = 1
                    · omega
                    · exact absurd ⟨hut, h0, h1⟩ hcond
                (refine sgor_sound [] 1000 ?_; conv => whnf)
                repeat' ((first | with_reducible refine bdec (fun h => ?_) (fun h => ?_) | with_reducible refine bndec (fun h => ?_) (fun h => ?_) | with_reducible refine bwtd (fun h => ?_) (fun h => ?_) | with_reducible refine bwfd (fun h => ?_) (fun h => ?_) | with_reducible refine bwtn (fun h => ?_) (fun h => ?_) | with_reducible refine bwfn (fun h => ?_) (fun h => ?_) | with_reducible refine bwtb (fun h => ?_) (fun h => ?_) | with_reducible refine bwfb (fun h => ?_) (fun h => ?_) | with_reducible refine bwt (fun h => ?_) (fun h => ?_) | with_reducible refine bwf (fun h => ?_) (fun h => ?_) | with_reducible refine bnt (fun h => ?_) (fun h => ?_) | with_reducible refine bcase (fun h => ?_) (fun h => ?_)) <;> (first | (exfalso; omega) | (conv => whnf)))
                all_goals (try exact absurd hut (by assumption))
                all_goals refine swr_index rfl rfl rfl rfl rfl rfl rfl rfl  (row := [dB true]) hhas ?_
                all_goals (refine sgor_sound [] 1000 ?_; conv => whnf)
                all_goals refine swr_index rfl rfl rfl rfl rfl rfl rfl rfl  (row := [dI val]) hvals ?_
                all_goals (refine sgor_sound [] 1000 ?_; conv => whnf)
                all_goals repeat' ((first | with_reducible refine bdec (fun h => ?_) (fun h => ?_) | with_reducible refine bndec (fun h => ?_) (fun h => ?_) | with_reducible refine bwtd (fun h => ?_) (fun h => ?_) | with_reducible refine bwfd (fun h => ?_) (fun h => ?_) | with_reducible refine bwtn (fun h => ?_) (fun h => ?_) | with_reducible refine bwfn (fun h => ?_) (fun h => ?_) | with_reducible refine bwtb (fun h => ?_) (fun h => ?_) | with_reducible refine bwfb (fun h => ?_) (fun h => ?_) | with_reducible refine bwt (fun h => ?_) (fun h => ?_) | with_reducible refine bwf (fun h => ?_) (fun h => ?_) | with_reducible refine bnt (fun h => ?_) (fun h => ?_) | with_reducible refine bcase (fun h => ?_) (fun h => ?_)) <;> (first | (exfalso; omega) | (conv => whnf)))
                all_goals (rw [hw]; exact sw_kc [2, 3, 4, 5, 6, 11, 12, 61, 62, 63] 3 (by simp [hH]) (by simp) rfl rfl (ih () trivial))
              · (refine sgor_sound [] 1000 ?_; conv => whnf)
                repeat' ((first | with_reducible refine bdec (fun h => ?_) (fun h => ?_) | with_reducible refine bndec (fun h => ?_) (fun h => ?_) | with_reducible refine bwtd (fun h => ?_) (fun h => ?_) | with_reducible refine bwfd (fun h => ?_) (fun h => ?_) | with_reducible refine bwtn (fun h => ?_) (fun h => ?_) | with_reducible refine bwfn (fun h => ?_) (fun h => ?_) | with_reducible refine bwtb (fun h => ?_) (fun h => ?_) | with_reducible refine bwfb (fun h => ?_) (fun h => ?_) | with_reducible refine bwt (fun h => ?_) (fun h => ?_) | with_reducible refine bwf (fun h => ?_) (fun h => ?_) | with_reducible refine bnt (fun h => ?_) (fun h => ?_) | with_reducible refine bcase (fun h => ?_) (fun h => ?_)) <;> (first | (exfalso; omega) | (conv => whnf)))
                all_goals (try exact absurd (by assumption) hut)
                all_goals refine swr_index rfl rfl rfl rfl rfl rfl rfl rfl  (row := [dB true]) hhas ?_
                all_goals (refine sgor_sound [] 1000 ?_; conv => whnf)
                all_goals refine swr_index rfl rfl rfl rfl rfl rfl rfl rfl  (row := [dI val]) hvals ?_
                all_goals (refine sgor_sound [] 1000 ?_; conv => whnf)
                all_goals repeat' ((first | with_reducible refine bdec (fun h => ?_) (fun h => ?_) | with_reducible refine bndec (fun h => ?_) (fun h => ?_) | with_reducible refine bwtd (fun h => ?_) (fun h => ?_) | with_reducible refine bwfd (fun h => ?_) (fun h => ?_) | with_reducible refine bwtn (fun h => ?_) (fun h => ?_) | with_reducible refine bwfn (fun h => ?_) (fun h => ?_) | with_reducible refine bwtb (fun h => ?_) (fun h => ?_) | with_reducible refine bwfb (fun h => ?_) (fun h => ?_) | with_reducible refine bwt (fun h => ?_) (fun h => ?_) | with_reducible refine bwf (fun h => ?_) (fun h => ?_) | with_reducible refine bnt (fun h => ?_) (fun h => ?_) | with_reducible refine bcase (fun h => ?_) (fun h => ?_)) <;> (first | (exfalso; omega) | (conv => whnf)))
                all_goals (rw [hw]; exact sw_kc [2, 3, 4, 5, 6, 11, 12, 61, 62, 63] 3 (by simp [hH]) (by simp) rfl rfl (ih () trivial))
  · generalize viewAt c l p day k = r at he ⊢
    obtain ⟨v, e⟩ := r
    simp only at he
    subst he
    (refine sgor_sound [] 1000 ?_; conv => whnf)
    refine swr_pure rfl rfl rfl rfl rfl rfl  (lawValid_spec G0 c l (storeFit hl)) ?_
    cases hval : validOK c l with
    | false =>
      (refine sgor_sound [] 1000 ?_; conv => whnf)
      exact hK _
    | true =>
      (refine sgor_sound [] 1000 ?_; conv => whnf)
      exact hK _
end Go.Proofs.YthmkdghoaifkbaaGreatDoor
