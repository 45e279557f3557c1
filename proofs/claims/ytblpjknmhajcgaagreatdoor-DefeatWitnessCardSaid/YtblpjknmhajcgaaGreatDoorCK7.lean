/- Contracts of functions of the program, joined from TVa, THp, TDd, TEj, TQe, TDe: no condition. -/
import Derived.Test.YtblpjknmhajcgaaGreatDoorCK6
set_option linter.unusedSimpArgs false
set_option linter.unusedVariables false
set_option maxRecDepth 10000
set_option maxHeartbeats 8000000
namespace Go.Proofs.YtblpjknmhajcgaaGreatDoor
open Go Go.Sh
variable (G : List (Nat × D))
theorem zzx (l : List Decl) (s : ByteArray) (hsz : l.length <= 9223372036854775807) : zx Tryz.prog G 82 [.imm (zk l), sS s] (sI (zoc s l 0)) := by
 refine zc Tryz.func82 rfl (by rw [Tryz.ntmps82]; simp) rfl rfl ?_; intro E hH hK
 have hlen : (l.map Decl.cells).length = l.length := by simp
 (refine zi ?_; conv => whnf)
 refine zf [0, 1, 5] ?_
 refine zp l (fun i (_ : Unit) => [(0, .imm (zk l)), (1, sS s), (5, sI i)]) (fun _ _ => []) (fun done rest _ => zoc s l 0 = zoc s rest done.length) () rfl ?_ ?_
 ·rintro _ h1
  (refine zi ?_; conv => whnf)
  repeat' ((with_reducible refine way ?_ ?_) <;> (intro h; conv => whnf))
  all_goals try (exfalso; omega)
  exact kI hK (by rw [h1]; rfl)
 ·rintro done d rest _ ha hl h1 ih
  have hw := zm (n := done.length) (by omega)
  simp only [zoc] at h1
  (refine zi ?_; conv => whnf)
  repeat' ((with_reducible refine way ?_ ?_) <;> (intro h; conv => whnf))
  all_goals try (exfalso; omega)
  refine zh rfl rfl  (row := d.cells) (by simp [ha]) ?_
  (refine zl ?_; conv => whnf)
  repeat' ((with_reducible refine way ?_ ?_) <;> (intro h; conv => whnf))
  ·exact kI hK (by rw [h1, if_pos h])
  ·rw [hw]; exact zf [0, 1, 5] (ih () (by rw [h1, if_neg h]; simp))
theorem zkh (l : List Decl) (lo hi : Int) (hsz : l.length <= 9223372036854775807) : zx Tryz.prog G 51 [.imm (zk l), sI lo, sI hi] (sB (qv lo hi l && decide (l.length <= 32))) := by
 refine zc Tryz.func51 rfl (by rw [Tryz.ntmps51]; simp) rfl rfl ?_; intro E hH hK
 have hlen : (l.map Decl.cells).length = l.length := by simp
 (refine zi ?_; conv => whnf)
 refine zf [0, 1, 2, 7] ?_
 refine zp l (fun i (_ : Unit) => [(0, .imm (zk l)), (1, sI lo), (2, sI hi), (7, sI i)]) (fun _ _ => [])
  (fun done _ _ => done.all (js lo hi) = true /\ (done.map (·.name)).Nodup) () ⟨rfl, List.nodup_nil⟩ ?_ ?_
 ·rintro _ ⟨h1, h2⟩
  (refine zi ?_; conv => whnf)
  repeat' ((with_reducible refine way ?_ ?_) <;> (intro h; conv => whnf))
  all_goals try (exfalso; omega)
  exact kB hK (by simp only [qv, h1, h2]; simp; omega)
 ·rintro done d rest _ ha hl ⟨h1, h2⟩ ih
  have hw := zm (n := done.length) (by omega)
  have bad : js lo hi d = false \/ d.name ∈ done.map (·.name) -> (qv lo hi l && decide (l.length <= 32)) = false := fun h => by rw [ha, zqw h]; rfl
  have next : js lo hi d = true -> d.name ∉ done.map (·.name) -> _ := fun g1 g2 => ih () ⟨by simp [h1, g1], by
   rw [List.map_append, List.nodup_append]; exact ⟨h2, by simp, fun a ha b hb e => g2 (by simp at hb; rw [<- hb, <- e]; exact ha)⟩⟩
  have hix := zxw d.name done d rest 0 rfl
  rw [<- ha] at hix
  have hg : (l.map Decl.cells)[((done.length : Nat) : Int).toNat]? = some d.cells := by simp [ha]
  (refine zi ?_; conv => whnf)
  repeat' ((with_reducible refine way ?_ ?_) <;> (intro h; conv => whnf))
  all_goals try (exfalso; omega)
  refine zh rfl rfl  (row := d.cells) (by simp [ha]) ?_
  (refine zl ?_; conv => whnf)
  refine ze rfl  (zxu G d.name) ?_
  (refine zl ?_; conv => whnf)
  repeat' ((with_reducible refine way ?_ ?_) <;> (intro h; conv => whnf))
  any_goals exact kB hK (bad (.inl (by simp [js, *])))
  refine zh rfl rfl  (row := d.cells) (by simp [ha]) ?_
  (refine zl ?_; conv => whnf)
  refine ze rfl  (zxs G d.unit) ?_
  (refine zl ?_; conv => whnf)
  repeat' ((with_reducible refine way ?_ ?_) <;> (intro h; conv => whnf))
  any_goals exact kB hK (bad (.inl (by simp [js, *])))
  refine zh rfl rfl  (row := d.cells) (by simp [ha]) ?_
  (refine zl ?_; conv => whnf)
  repeat' ((with_reducible refine way ?_ ?_) <;> (intro h; conv => whnf))
  any_goals exact kB hK (bad (.inl (by simp [js, *]; try omega)))
  refine zh rfl rfl  (row := d.cells) (by simp [ha]) ?_
  (refine zl ?_; conv => whnf)
  repeat' ((with_reducible refine way ?_ ?_) <;> (intro h; conv => whnf))
  any_goals exact kB hK (bad (.inl (by simp [js, *]; try omega)))
  refine zh rfl rfl  (row := d.cells) (by simp [ha]) ?_
  (refine zl ?_; conv => whnf)
  refine ze rfl  (zzx G l d.name hsz) ?_
  (refine zl ?_; conv => whnf)
  repeat' ((with_reducible refine way ?_ ?_) <;> (intro h; conv => whnf))
  ·exact kB hK (bad (.inr (by
    rcases Classical.em (d.name ∈ done.map (·.name)) with h' | h'
    ·exact h'
    ·exact absurd (hix.2 h') (by simpa using h))))
  ·rw [hw]
   exact zf [0, 1, 2, 7] (next (by simp [js, *]; omega) (hix.1 (by simpa using h)))
theorem zsr (c : Codex) (hsf : c.facts.length <= 9223372036854775807) (hsl : c.lines.length <= 9223372036854775807) (hsa : c.arts.length <= 9223372036854775807) (hart : Codex.fit c) : zx Tryz.prog G 21 [c.sv] (sB (ziq c)) := by
 refine zc Tryz.func21 rfl (by rw [Tryz.ntmps21]; simp) rfl rfl ?_; intro E hH hK
 have hll : (c.lines.map Decl.cells).length = c.lines.length := by simp
 have hla : (c.arts.map Article.cells).length = c.arts.length := by simp
 (refine zi ?_; conv => whnf)
 refine ze rfl  (zkh G c.facts 0 0 (by omega)) ?_
 cases hd1 : (qv 0 0 c.facts && decide (c.facts.length <= 32)) with
 | false =>
  (refine zl ?_; conv => whnf)
  exact kB hK (by simp only [ziq, hd1, Bool.false_and])
 | true =>
 (refine zl ?_; conv => whnf)
 refine ze rfl  (zkh G c.lines 1 4 (by omega)) ?_
 cases hd2 : (qv 1 4 c.lines && decide (c.lines.length <= 32)) with
 | false =>
  (refine zl ?_; conv => whnf)
  exact kB hK (by simp only [ziq, hd1, hd2, Bool.and_false, Bool.false_and])
 | true =>
 (refine zl ?_; conv => whnf)
 repeat' ((with_reducible refine way ?_ ?_) <;> (intro h; first | (exfalso; omega) | (conv => whnf)))
 ·exact kB hK (by simp only [ziq, hd1, hd2]; rw [decide_eq_false (by omega)]; rfl)
 have hok : ziq c = c.arts.all (jh c) := by simp only [ziq, hd1, hd2]; rw [decide_eq_true (by omega)]; rfl
 refine zf [1, 3] ?_
 refine zp c.arts (fun i (_ : Unit) => [(1, .ptr 0 0), (3, sI i)]) (fun _ _ => [.cells [.imm (zk c.facts), .imm (zk c.lines), .imm (ym c.arts)]])
  (fun done rest _ => c.arts.all (jh c) = rest.all (jh c)) () rfl ?_ ?_
 ·as_aux_lemma =>
   rintro _ h1
   (refine zi ?_; conv => whnf)
   repeat' ((with_reducible refine way ?_ ?_) <;> (intro h; first | (exfalso; omega) | (conv => whnf)))
   all_goals try (exfalso; omega)
   exact kB hK (by rw [hok, h1]; rfl)
 ·as_aux_lemma =>
   rintro done a rest _ ha hl hinv ih
   have hw := zm (n := done.length) (by omega)
   simp only [List.all_cons] at hinv
   obtain ⟨hun, hwn⟩ := hart a (by rw [ha]; simp)
   obtain ⟨op, n, u, den, ps, ks, ham⟩ : ∃ op n u den ps ks, a.amount = .mk op n u den ps ks := by cases h : a.amount; exact ⟨_, _, _, _, _, _, rfl⟩
   have hrow : (c.arts.map Article.cells)[((done.length : Nat) : Int).toNat]? = some [dI a.number, dI a.line, dI a.rank, dI a.lo, dI a.hi, dI a.known, yq a.when_, zj a.unless_, dI op, dI n, dS u, dI den, .isl 3 (ps.map Piece.cells), .isl 6 (zd ks)] := by
    simp [ha, Article.cells, ham, zr, Ex.op, Ex.n, Ex.unit, Ex.den, Ex.pieces, Ex.kids]
   have hwl : (a.when_.map Ex.cells).length = a.when_.length := by simp
   have hul : (a.unless_.map fun n => [dI n]).length = a.unless_.length := by simp
   have bad : jh c a = false -> ziq c = false := fun h => by rw [hok, hinv, h]; rfl
   have bad1 : ¬ (1 <= a.number /\ a.number <= 1000000 /\ 0 <= a.line /\ a.line < c.lines.length /\ a.line = zdd c a.number) -> ziq c = false := fun h => bad (by simp only [jh]; rw [decide_eq_false h]; rfl)
   have bad2 : zbx a = false -> ziq c = false := fun h => bad (by simp only [jh, h, Bool.and_false, Bool.false_and])
   obtain ⟨b, hb1, hb2⟩ : ∃ b, c.arts[(jj a.number c.arts 0).toNat]? = some b /\ 0 <= jj a.number c.arts 0 := by
    rcases zlf a.number c.arts 0 with h | ⟨g1, g2, x, g3, g4⟩
    ·exact absurd rfl ((znx a.number c.arts 0).1 h a (by rw [ha]; simp))
    ·exact ⟨x, by simpa using g3, by simpa using g1⟩
   have hfl : zdd c a.number = b.line := by simp only [zdd, hb1]
   have hnum := zha G c a.number (by omega)
   generalize hix : jj a.number c.arts 0 = ix at hb1 hb2 hnum
   (refine zi ?_; conv => whnf)
   repeat' ((with_reducible refine way ?_ ?_) <;> (intro h; first | (exfalso; omega) | (conv => whnf)))
   all_goals try (exfalso; omega)
   refine zh rfl rfl  (row := [dI a.number, dI a.line, dI a.rank, dI a.lo, dI a.hi, dI a.known, yq a.when_, zj a.unless_, dI op, dI n, dS u, dI den, .isl 3 (ps.map Piece.cells), .isl 6 (zd ks)]) hrow ?_
   (refine zl ?_; conv => whnf)
   by_cases hg1 : 1 <= a.number /\ a.number <= 1000000 /\ 0 <= a.line /\ a.line < c.lines.length
   ·(refine xa mixed rfl ?_; refine zn [] ?_; conv => whnf)
    repeat' ((with_reducible refine way ?_ ?_) <;> (intro h; first | (exfalso; omega) | (conv => whnf)))
    all_goals try (exfalso; omega)
    refine zae rfl  hnum ?_
    (refine zn [] ?_; conv => whnf)
    refine xw rfl (i := ix.toNat) (by omega) (row := b.cells) (by simp [hb1]) ?_
    by_cases hline : a.line = b.line
    rotate_left
    ·(refine zn [] ?_; conv => whnf)
     repeat' ((with_reducible refine way ?_ ?_) <;> (intro h; first | (exfalso; omega) | (conv => whnf)))
     all_goals (refine zi ?_; conv => whnf)
     all_goals exact kB hK (bad1 (fun hc => hline (by rw [<- hfl]; exact hc.2.2.2.2)))
    (refine zn [] ?_; conv => whnf)
    repeat' ((with_reducible refine way ?_ ?_) <;> (intro h; first | (exfalso; omega) | (conv => whnf)))
    all_goals (refine zi ?_; conv => whnf)
    all_goals repeat' ((with_reducible refine way ?_ ?_) <;> (intro h; first | (exfalso; omega) | (conv => whnf)))
    all_goals try exact kB hK (bad2 (by simp [zbx]; intros; omega))
    have hhead : zbx a = true := by simp [zbx]; omega
    have hone : decide (1 <= a.number /\ a.number <= 1000000 /\ 0 <= a.line /\ a.line < c.lines.length /\ a.line = zdd c a.number) = true := decide_eq_true ⟨hg1.1, hg1.2.1, hg1.2.2.1, hg1.2.2.2, by rw [hfl]; exact hline⟩
    have hart2 : jh c a = (a.when_.all (fun e => wn c e && decide (e.unit = tT)) && a.unless_.all (fun n => decide (0 <= jj n c.arts 0)) && (wn c a.amount && decide (a.amount.unit = zdn c a.line))) := by
     simp only [jh, hone, hhead, Bool.true_and]
    clear hnum bad1 bad2 hone hhead
    refine zf [1, 3, 4, 5] ?_
    refine zp a.when_ (fun i (_ : Unit) => [(1, .ptr 0 0), (3, sI done.length), (4, .ptr 1 0), (5, sI i)])
     (fun _ _ => [.cells [.imm (zk c.facts), .imm (zk c.lines), .imm (ym c.arts)], .cells (zkq a op n u den ps ks)])
     (fun done rest _ => a.when_.all (fun e => wn c e && decide (e.unit = tT)) = rest.all (fun e => wn c e && decide (e.unit = tT))) () rfl ?_ ?_
    ·as_aux_lemma =>
      rintro _ hwh
      have hwt : a.when_.all (fun e => wn c e && decide (e.unit = tT)) = true := by rw [hwh]; rfl
      rw [hwt, Bool.true_and] at hart2
      (refine zi ?_; conv => whnf)
      repeat' ((with_reducible refine way ?_ ?_) <;> (intro h; first | (exfalso; omega) | (conv => whnf)))
      all_goals try (exfalso; omega)
      refine zf [1, 3, 4, 6] ?_
      refine zp a.unless_ (fun i (_ : Unit) => [(1, .ptr 0 0), (3, sI done.length), (4, .ptr 1 0), (6, sI i)])
       (fun _ _ => [.cells [.imm (zk c.facts), .imm (zk c.lines), .imm (ym c.arts)], .cells (zkq a op n u den ps ks)])
       (fun done rest _ => a.unless_.all (fun n => decide (0 <= jj n c.arts 0)) = rest.all (fun n => decide (0 <= jj n c.arts 0))) () rfl ?_ ?_
      ·as_aux_lemma =>
        rintro _ huh
        have hut : a.unless_.all (fun n => decide (0 <= jj n c.arts 0)) = true := by rw [huh]; rfl
        rw [hut, Bool.true_and, ham] at hart2
        obtain ⟨d, hd⟩ : ∃ d, c.lines[a.line.toNat]? = some d := ⟨c.lines[a.line.toNat]'(by omega), List.getElem?_eq_getElem _⟩
        have hlu : zdn c a.line = d.unit := by simp only [zdn, hd]
        rw [hlu] at hart2
        replace hart2 : jh c a = (wn c (.mk op n u den ps ks) && decide (u = d.unit)) := hart2
        have hfit := zkg G c (by omega) (.mk op n u den ps ks)
        (refine zi ?_; conv => whnf)
        repeat' ((with_reducible refine way ?_ ?_) <;> (intro h; first | (exfalso; omega) | (conv => whnf)))
        all_goals try (exfalso; omega)
        (refine xa mixed rfl ?_; refine zn [] ?_; conv => whnf)
        refine zae rfl  hfit ?_
        cases hf : wn c (.mk op n u den ps ks) with
        | false =>
         (refine zn [] ?_; conv => whnf)
         (refine zi ?_; conv => whnf)
         exact kB hK (bad (by rw [hart2, hf]; rfl))
        | true =>
         (refine zn [] ?_; conv => whnf)
         refine xw rfl (i := a.line.toNat) (by omega) (row := d.cells) (by simp [hd]) ?_
         (refine zn [] ?_; conv => whnf)
         (refine zi ?_; conv => whnf)
         repeat' ((with_reducible refine way ?_ ?_) <;> (intro h; first | (exfalso; omega) | (conv => whnf)))
         ·exact kB hK (bad (by rw [hart2, hf, decide_eq_false h]; rfl))
         ·rw [hw]
          exact ys [1, 3] 1 (by simp [hH]) (by simp) rfl rfl (ih () (by rw [hinv, hart2, hf, decide_eq_true h]; rfl))
      ·as_aux_lemma =>
        rintro d3 x r3 _ ha3 hl3 h3 ih3
        have hw3 := zm (n := d3.length) (by omega)
        simp only [List.all_cons] at h3
        (refine zi ?_; conv => whnf)
        repeat' ((with_reducible refine way ?_ ?_) <;> (intro h; first | (exfalso; omega) | (conv => whnf)))
        all_goals try (exfalso; omega)
        (refine xa mixed rfl ?_; refine zn [] ?_; conv => whnf)
        refine xw rfl rfl  (row := [dI x]) (by simp [ha3]) ?_
        (refine zn [] ?_; conv => whnf)
        refine zae rfl  (zha G c x (by omega)) ?_
        (refine zn [] ?_; conv => whnf)
        (refine zi ?_; conv => whnf)
        repeat' ((with_reducible refine way ?_ ?_) <;> (intro h; first | (exfalso; omega) | (conv => whnf)))
        ·exact kB hK (bad (by rw [hart2, h3, decide_eq_false (by omega)]; rfl))
        ·rw [hw3]
         exact ys [1, 3, 4, 6] 2 (by simp [hH]) (by simp) rfl rfl (ih3 () (by rw [h3, decide_eq_true (by omega)]; rfl))
    ·as_aux_lemma =>
      rintro d2 e r2 _ ha2 hl2 h2 ih2
      have hw2 := zm (n := d2.length) (by omega)
      simp only [List.all_cons] at h2
      have hfit := zkg G c (by omega) e
      obtain ⟨o1, n1, u1, d1, p1, q1⟩ := e
      replace h2 : a.when_.all (fun e => wn c e && decide (e.unit = tT)) = ((wn c (.mk o1 n1 u1 d1 p1 q1) && decide (u1 = tT)) && r2.all (fun e => wn c e && decide (e.unit = tT))) := h2
      (refine zi ?_; conv => whnf)
      repeat' ((with_reducible refine way ?_ ?_) <;> (intro h; first | (exfalso; omega) | (conv => whnf)))
      all_goals try (exfalso; omega)
      (refine xa mixed rfl ?_; refine zn [] ?_; conv => whnf)
      refine xw rfl rfl  (row := (Ex.mk o1 n1 u1 d1 p1 q1).cells) (by simp [ha2]) ?_
      (refine zn [] ?_; conv => whnf)
      refine zae rfl  hfit ?_
      cases hf : wn c (.mk o1 n1 u1 d1 p1 q1) with
      | false =>
       (refine zn [] ?_; conv => whnf)
       (refine zi ?_; conv => whnf)
       exact kB hK (bad (by rw [hart2, h2, hf]; rfl))
      | true =>
       (refine zn [] ?_; conv => whnf)
       refine xw rfl rfl  (row := (Ex.mk o1 n1 u1 d1 p1 q1).cells) (by simp [ha2]) ?_
       (refine zn [] ?_; conv => whnf)
       (refine zi ?_; conv => whnf)
       repeat' ((with_reducible refine way ?_ ?_) <;> (intro h; first | (exfalso; omega) | (conv => whnf)))
       ·exact kB hK (bad (by rw [hart2, h2, hf, decide_eq_false (by exact h)]; rfl))
       ·rw [hw2]
        exact ys [1, 3, 4, 5] 2 (by simp [hH]) (by simp) rfl rfl (ih2 () (by rw [h2, hf, decide_eq_true (by exact h)]; rfl))
   ·(refine xa mixed rfl ?_; refine zn [] ?_; conv => whnf)
    repeat' ((with_reducible refine way ?_ ?_) <;> (intro h; first | (exfalso; omega) | (conv => whnf)))
    all_goals try (exfalso; omega)
    all_goals try (refine zi ?_; conv => whnf)
    all_goals exact kB hK (bad1 (fun hc => hg1 ⟨hc.1, hc.2.1, hc.2.2.1, hc.2.2.2.1⟩))
def fl (n : Int) : List Article -> Option Int
 | [] => none
 | a :: r => if a.number = n then some a.line else fl n r
theorem zpn (n : Int) : ∀ (l : List Article) (i : Nat), (jj n l i = -1 /\ fl n l = none) \/ ((i : Int) <= jj n l i /\ ∃ a, l[(jj n l i).toNat - i]? = some a /\ a.number = n /\ fl n l = some a.line)
 | [], i => .inl ⟨rfl, rfl⟩
 | a :: r, i => by
  simp only [jj, fl]
  split
  ·rename_i h
   right
   exact ⟨by omega, a, by simp, h, rfl⟩
  ·rcases zpn n r (i + 1) with ⟨h1, h2⟩ | ⟨h1, x, h2, h3, h4⟩
   ·left; exact ⟨h1, h2⟩
   ·right
    refine ⟨by omega, x, ?_, h3, h4⟩
    rw [show (jj n r (i + 1)).toNat - i = ((jj n r (i + 1)).toNat - (i + 1)) + 1 by omega]
    simpa using h2
abbrev yvt (nl : Int) (a : Article) : Prop := 1 <= a.number /\ a.number <= 1000000 /\ 0 <= a.line /\ a.line < nl
theorem zui (nl : Int) : ∀ (l : List Article) (m0 m : List (Int × Int)), wt nl l m0 = some m -> (∀ n, zt n m = (zt n m0).or (fl n l)) /\ ∀ a ∈ l, yvt nl a /\ zt a.number m = some a.line
 | [], m0, m, h => by
  simp only [wt, Option.some.injEq] at h
  subst h
  exact ⟨fun n => by simp [fl], fun a ha => by cases ha⟩
 | a :: r, m0, m, h => by
  simp only [wt] at h
  split at h
  ·rename_i hc
   have hm : wt nl r (ains a.number a.line m0) = some m /\ (zt a.number m0 = none \/ zt a.number m0 = some a.line) := by
    cases hl : zt a.number m0 with
    | none => rw [hl] at h; exact ⟨h, .inl rfl⟩
    | some x =>
     rw [hl] at h
     simp only at h
     split at h
     ·rename_i e; subst e; exact ⟨h, .inr rfl⟩
     ·cases h
   obtain ⟨g1, g2⟩ := zui nl r _ m hm.1
   have key : ∀ n, zt n m = (zt n m0).or (fl n (a :: r)) := by
    intro n
    rw [g1 n, jk]
    by_cases e : n = a.number
    ·subst e
     simp only [beq_self_eq_true, if_true, Option.some_or, fl]
     rcases hm.2 with h0 | h0 <;> rw [h0] <;> rfl
    ·rw [if_neg (by simpa using e)]
     simp only [fl]
     rw [if_neg (fun h => e h.symm)]
   refine ⟨key, fun b hb => ?_⟩
   rcases List.mem_cons.1 hb with rfl | hb
   ·refine ⟨hc, ?_⟩
    rw [key]
    simp only [fl, if_true]
    rcases hm.2 with h0 | h0 <;> rw [h0] <;> rfl
   ·exact g2 b hb
  ·cases h
theorem zot (nl : Int) : ∀ (l : List Article) (m0 : List (Int × Int)), (∀ a ∈ l, yvt nl a /\ (zt a.number m0).or (fl a.number l) = some a.line) -> ∃ m, wt nl l m0 = some m
 | [], m0, _ => ⟨m0, rfl⟩
 | a :: r, m0, h => by
  obtain ⟨hb, ha⟩ := h a (by simp)
  simp only [fl, if_true] at ha
  have h0 : zt a.number m0 = none \/ zt a.number m0 = some a.line := by
   cases hl : zt a.number m0 with
   | none => exact .inl rfl
   | some x => rw [hl] at ha; right; simpa using ha
  have hr : ∀ b ∈ r, yvt nl b /\ (zt b.number (ains a.number a.line m0)).or (fl b.number r) = some b.line := by
   intro b hbr
   obtain ⟨g1, g2⟩ := h b (by simp [hbr])
   refine ⟨g1, ?_⟩
   rw [jk]
   simp only [fl] at g2
   by_cases e : b.number = a.number
   ·rw [e] at g2 ⊢
    simp only [beq_self_eq_true, if_true, Option.some_or]
    rw [if_pos rfl] at g2
    rcases h0 with h0 | h0 <;> rw [h0] at g2 <;> simpa using g2
   ·rw [if_neg (by simpa using e)]
    rw [if_neg (fun h => e h.symm)] at g2
    exact g2
  obtain ⟨m, hm⟩ := zot nl r _ hr
  refine ⟨m, ?_⟩
  simp only [wt]
  rw [if_pos hb]
  rcases h0 with h0 | h0 <;> rw [h0]
  ·exact hm
  ·simp only [if_true]; exact hm
mutual
def zss (P : Int -> Int -> ByteArray -> Int -> List Piece -> List Ex -> Bool) : Ex -> Bool
 | .mk op n u den ps ks => zhh P ks && P op n u den ps ks
def zhh (P : Int -> Int -> ByteArray -> Int -> List Piece -> List Ex -> Bool) : List Ex -> Bool
 | [] => true
 | k :: r => zss P k && zhh P r
end
def zlg (c : Codex) (m : List (Int × Int)) (op n : Int) (u : ByteArray) (den : Int) (ps : List Piece) (ks : List Ex) : Bool := wu u && qm c m op n u den ps ks
theorem yik (c : Codex) (m : List (Int × Int)) (N : Nat) :
  (∀ e : Ex, SizeOf.sizeOf e < N -> ∀ d cnt : Int, ((qz c m e d cnt).1 = true ↔ (cnt + xg e <= 400 /\ d + zby e <= 41 /\ zss (zlg c m) e = true)) /\ ((qz c m e d cnt).1 = true -> (qz c m e d cnt).2 = cnt + xg e)) /\
  (∀ ks : List Ex, SizeOf.sizeOf ks < N -> ∀ d cnt : Int, cnt <= 400 -> d <= 41 -> ((qe c m ks d cnt).1 = true ↔ (cnt + ye ks <= 400 /\ d + zbf ks <= 41 /\ zhh (zlg c m) ks = true)) /\ ((qe c m ks d cnt).1 = true -> (qe c m ks d cnt).2 = cnt + ye ks)) := by
 induction N with
 | zero => exact ⟨fun e h => by omega, fun e h => by omega⟩
 | succ N ih =>
  refine ⟨fun e he d cnt => ?_, fun ks hk d cnt hc hd => ?_⟩
  ·obtain ⟨op, n, u, den, ps, ks⟩ := e
   simp only [Ex.mk.sizeOf_spec] at he
   simp only [qz, xg, zby, zss]
   split
   ·rename_i hc
    constructor
    ·constructor
     ·intro h; cases h
     ·rintro ⟨h1, h2, h3⟩
      rcases hc with h | h | h
      ·omega
      ·omega
      ·simp [zlg, h] at h3
    ·intro h; cases h
   ·rename_i hc
    have hu : wu u = true := by
     cases h : wu u with
     | true => rfl
     | false => exact absurd (.inr (.inr h)) hc
    obtain ⟨g1, g2⟩ := ih.2 ks (by omega) (d + 1) (cnt + 1) (by omega) (by omega)
    revert g1 g2
    cases qe c m ks (d + 1) (cnt + 1) with
    | mk b q =>
     cases b with
     | true =>
      intro g1 g2
      simp only at g1 g2 ⊢
      obtain ⟨k1, k2, k3⟩ := g1.1 trivial
      have k4 := g2 trivial
      constructor
      ·constructor
       ·intro h
        exact ⟨by omega, by omega, by simp [k3, zlg, hu, h]⟩
       ·rintro ⟨_, _, h3⟩
        simp [zlg, hu] at h3
        exact h3.2
      ·intro _; omega
     | false =>
      intro g1 _
      simp only at g1 ⊢
      constructor
      ·constructor
       ·intro h; cases h
       ·rintro ⟨h1, h2, h3⟩
        simp only [Bool.and_eq_true] at h3
        exact absurd (g1.2 ⟨by omega, by omega, h3.1⟩) (by simp)
      ·intro h; cases h
  ·cases ks with
   | nil =>
    simp only [qe, ye, zbf, zhh]
    exact ⟨⟨fun _ => ⟨by omega, by omega, trivial⟩, fun _ => trivial⟩, fun _ => by omega⟩
   | cons k r =>
    simp only [List.cons.sizeOf_spec] at hk
    obtain ⟨g1, g2⟩ := ih.1 k (by omega) d cnt
    simp only [qe, ye, zbf, zhh]
    revert g1 g2
    cases qz c m k d cnt with
    | mk b q =>
     cases b with
     | true =>
      intro g1 g2
      simp only at g1 g2 ⊢
      obtain ⟨k1, k2, k3⟩ := g1.1 trivial
      have k4 := g2 trivial
      subst k4
      obtain ⟨r1, r2⟩ := ih.2 r (by omega) d (cnt + xg k) (by omega) hd
      constructor
      ·rw [r1, k3]
       simp only [Bool.true_and]
       constructor
       ·rintro ⟨a1, a2, a3⟩; exact ⟨by omega, by omega, a3⟩
       ·rintro ⟨a1, a2, a3⟩; exact ⟨by omega, by omega, a3⟩
      ·intro h; have := r2 h; omega
     | false =>
      intro g1 _
      simp only at g1 ⊢
      constructor
      ·constructor
       ·intro h; cases h
       ·rintro ⟨h1, h2, h3⟩
        simp only [Bool.and_eq_true] at h3
        exact absurd (g1.2 ⟨by omega, by omega, h3.1⟩) (by simp)
      ·intro h; cases h
theorem yni (c : Codex) (m : List (Int × Int)) (e : Ex) : (qz c m e 1 0).1 = (zck e && zss (zlg c m) e) := by
 rw [Bool.eq_iff_iff, ((yik c m (SizeOf.sizeOf e + 1)).1 e (by omega) 1 0).1]
 simp only [zck, Bool.and_eq_true, decide_eq_true_eq]
 constructor
 ·rintro ⟨h1, h2, h3⟩; exact ⟨⟨by omega, by omega⟩, h3⟩
 ·rintro ⟨⟨h1, h2⟩, h3⟩; exact ⟨by omega, by omega, h3⟩
mutual
theorem zzy (c : Codex) : ∀ e : Ex, zfe c e = zss (zhj c) e
 | .mk op n u den ps ks => by simp only [zfe, zss, zsa c ks]
theorem zsa (c : Codex) : ∀ ks : List Ex, znz c ks = zhh (zhj c) ks
 | [] => rfl
 | k :: r => by simp only [znz, zhh, zzy c k, zsa c r]
end
theorem ypr : wu tT = true := by decide
theorem yps : wu tN = true := by decide
theorem yil {u : ByteArray} (h : zeq u = true) : wu u = true := by simp [wu, h]
structure CodexRel (c : Codex) (m : List (Int × Int)) : Prop where
 facts : ∀ d ∈ c.facts, wu d.unit = true
 lines : ∀ d ∈ c.lines, wu d.unit = true
 look : ∀ n, zt n m = fl n c.arts
 line : ∀ a ∈ c.arts, 0 <= a.line /\ a.line < c.lines.length
theorem zsb {l : List Decl} (h : ∀ d ∈ l, wu d.unit = true) {i : Int} {u : ByteArray} (hu : zcs l i u = true) : wu u = true := by
 unfold zcs at hu
 split at hu
 ·rename_i d hd
  have := of_decide_eq_true hu
  subst this
  exact h d (List.mem_of_getElem? hd)
 ·cases hu
theorem yss {c : Codex} {m : List (Int × Int)} (H : CodexRel c m) (op n : Int) (u : ByteArray) (hop : 1 <= op /\ op <= 4) (hu : wu u = true) : zar c.facts c.lines m op n u = zad c op n u := by
 have hc : op = 1 \/ op = 2 \/ op = 3 \/ op = 4 := by omega
 rcases hc with rfl | rfl | rfl | rfl
 ·simp [zar, zad, hu]
 ·simp [zar, zad]
 ·simp only [zar, zad]
  simp only [show ¬ (3 : Int) = 1 by omega, show ¬ (3 : Int) = 2 by omega, if_false, if_true]
  rw [H.look n]
  rcases zpn n c.arts 0 with ⟨h1, h2⟩ | ⟨h1, a, h2, h3, h4⟩
  ·rw [h2, h1]
   cases c.arts[((-1 : Int)).toNat]? <;> simp
  ·rw [Nat.sub_zero] at h2
   rw [h4, h2]
   obtain ⟨g1, g2⟩ := H.line a (List.mem_of_getElem? h2)
   simp only [decide_eq_true (show (0 : Int) <= jj n c.arts 0 by omega), decide_eq_true g1, decide_eq_true g2, Bool.true_and]
 ·simp [zar, zad]
theorem zzz {c : Codex} {m : List (Int × Int)} (H : CodexRel c m) {op n : Int} {u : ByteArray} (h : zad c op n u = true) : wu u = true := by
 simp only [zad] at h
 split at h
 ·simp only [Bool.and_eq_true] at h; exact h.1.1.1
 ·split at h
  ·simp only [Bool.and_eq_true] at h; exact zsb H.facts h.2
  ·split at h
   ·split at h
    ·simp only [Bool.and_eq_true] at h; exact zsb H.lines h.2
    ·cases h
   ·split at h
    ·simp only [Bool.and_eq_true, decide_eq_true_eq] at h
     rw [h.2]; exact yps
    ·cases h
theorem ynj {op : Int} {u : ByteArray} {f l : Ex} {len : Int} {s : Bool} (hf : wu f.unit = true) (hl : wu l.unit = true) (h : zaf op u f l len s = true) : wu u = true := by
 have eT : u = tT -> wu u = true := fun e => by rw [e]; exact ypr
 have eF : u = f.unit -> wu u = true := fun e => by rw [e]; exact hf
 have eL : u = l.unit -> wu u = true := fun e => by rw [e]; exact hl
 simp only [zaf] at h
 split at h
 ·simp only [Bool.and_eq_true, decide_eq_true_eq] at h; exact eT h.1.2
 split at h
 ·simp only [Bool.and_eq_true, decide_eq_true_eq] at h; exact eT h.1.1.2
 split at h
 ·simp only [Bool.and_eq_true, decide_eq_true_eq] at h; exact eT h.1.2
 split at h
 ·simp only [Bool.and_eq_true, decide_eq_true_eq] at h; exact eT h.1.2
 split at h
 ·simp only [Bool.and_eq_true, decide_eq_true_eq] at h; exact eF h.2
 split at h
 ·simp only [Bool.and_eq_true, decide_eq_true_eq] at h; exact eF h.2
 split at h
 ·simp only [Bool.and_eq_true, decide_eq_true_eq] at h
  have := h.2
  split at this
  ·exact eL this
  ·exact eF this
 split at h
 ·simp only [Bool.and_eq_true, decide_eq_true_eq] at h; exact eF h.2
 split at h
 ·simp only [Bool.and_eq_true, decide_eq_true_eq] at h; exact eL h.2
 ·cases h
theorem ynk {c : Codex} {m : List (Int × Int)} (H : CodexRel c m) (op n : Int) (u : ByteArray) (den : Int) (ps : List Piece) (ks : List Ex) (hk : ∀ k ∈ ks, wu k.unit = true) :
  zlg c m op n u den ps ks = zhj c op n u den ps ks := by
 have hunit : zhj c op n u den ps ks = true -> wu u = true := by
  intro h
  simp only [zhj] at h
  split at h
  ·simp only [Bool.and_eq_true] at h; exact yil h.1.1.2
  split at h
  ·cases h
  split at h
  ·simp only [Bool.and_eq_true] at h; exact zzz H h.2
  ·simp only [Bool.and_eq_true] at h
   have h2 := h.2
   split at h2
   ·rename_i f l hf hl
    exact ynj (hk f (List.mem_of_mem_head? hf)) (hk l (List.mem_of_getLast? hl)) h2
   ·cases h2
 cases hu : wu u with
 | false =>
  cases hn : zhj c op n u den ps ks with
  | false => simp [zlg, hu]
  | true => rw [hunit hn] at hu; cases hu
 | true =>
  simp only [zlg, hu, Bool.true_and, qm, zhj]
  split
  ·rfl
  split
  ·rfl
  split
  ·rename_i h4
   rw [yss H op n u h4 hu]
  ·rfl
theorem yuo {c : Codex} {m : List (Int × Int)} (H : CodexRel c m) (N : Nat) :
  (∀ e : Ex, SizeOf.sizeOf e < N -> zss (zlg c m) e = zss (zhj c) e /\ (zss (zlg c m) e = true -> wu e.unit = true)) /\
  (∀ ks : List Ex, SizeOf.sizeOf ks < N -> zhh (zlg c m) ks = zhh (zhj c) ks /\ (zhh (zlg c m) ks = true -> ∀ k ∈ ks, wu k.unit = true)) := by
 induction N with
 | zero => exact ⟨fun e h => by omega, fun e h => by omega⟩
 | succ N ih =>
  refine ⟨fun e he => ?_, fun ks hk => ?_⟩
  ·obtain ⟨op, n, u, den, ps, ks⟩ := e
   simp only [Ex.mk.sizeOf_spec] at he
   obtain ⟨h1, h2⟩ := ih.2 ks (by omega)
   simp only [zss]
   rw [<- h1]
   cases hk : zhh (zlg c m) ks with
   | false => simp
   | true =>
    rw [ynk H op n u den ps ks (h2 hk)]
    refine ⟨rfl, fun h => ?_⟩
    rw [<- ynk H op n u den ps ks (h2 hk)] at h
    simp only [zlg, Bool.true_and, Bool.and_eq_true] at h
    exact h.1
  ·cases ks with
   | nil => exact ⟨rfl, fun _ k hk => by cases hk⟩
   | cons k r =>
    simp only [List.cons.sizeOf_spec] at hk
    obtain ⟨a1, a2⟩ := ih.1 k (by omega)
    obtain ⟨b1, b2⟩ := ih.2 r (by omega)
    simp only [zhh]
    rw [<- a1, <- b1]
    refine ⟨rfl, fun h x hx => ?_⟩
    simp only [Bool.and_eq_true] at h
    rcases List.mem_cons.1 hx with rfl | hx
    ·exact a2 h.1
    ·exact b2 h.2 x hx
theorem yst {c : Codex} {m : List (Int × Int)} (H : CodexRel c m) (e : Ex) : (qz c m e 1 0).1 = wn c e := by
 rw [yni, wn, zzy, ((yuo H (SizeOf.sizeOf e + 1)).1 e (by omega)).1]
theorem yff {c : Codex} {m : List (Int × Int)} (H : CodexRel c m) (e : Ex) (u : ByteArray) : (qf c m e u).1 = (wn c e && decide (e.unit = u)) := by
 unfold qf
 split
 ·rename_i h; rw [yst H, decide_eq_true h, Bool.and_true]
 ·rename_i h; rw [decide_eq_false h, Bool.and_false]
theorem zmp {lo hi : Int} {l : List Decl} (h : qv lo hi l = true) : ∀ d ∈ l, wu d.unit = true := by
 intro d hd
 simp only [qv, Bool.and_eq_true, List.all_eq_true] at h
 have := h.1 d hd
 simp only [js, Bool.and_eq_true] at this
 exact this.1.2
theorem ypt (c : Codex) : ziq c = zw c := by
 cases hd1 : qv 0 0 c.facts with
 | false => simp [ziq, zw, hd1]
 | true =>
 cases hd2 : qv 1 4 c.lines with
 | false => simp [ziq, zw, hd2]
 | true =>
 by_cases hz : c.facts.length <= 32 /\ c.lines.length <= 32 /\ c.arts.length <= 60
 rotate_left
 ·have e1 : ziq c = false := by
   cases h : ziq c with
   | false => rfl
   | true => simp only [ziq, Bool.and_eq_true, decide_eq_true_eq] at h; exact absurd ⟨h.1.1.1.2, h.1.1.2.2, h.1.2⟩ hz
  have e2 : zw c = false := by
   cases h : zw c with
   | false => rfl
   | true => simp only [zw, Bool.and_eq_true, decide_eq_true_eq] at h; exact absurd ⟨h.1.1.1.1.1, h.1.1.1.1.2, h.1.1.1.2⟩ hz
  rw [e1, e2]
 have e1 : ziq c = c.arts.all (jh c) := by simp [ziq, hd1, hd2, hz]
 have e2 : zw c = (match wt c.lines.length c.arts [] with | some m => c.arts.all (zkp c m) | none => false) := by
  simp only [zw, hd1, hd2, hz.1, hz.2.1, hz.2.2, decide_true, Bool.true_and]
  rfl
 rw [e1, e2]
 have hfirst : ∀ a ∈ c.arts, fl a.number c.arts = some (zdd c a.number) := by
  intro a ha
  rcases zpn a.number c.arts 0 with ⟨h1, h2⟩ | ⟨h1, x, h2, h3, h4⟩
  ·exact absurd rfl ((znx a.number c.arts 0).1 h1 a ha)
  ·rw [Nat.sub_zero] at h2
   rw [h4]
   simp only [zdd, h2]
 cases hg : wt c.lines.length c.arts [] with
 | some m =>
  obtain ⟨g1, g2⟩ := zui _ _ _ _ hg
  have hrel : CodexRel c m := ⟨zmp hd1, zmp hd2, fun n => by rw [g1 n]; rfl, fun a ha => ⟨(g2 a ha).1.2.2.1, (g2 a ha).1.2.2.2⟩⟩
  simp only
  rw [Bool.eq_iff_iff, List.all_eq_true, List.all_eq_true]
  have key : ∀ a ∈ c.arts, jh c a = zkp c m a := by
   intro a ha
   obtain ⟨⟨b1, b2, b3, b4⟩, b5⟩ := g2 a ha
   have hl : a.line = zdd c a.number := by
    have := hfirst a ha
    rw [g1] at b5
    simp only [zt, Option.none_or] at b5
    rw [b5] at this
    simpa using this
   simp only [jh, zkp]
   rw [decide_eq_true ⟨b1, b2, b3, b4, hl⟩, Bool.true_and]
   have hu : a.unless_.all (fun n => decide (0 <= jj n c.arts 0)) = a.unless_.all (fun n => (zt n m).isSome) := by
    congr 1
    funext n
    rw [g1 n]
    rcases zpn n c.arts 0 with ⟨h1, h2⟩ | ⟨h1, x, h2, h3, h4⟩
    ·rw [h1, h2]; rfl
    ·rw [h4, decide_eq_true (by omega)]; rfl
   have hw : a.when_.all (fun e => wn c e && decide (e.unit = tT)) = a.when_.all (fun e => (qf c m e tT).1) := by
    congr 1
    funext e
    rw [yff hrel]
   rw [hu, hw, yff hrel]
   cases zbx a <;> simp [Bool.and_comm, Bool.and_left_comm, Bool.and_assoc]
  constructor
  ·intro h a ha; rw [<- key a ha]; exact h a ha
  ·intro h a ha; rw [key a ha]; exact h a ha
 | none =>
  simp only
  cases h : c.arts.all (jh c) with
  | false => rfl
  | true =>
   exfalso
   rw [List.all_eq_true] at h
   obtain ⟨m, hm⟩ := zot c.lines.length c.arts [] (fun a ha => by
    have := h a ha
    simp only [jh, Bool.and_eq_true, decide_eq_true_eq] at this
    obtain ⟨⟨⟨⟨⟨t1, t2, t3, t4, t5⟩, _⟩, _⟩, _⟩, _⟩ := this
    refine ⟨⟨t1, t2, t3, t4⟩, ?_⟩
    simp only [zt, Option.none_or]
    rw [hfirst a ha, <- t5])
   rw [hm] at hg
   cases hg
theorem yim {G : List (Nat × D)} (c : Codex) (h : zw c = true) (hF : c.facts.length <= 12) (hw : ∀ a ∈ c.arts, a.when_.length <= 41) (vs : List Int) (hz : vs.length <= 100) (hv : ∀ v ∈ vs, 0 <= v /\ v < c.arts.length) :
  ∃ sl, zx Tryz.prog G 23 [c.sv, .imm (zj vs)] (.tup [sl, sB (zkd c vs)]) /\ (sl = zdk \/ ∃ ls, sl = .imm (ymv ls)) := by
 obtain ⟨m, hm, hc⟩ := zbl h
 obtain ⟨_, _, m', hm', h4⟩ := jg h
 have hN := zgv (c := c) hc (vs := vs)
 have hS := zgv (c := c) (P := fun e => xg e <= 400) (fun a ha e he => ((h4 a ha).2.2.1 e he).2) (vs := vs)
 have hwh : ∀ a ∈ c.arts, a.when_.length <= 100 := fun a ha => by have := hw a ha; omega
 unfold zkd
 cases hb : (yg c vs).all (simpE c) with
 | false => exact ⟨zdk, by rw [Bool.false_and]; exact yhw G c (m := m) vs (by omega) hv hwh hN hb, .inl rfl⟩
 | true => exact ⟨_, by rw [Bool.true_and]; exact ycb G c (m := m) vs hz hv hwh (fun e he => ⟨hN e he, hS e he⟩) (by omega) hb, .inr ⟨_, rfl⟩⟩
theorem zpo {c : Codex} {m : List (Int × Int)} : ∀ (N : Nat) (e : Ex), SizeOf.sizeOf e < N -> zep c m e -> e.unit = tT -> simpE c e = true -> readE c.facts.length e
 | 0, _, h, _, _, _ => by omega
 | N + 1, .mk op n u den ps ks, hN, h, hu, hs => by
  simp only [Ex.mk.sizeOf_spec] at hN
  have hu : u = tT := hu
  cases zjk h hu with
  | const h1 hk hu' =>
   subst h1 hk
   unfold readE
   trivial
  | fact h1 hk hr ht =>
   subst h1 hk
   unfold readE
   exact hr
  | neg k h1 hk hka hku =>
   subst h1 hk
   simp only [List.cons.sizeOf_spec] at hN
   have hsk : simpE c k = true := by
    rw [simpE.eq_def] at hs
    simpa only [show ¬ (5 : Int) = 1 by decide, show ¬ (5 : Int) = 2 by decide, if_false, if_true] using hs
   rw [readE.eq_def]
   exact zpo N k (by omega) hka hku hsk
  | conn k l h1 hk hka hla hku hlu =>
   subst hk
   simp only [List.cons.sizeOf_spec] at hN
   have hsE : simpE c (.mk op n u den ps [k, l]) = (simpE c k && simpE c l) := by
    rw [simpE.eq_def]
    simp only
    rw [if_neg (by omega), if_neg (by omega), if_neg (by omega), if_pos h1]
   rw [hsE, Bool.and_eq_true] at hs
   rw [readE.eq_def]
   simp only
   rw [if_neg (by omega), if_pos h1]
   exact ⟨zpo N k (by omega) hka hku hs.1, zpo N l (by omega) hla hlu hs.2⟩
  | cmp k l h1 hk hka hla =>
   subst hk
   rw [zfv h1] at hs
   simp only [Bool.and_eq_true, Bool.or_eq_true, decide_eq_true_eq] at hs
   have hlk := zek hka (zfc hs.1.1)
   have hll := zek hla (zfc hs.1.2)
   rw [readE.eq_def]
   simp only
   rw [if_neg (by omega), if_neg (by omega), if_neg (by omega), if_neg (by omega), if_pos h1]
   exact ⟨⟨fun e => ⟨(hlk.k2 e).1, (hlk.k2 e).2.1⟩, fun e => by have := hlk.k4 e; omega⟩, ⟨fun e => ⟨(hll.k2 e).1, (hll.k2 e).2.1⟩, fun e => by have := hll.k4 e; omega⟩⟩
  | other h1 h2 h3 h4 h5 =>
   exfalso
   unfold simpE at hs
   rw [if_neg h1, if_neg h2, if_neg h3, if_neg h4] at hs
   have hce : zhg op = false := by unfold zhg; simp; omega
   split at hs
   ·simp [hce] at hs
   ·cases hs
theorem ypu {G : List (Nat × D)} {c : Codex} (h : zw c = true) (hF : c.facts.length <= 12) (hw : ∀ a ∈ c.arts, a.when_.length <= 41) (vs : List Int) (hz : vs.length <= 1000) (hv : ∀ v ∈ vs, 0 <= v /\ v < c.arts.length) (hb : zkd c vs = true) (day : Int) (values : List Int) (hl : values.length = c.facts.length) :
  zx Tryz.prog G 25 [c.sv, .imm (zj vs), sI day, .imm (zj values)] (sB ((yg c vs).all (holdsE (yz day) values))) := by
 obtain ⟨m, hm, hc⟩ := zbl h
 have hN := zgv (c := c) hc (vs := vs)
 unfold zkd at hb
 simp only [Bool.and_eq_true] at hb
 have hs := List.all_eq_true.1 hb.1
 exact yho G c vs day values hz hv (fun a ha => by have := hw a ha; omega) (by omega) (fun e he => by rw [hl]; exact zpo _ e (Nat.lt_succ_self _) (hN e he).1 (hN e he).2 (hs e he))
def zde (c : Codex) (v : Int) : Bool := decide (0 <= v) && decide (v < c.arts.length)
def zou (c : Codex) (vs : List Int) : SV := if vs.all (zde c) = true then .imm (zj (zjs c vs)) else zdk
theorem yin (c : Codex) (vs : List Int) (hz : vs.length <= 1000000000) (ha : c.arts.length <= 9223372036854775807) (hB : ∀ n, n <= c.arts.length -> (((List.range n).map fun (i : Nat) => (i : Int)).filter (fun i => decide (i ∈ vs))).length <= 1073741824) : zx Tryz.prog G 22 [c.sv, .imm (zj vs)] (.tup [zou c vs, sB (vs.all (zde c))]) := by
 have hal : (c.arts.map Article.cells).length = c.arts.length := by simp
 have hvl : (vs.map fun n => [dI n]).length = vs.length := by simp
 have hIn := fun x => zzg G vs x (by omega)
 refine zc Tryz.func22 rfl (by rw [Tryz.ntmps22]; simp) rfl (by unfold zou; split <;> rfl) ?_
 intro E hH hK
 rw [show c.sv = .agg [.imm (zk c.facts), .imm (zk c.lines), .imm (ym c.arts)] from rfl]
 (refine zg ?_; conv => whnf)
 refine zqe (n := 6) (kk := 1) rfl ?_
 refine zf [1, 2, 6, 7] ?_
 change SW E _ [(1, .imm (zj vs)), (2, .ptr 0 0), (6, .asl 1 1 []), (7, sI 0)] [.cells [.imm (zk c.facts), .imm (zk c.lines), .imm (ym c.arts)], .tok 1 0]
 refine zp c.arts (fun i (l : List Int) => [(1, .imm (zj vs)), (2, .ptr 0 0), (6, .asl 1 1 (l.map fun n => [dI n])), (7, sI i)]) (fun _ l => [.cells [.imm (zk c.facts), .imm (zk c.lines), .imm (ym c.arts)], .tok 1 (l.map fun n => [dI n]).length])
  (fun done _ l => l = ((List.range done.length).map fun (i : Nat) => (i : Int)).filter (fun i => decide (i ∈ vs))) [] rfl ?_ ?_
 ·rintro l h2
  have hl : zjs c vs = l := h2.symm
  refine zci ?_
  change SW E _ [(1, .imm (zj vs)), (2, .ptr 0 0), (6, .imm (zj l)), (7, sI c.arts.length)] _
  (refine zg ?_; conv => whnf)
  repeat' ((with_reducible refine way ?_ ?_) <;> (intro h; conv => whnf))
  all_goals try (exfalso; omega)
  refine ys [1, 2, 6, 8] 1 (by rw [hH]; exact Nat.zero_le 1) (Nat.succ_le_succ (Nat.zero_le _)) rfl rfl ?_
  change SW E _ [(1, .imm (zj vs)), (2, .ptr 0 0), (6, .imm (zj l)), (8, sI 0)] [.cells [.imm (zk c.facts), .imm (zk c.lines), .imm (ym c.arts)]]
  refine zp vs (fun i (_ : Unit) => [(1, .imm (zj vs)), (2, .ptr 0 0), (6, .imm (zj l)), (8, sI i)]) (fun _ _ => [.cells [.imm (zk c.facts), .imm (zk c.lines), .imm (ym c.arts)]])
   (fun done _ _ => done.all (zde c) = true) () rfl ?_ ?_
  ·rintro _ h3
   unfold zou at hK
   rw [h3, if_pos rfl, hl] at hK
   (refine zg ?_; conv => whnf)
   repeat' ((with_reducible refine way ?_ ?_) <;> (intro h; conv => whnf))
   all_goals try (exfalso; omega)
   exact hK _
  ·rintro done x rest _ hda hdl h3 ih
   have hw := zm (n := done.length) (by omega)
   have hrx : (vs.map fun n => [dI n])[done.length]? = some [dI x] := by simp [hda]
   have hsn : (done ++ [x]).all (zde c) = zde c x := by rw [List.all_append, h3]; simp
   have hno : zde c x = false -> vs.all (zde c) = false := fun h => by rw [hda, List.all_append, List.all_cons, h, Bool.false_and, Bool.and_false]
   rw [hsn] at ih
   (refine zg ?_; conv => whnf)
   repeat' ((with_reducible refine way ?_ ?_) <;> (intro h; conv => whnf))
   all_goals try (exfalso; omega)
   (refine zu 0 mixed rfl ?_; refine zb [777] (nx := 1) ?_; conv => whnf)
   refine zq (i := done.length) (row := [dI x]) rfl (show 1 <= 1 by decide) rfl hrx ?_
   (refine zb [777, 33] (nx := 1) ?_; conv => whnf)
   refine qj ⟨sB (decide (x < 0)), [], none⟩ rfl rfl (show 1 <= 1 by decide) (fun _ _ _ => rfl) ?_
   by_cases hx : x < 0
   ·have hf : vs.all (zde c) = false := hno (by unfold zde; rw [decide_eq_false (by omega)]; rfl)
    unfold zou at hK
    rw [hf, if_neg (by simp)] at hK
    rw [decide_eq_true hx]
    (refine zb [777, 43] (nx := 1) ?_; conv => whnf)
    refine qj ⟨sB true, [], none⟩ rfl rfl (show 1 <= 1 by decide) (fun _ _ _ => rfl) ?_
    refine jd (by kernel_rfl) ?_
    (refine zg ?_; conv => whnf)
    exact hK _
   ·rw [decide_eq_false hx]
    (refine zb [777] (nx := 1) ?_; conv => whnf)
    refine zq (i := done.length) (row := [dI x]) rfl (show 1 <= 1 by decide) rfl hrx ?_
    (refine zb [777, 43] (nx := 1) ?_; conv => whnf)
    refine qj ⟨sB (decide (((c.arts.map Article.cells).length : Int) <= x)), [], none⟩ rfl rfl (show 1 <= 1 by decide) (fun _ _ _ => rfl) ?_
    refine jd (by kernel_rfl) ?_
    by_cases hx2 : ((c.arts.map Article.cells).length : Int) <= x
    ·have hf : vs.all (zde c) = false := hno (by unfold zde; rw [decide_eq_false (show ¬ x < c.arts.length by omega), Bool.and_false])
     unfold zou at hK
     rw [hf, if_neg (by simp)] at hK
     rw [decide_eq_true hx2]
     (refine zg ?_; conv => whnf)
     exact hK _
    ·rw [decide_eq_false hx2]
     (refine zg ?_; conv => whnf)
     rw [hw]
     exact zf [1, 2, 6, 8] (ih () (by unfold zde; rw [decide_eq_true (show 0 <= x by omega), decide_eq_true (show x < c.arts.length by omega)]; rfl))
 ·rintro done x rest l hda hdl h2 ih
  have hw := zm (n := done.length) (by omega)
  have hI := hIn (done.length : Int)
  have hsn : ∀ l', l' = l ++ (if (done.length : Int) ∈ vs then [(done.length : Int)] else []) -> l' = ((List.range (done ++ [x]).length).map fun (i : Nat) => (i : Int)).filter (fun i => decide (i ∈ vs)) := fun l' h => by
   rw [h, List.length_append, List.length_cons, List.length_nil, List.range_succ, List.map_append, List.filter_append, <- h2]
   congr 1
   by_cases hm : (done.length : Int) ∈ vs
   ·simp [hm]
   ·simp [hm]
  (refine zg ?_; conv => whnf)
  repeat' ((with_reducible refine way ?_ ?_) <;> (intro h; conv => whnf))
  all_goals try (exfalso; omega)
  refine ze rfl  hI ?_
  by_cases hm : (done.length : Int) ∈ vs
  ·rw [decide_eq_true hm]
   rw [if_pos hm] at hsn
   (refine za ?_; conv => whnf)
   refine xz (b := 1) (kk := 1) (rows := l.map fun n => [dI n]) (new := [[dI done.length]]) rfl ⟨by decide, rfl⟩ rfl (by
    have := hB (done ++ [x]).length (by rw [hda]; simp)
    rw [<- hsn _ rfl] at this
    simpa using this) ?_
   have e5 : (l.map fun n => [dI n]) ++ [[dI done.length]] = (l ++ [(done.length : Int)]).map fun n => [dI n] := by simp
   have e6 : (l.map fun n => [dI n]).length + [[dI done.length]].length = ((l ++ [(done.length : Int)]).map fun n => [dI n]).length := by simp
   refine Eq.mpr (congrArg (fun v => SWr E _ _ _ (wq _ _ (.asl 1 1 v)) _) e5) ?_
   refine Eq.mpr (congrArg (fun v => SWr E _ _ _ _ (List.set _ 1 (.tok 1 v))) e6) ?_
   (refine za ?_; conv => whnf)
   rw [hw]
   exact zf [1, 2, 6, 7] (ih _ (hsn _ rfl))
  ·rw [decide_eq_false hm]
   rw [if_neg hm, List.append_nil] at hsn
   (refine za ?_; conv => whnf)
   rw [hw]
   exact zf [1, 2, 6, 7] (ih l (hsn _ rfl))
theorem yco (c : Codex) (vs : List Int) (hz : vs.length <= 1000000) (ha : c.arts.length <= 1000000) : zx Tryz.prog G 22 [c.sv, .imm (zj vs)] (.tup [zou c vs, sB (vs.all (zde c))]) :=
 yin G c vs (by omega) (by omega) fun n hn => Nat.le_trans (List.length_filter_le _ _) (by simp; omega)
theorem zuj {l : List Int} {n : Nat} (h : l.length = n) : (List.range n).map (fun i => l.getD i 0) = l := by
 refine List.ext_getElem (by simp [h]) fun i h1 h2 => ?_
 rw [List.getElem_map, List.getElem_range, List.getD_eq_getElem?_getD, List.getElem?_eq_getElem h2]
 rfl
theorem yaa (a b : List Int) (p : Nat -> Bool) : ∀ L : List Nat, zio (L.map fun i => (a.getD i 0, b.getD i 0, p i)) = znj ((L.filter p).map fun (i : Nat) => (i : Int)) a b
 | [] => rfl
 | i :: L => by
  rw [List.map_cons, List.filter_cons]
  have hc : zio ((a.getD i 0, b.getD i 0, p i) :: L.map fun i => (a.getD i 0, b.getD i 0, p i)) = if p i = true /\ a.getD i 0 ≠ b.getD i 0 then decide (a.getD i 0 < b.getD i 0) else zio (L.map fun i => (a.getD i 0, b.getD i 0, p i)) := rfl
  rw [hc, yaa a b p L]
  cases hp : p i with
  | false => simp
  | true =>
   simp only [if_true, List.map_cons, znj, Int.toNat_natCast]
   by_cases he : a.getD i 0 = b.getD i 0
   ·rw [if_neg (by simp only [he]; simp), if_neg (by simp only [he]; simp)]
   ·rw [if_pos ⟨trivial, he⟩, if_pos he]
theorem yio {nf k : Nat} {q : Sr} (h : CFull nf q k) : zhz q = ((List.range nf).filter fun (i : Nat) => (zt (i : Int) q.cands).isSome).map fun (i : Nat) => (i : Int) := by
 have hfst : zhz q = zdp (q.cands.map (·.1)) := by
  unfold zhz ya
  rw [List.map_map]
  exact List.map_id _
 rw [hfst]
 refine zwg _ _ (zrn h.inv.nd) ?_ fun x => ?_
 ·rw [List.pairwise_map]
  exact (List.pairwise_lt_range.filter _).imp fun h => by omega
 ·rw [zeh]
  constructor
  ·intro hx
   obtain ⟨e, he, rfl⟩ := List.mem_map.1 hx
   have hr := h.inv.rng e he
   refine List.mem_map.2 ⟨e.1.toNat, List.mem_filter.2 ⟨List.mem_range.2 (by omega), ?_⟩, by omega⟩
   rw [show ((e.1.toNat : Nat) : Int) = e.1 by omega, zbj h.inv.nd he]
   rfl
  ·intro hx
   obtain ⟨i, hi, rfl⟩ := List.mem_map.1 hx
   have hi := (List.mem_filter.1 hi).2
   rw [zcw] at hi
   exact of_decide_eq_true hi
theorem ypv {c : Codex} (h : zw c = true) (hF : c.facts.length <= 12) (hw : ∀ a ∈ c.arts, a.when_.length <= 41) {vs : List Int} (hv : ∀ v ∈ vs, 0 <= v /\ v < c.arts.length) {w : View} (hwit : yx c vs = some w) {v : List Int} (hvl : v.length = c.facts.length) (hg : yhp c v) :
  ∃ z : List (Int × Int × Bool), v = z.map (·.1) /\ w.value = z.map (·.2.1) /\ w.has = z.map (·.2.2) /\ z.length = c.facts.length /\
   ∀ d, (yi c (zy vs)).1 <= d -> d < (yi c (zy vs)).2 -> (yg c (zy vs)).all (holdsE (yz d) v) = true -> yng d w.day z = false := by
 rw [zjp h hv] at hwit
 cases hq : xm c vs with
 | none => rw [hq] at hwit; cases hwit
 | some q =>
  rw [hq] at hwit
  obtain ⟨hfull, _⟩ := zlc h hF hw hv hq
  obtain ⟨w1, _⟩ := ymo h hF hw hv hq
  obtain ⟨a1, a2, a3, a4, a5, a6, _, a8⟩ := w1 w hwit
  refine ⟨(List.range c.facts.length).map fun (i : Nat) => (v.getD i 0, w.value.getD i 0, (zt (i : Int) q.cands).isSome), ?_, ?_, ?_, by simp, fun d h1 h2 h3 => ?_⟩
  ·rw [List.map_map]
   exact (zuj hvl).symm
  ·rw [List.map_map]
   exact (zuj a3).symm
  ·rw [List.map_map, a4]
   rfl
  ·obtain ⟨g1, g2⟩ := a8 d v h1 h2 hg (List.all_eq_true.1 h3)
   unfold yng
   by_cases e : d = w.day
   ·rw [if_pos e, yaa, <- yio hfull]
    exact g2 e.symm
   ·rw [if_neg e]
    exact decide_eq_false (by omega)
theorem yip {c : Codex} {vs : List Int} (h : vs.all (zde c) = true) : ∀ v ∈ vs, 0 <= v /\ v < c.arts.length := fun v hv => by
 have := List.all_eq_true.1 h v hv
 unfold zde at this
 simpa using this
theorem ycp {c : Codex} {vs : List Int} (h : vs.all (zde c) = false) : yx c vs = none := by
 unfold yx
 have : vs.all (fun v => decide (0 <= v) && decide (v < c.arts.length)) = false := h
 rw [this, Bool.and_false]
 rfl
theorem ynl (c : Codex) (vs : List Int) : (zjs c vs).length <= c.arts.length := by
 unfold zjs
 exact Nat.le_trans (List.length_filter_le _ _) (by simp)
theorem witnessLaw_spec (c : Codex) (hfit : Codex.fit c) (hsz : c.facts.length <= 9223372036854775807 /\ c.lines.length <= 9223372036854775807 /\ c.arts.length <= 9223372036854775807) (vs : List Int) (day : Int) (hd0 : -9223372036854775808 <= day /\ day <= 9223372036854775807)
  (numbers : List Int) (hn : ∀ n ∈ numbers, -9223372036854775808 <= n /\ n <= 9223372036854775807) :
  zx Tryz.prog G0 4 [c.sv, .imm (zj vs), sI day, .imm (zj numbers)] (sB true) := by
 have hal : (c.arts.map Article.cells).length = c.arts.length := by simp
 have hfl : (c.facts.map Decl.cells).length = c.facts.length := by simp
 have hvl : (vs.map fun n => [dI n]).length = vs.length := by simp
 have hfw := yie c
 have hV := zsr G0 c hsz.1 hsz.2.1 hsz.2.2 hfit
 rw [ypt] at hV
 refine zc Tryz.func4 rfl (by rw [Tryz.ntmps4]; simp) rfl rfl ?_; intro E hH hK
 rw [show c.sv = .agg [.imm (zk c.facts), .imm (zk c.lines), .imm (ym c.arts)] from rfl]
 cases hb1 : yuf c <;> rw [hb1] at hfw <;> cases hb2 : zw c <;> rw [hb2] at hV
 case true.true =>
  obtain ⟨f1, f2, f3, f4⟩ := ynf hb1
  have hw40 : ∀ a ∈ c.arts, a.when_.length <= 41 := fun a ha => (f4 a ha).1
  have hSC := znp hb2 f2 f4
  have hwl : ∀ o : Option View, o = yx c vs -> True := fun _ _ => trivial
  (refine zg ?_; conv => whnf)
  refine ze rfl  yql ?_
  (refine za ?_; conv => whnf)
  refine ze rfl  hfw ?_
  (refine za ?_; conv => whnf)
  refine ze rfl  hV ?_
  (refine za ?_; conv => whnf)
  repeat' ((with_reducible refine way ?_ ?_) <;> (intro h; conv => whnf))
  ·exact hK _
  have hW := zgs c hfit (fun _ => hSC) (by omega) vs (by omega)
  have hL := yco G0 c vs (by omega) (by omega)
  cases hin : vs.all (zde c) with
  | false =>
   rw [ycp hin] at hW
   unfold zou at hL
   rw [hin, if_neg (by simp)] at hL
   refine ze rfl  hL ?_
   (refine za ?_; conv => whnf)
   refine ze rfl  hW ?_
   (refine za ?_; conv => whnf)
   exact hK _
  | true =>
   have hv := yip hin
   have hle := ypf hv
   have hll := ynl c vs
   unfold zou at hL
   rw [hin, if_pos rfl] at hL
   have hvL : ∀ v ∈ zjs c vs, 0 <= v /\ v < c.arts.length := yms
   obtain ⟨x1, x2, x3⟩ := yhs hb2 f2 hw40 hv
   have x4 := fun w hw => ypv hb2 f2 hw40 hv (w := w) hw (yfe c numbers) (zzs c numbers)
   rw [<- hle] at x1 x2 x3 x4
   have x2 := fun a b d h1 h2 => x2 a b d (yqm c numbers) h1 h2 (zzs c numbers)
   obtain ⟨sl, hC, hsl⟩ := yim (G := G0) c hb2 f2 hw40 (zjs c vs) (by omega) hvL
   have hA := fun hb d values hlen => ypu (G := G0) hb2 f2 hw40 (zjs c vs) (by omega) hvL hb d values hlen
   have hFr := zon G0 c (zjs c vs) (by omega) hvL
   have hWi := zwl G0 c (zjs c vs) (by omega) hvL
   have hF := zsq G0 c (by omega) numbers hn
   have hFl := yfe c numbers
   have hfle := ypg (c := c) (zjs c vs)
   have hp40 := zhb G0 day 40 hd0.1 hd0.2 (by omega)
   have hr40 := zmo (c := day) (n := 40) (by omega)
   have hSame := fun a ha => zei G0 a (zjs c vs) ha (by omega)
   generalize zjs c vs = l at *
   generalize yqm c numbers = values at *
   generalize yi c l = fr at *
   obtain ⟨lo, hi⟩ := fr
   simp only at hFr hWi hfle x2 x3 x4
   generalize zny day 40 = p40 at hp40 hr40
   cases hbs : zkd c l with
   | false =>
    have hn0 := x1 hbs
    rw [hn0] at hW
    rw [hbs] at hC
    refine ze rfl  hL ?_
    (refine za ?_; conv => whnf)
    refine ze rfl  hW ?_
    (refine za ?_; conv => whnf)
    rcases hsl with rfl | ⟨ls, rfl⟩
    all_goals
     refine ze rfl  hC ?_
     (refine za ?_; conv => whnf)
     exact hK _
   | true =>
    rw [hbs] at hC
    cases hw : yx c vs with
    | none =>
     rw [hw] at hW
     refine ze rfl  hL ?_
     (refine za ?_; conv => whnf)
     refine ze rfl  hW ?_
     (refine za ?_; conv => whnf)
     rcases hsl with rfl | ⟨ls, rfl⟩
     all_goals
      refine ze rfl  hC ?_
      (refine za ?_; conv => whnf)
      refine ze rfl  hFr ?_
      (refine za ?_; conv => whnf)
      repeat' ((with_reducible refine way ?_ ?_) <;> (intro h; conv => whnf))
      ·exact hK _
      have hwd : IntKind.i64.wrap (hi - lo) = hi - lo := yv (by omega) (by omega)
      have hpk := zhb G0 day (IntKind.i64.wrap (hi - lo)) hd0.1 hd0.2 (by rw [hwd]; omega)
      have hpr := zmo (c := day) (n := IntKind.i64.wrap (hi - lo)) (by rw [hwd]; omega)
      generalize zny day (IntKind.i64.wrap (hi - lo)) = p at hpk hpr
      rw [hwd] at hpr
      have hwp : IntKind.i64.wrap (lo + p) = lo + p := yv (by omega) (by omega)
      have hwh : IntKind.i64.wrap (hi - 1) = hi - 1 := yv (by omega) (by omega)
      have hwq : IntKind.i64.wrap (lo + p40) = lo + p40 := yv (by omega) (by omega)
      obtain ⟨d1, hd1e⟩ : ∃ d1, IntKind.i64.wrap (lo + p) = d1 := ⟨_, rfl⟩
      obtain ⟨d2, hd2e⟩ : ∃ d2, (if IntKind.i64.wrap (lo + p40) < IntKind.i64.wrap (hi - 1) then IntKind.i64.wrap (lo + p40) else IntKind.i64.wrap (hi - 1)) = d2 := ⟨_, rfl⟩
      have hd1 : lo <= d1 /\ d1 < hi := by rw [<- hd1e, hwp]; omega
      have hd2 : lo <= d2 /\ d2 < hi := by rw [<- hd2e, hwh, hwq]; split <;> omega
      refine ze rfl  hF ?_
      (refine za ?_; conv => whnf)
      refine ze rfl  hpk ?_
      (refine za ?_; conv => whnf)
      refine ze rfl  hp40 ?_
      (refine za ?_; conv => whnf)
      refine zf [4, 9, 12, 14, 15, 20, 147, 148, 149] ?_
      refine Eq.mpr (congrArg (fun v => SW E _ [(4, .ptr 0 0), (9, sB true), (12, .imm (zj l)), (14, .ptr 1 0), (15, sB false), (20, .imm (zj values)), (147, .imm (zj v)), (148, sI 2), (149, sI 0)] [zdh c, .cells [sI 0, .imm (ws []), .imm (zj []), .imm (zj [])]]) (show [IntKind.i64.wrap (lo + p), if IntKind.i64.wrap (lo + p40) < IntKind.i64.wrap (hi - 1) then IntKind.i64.wrap (lo + p40) else IntKind.i64.wrap (hi - 1)] = [d1, d2] by rw [hd1e, hd2e])) ?_
      refine zp [d1, d2] (fun i (_ : Unit) => [(4, .ptr 0 0), (9, sB true), (12, .imm (zj l)), (14, .ptr 1 0), (15, sB false), (20, .imm (zj values)), (147, .imm (zj [d1, d2])), (148, sI 2), (149, sI i)]) (fun _ _ => [zdh c, .cells [sI 0, .imm (ws []), .imm (zj []), .imm (zj [])]]) (fun _ _ _ => True) () trivial ?_ ?_
      ·rintro _ _
       (refine zg ?_; conv => whnf)
       exact hK _
      ·rintro done d rest _ hda hdl _ ih
       have hw1 := zm (n := done.length) (by simp at hdl; omega)
       have hdm : d = d1 \/ d = d2 := by
        have : d ∈ [d1, d2] := by rw [hda]; simp
        simpa using this
       have hdr : lo <= d /\ d < hi := by rcases hdm with rfl | rfl; exact hd1; exact hd2
       have hlt : done.length < 2 := by simp at hdl; omega
       have hrd : ([d1, d2].map fun n => [dI n])[done.length]? = some [dI d] := by rw [hda]; simp
       have hAd := hA hbs d values hFl
       (refine zg ?_; conv => whnf)
       repeat' ((with_reducible refine way ?_ ?_) <;> (intro h; conv => whnf))
       all_goals try (exfalso; omega)
       refine zh (i := done.length) (row := [dI d]) rfl rfl hrd ?_
       (refine za ?_; conv => whnf)
       refine ze rfl  hAd ?_
       rw [x2 hbs hw d hdr.1 hdr.2]
       (refine za ?_; conv => whnf)
       rw [hw1]
       exact ys [4, 9, 12, 14, 15, 20, 147, 148, 149] 2 (by rw [hH]; exact Nat.zero_le 2) (Nat.le_refl 2) rfl rfl (ih () trivial)
    | some w =>
     rw [hw] at hW
     obtain ⟨wday, whas, wval, warts⟩ := w
     obtain ⟨y1, y2, y3, y4, y5, y6, y7⟩ := x3 _ hw
     simp only at y2 y3 y4 y5 y6 y7
     have y6' := y6.symm
     subst y6'
     rw [show yrz (some ⟨wday, whas, wval, l⟩) = .tup [.agg [sI wday, .imm (ws whas), .imm (zj wval), .imm (zj l)], sB true] from rfl] at hW
     have hwl1 : (wval.map fun n => [dI n]).length = wval.length := by simp
     have hwl2 : (whas.map fun n => [dB n]).length = whas.length := by simp
     have hWw := hWi wday
     rw [decide_eq_true y2, decide_eq_true y3] at hWw
     have hAw := hA hbs wday wval y4
     rw [y7] at hAw
     have hSm := hSame l (by omega)
     rw [decide_eq_true rfl] at hSm
     refine ze rfl  hL ?_
     (refine za ?_; conv => whnf)
     refine ze rfl  hW ?_
     (refine za ?_; conv => whnf)
     rcases hsl with rfl | ⟨ls, rfl⟩
     all_goals
      refine ze rfl  hC ?_
      (refine za ?_; conv => whnf)
      repeat' ((with_reducible refine way ?_ ?_) <;> (intro h; conv => whnf))
      all_goals try (exfalso; omega)
      refine ze rfl  hWw ?_
      (refine za ?_; conv => whnf)
      refine ze rfl  hAw ?_
      (refine za ?_; conv => whnf)
      refine ze rfl  hSm ?_
      (refine za ?_; conv => whnf)
      refine ze rfl  hFr ?_
      (refine za ?_; conv => whnf)
      repeat' ((with_reducible refine way ?_ ?_) <;> (intro h; conv => whnf))
      all_goals try (exfalso; omega)
      have hwd : IntKind.i64.wrap (hi - lo) = hi - lo := yv (by omega) (by omega)
      have hpk := zhb G0 day (IntKind.i64.wrap (hi - lo)) hd0.1 hd0.2 (by rw [hwd]; omega)
      have hpr := zmo (c := day) (n := IntKind.i64.wrap (hi - lo)) (by rw [hwd]; omega)
      generalize zny day (IntKind.i64.wrap (hi - lo)) = p at hpk hpr
      rw [hwd] at hpr
      have hwp : IntKind.i64.wrap (lo + p) = lo + p := yv (by omega) (by omega)
      have hwh : IntKind.i64.wrap (hi - 1) = hi - 1 := yv (by omega) (by omega)
      have hwq : IntKind.i64.wrap (lo + p40) = lo + p40 := yv (by omega) (by omega)
      obtain ⟨d1, hd1e⟩ : ∃ d1, IntKind.i64.wrap (lo + p) = d1 := ⟨_, rfl⟩
      obtain ⟨d2, hd2e⟩ : ∃ d2, (if IntKind.i64.wrap (lo + p40) < IntKind.i64.wrap (hi - 1) then IntKind.i64.wrap (lo + p40) else IntKind.i64.wrap (hi - 1)) = d2 := ⟨_, rfl⟩
      have hd1 : lo <= d1 /\ d1 < hi := by rw [<- hd1e, hwp]; omega
      have hd2 : lo <= d2 /\ d2 < hi := by rw [<- hd2e, hwh, hwq]; split <;> omega
      refine ze rfl  hF ?_
      (refine za ?_; conv => whnf)
      refine ze rfl  hpk ?_
      (refine za ?_; conv => whnf)
      refine ze rfl  hp40 ?_
      (refine za ?_; conv => whnf)
      refine zf [4, 9, 12, 14, 15, 20, 147, 148, 149] ?_
      refine Eq.mpr (congrArg (fun v => SW E _ [(4, .ptr 0 0), (9, sB true), (12, .imm (zj l)), (14, .ptr 1 0), (15, sB true), (20, .imm (zj values)), (147, .imm (zj v)), (148, sI 2), (149, sI 0)] [zdh c, .cells [sI wday, .imm (ws whas), .imm (zj wval), .imm (zj l)]]) (show [IntKind.i64.wrap (lo + p), if IntKind.i64.wrap (lo + p40) < IntKind.i64.wrap (hi - 1) then IntKind.i64.wrap (lo + p40) else IntKind.i64.wrap (hi - 1)] = [d1, d2] by rw [hd1e, hd2e])) ?_
      refine zp [d1, d2] (fun i (_ : Unit) => [(4, .ptr 0 0), (9, sB true), (12, .imm (zj l)), (14, .ptr 1 0), (15, sB true), (20, .imm (zj values)), (147, .imm (zj [d1, d2])), (148, sI 2), (149, sI i)]) (fun _ _ => [zdh c, .cells [sI wday, .imm (ws whas), .imm (zj wval), .imm (zj l)]]) (fun _ _ _ => True) () trivial ?_ ?_
      ·rintro _ _
       (refine zg ?_; conv => whnf)
       exact hK _
      ·rintro done d rest _ hda hdl _ ih
       have hw1 := zm (n := done.length) (by simp at hdl; omega)
       have hdm : d = d1 \/ d = d2 := by
        have : d ∈ [d1, d2] := by rw [hda]; simp
        simpa using this
       have hdr : lo <= d /\ d < hi := by rcases hdm with rfl | rfl; exact hd1; exact hd2
       have hlt : done.length < 2 := by simp at hdl; omega
       have hrd : ([d1, d2].map fun n => [dI n])[done.length]? = some [dI d] := by rw [hda]; simp
       have hAd := hA hbs d values hFl
       (refine zg ?_; conv => whnf)
       repeat' ((with_reducible refine way ?_ ?_) <;> (intro h; conv => whnf))
       all_goals try (exfalso; omega)
       refine zh (i := done.length) (row := [dI d]) rfl rfl hrd ?_
       (refine za ?_; conv => whnf)
       refine ze rfl  hAd ?_
       cases hba : (yg c l).all (holdsE (yz d) values) with
       | false =>
        (refine za ?_; conv => whnf)
        rw [hw1]
        exact ys [4, 9, 12, 14, 15, 20, 147, 148, 149] 2 (by rw [hH]; exact Nat.zero_le 2) (Nat.le_refl 2) rfl rfl (ih () trivial)
       | true =>
        obtain ⟨z, e1, e2, e3, e4, e5⟩ := x4 _ hw
        have hLs := ych G0 d wday z (by omega) l
        rw [e5 d hdr.1 hdr.2 hba, <- e1, <- e2, <- e3] at hLs
        (refine za ?_; conv => whnf)
        refine ze rfl  hLs ?_
        (refine za ?_; conv => whnf)
        rw [hw1]
        exact ys [4, 9, 12, 14, 15, 20, 147, 148, 149] 2 (by rw [hH]; exact Nat.zero_le 2) (Nat.le_refl 2) rfl rfl (ih () trivial)
 all_goals
  (refine zg ?_; conv => whnf)
  refine ze rfl  yql ?_
  (refine za ?_; conv => whnf)
  refine ze rfl  hfw ?_
  (refine za ?_; conv => whnf)
  refine ze rfl  hV ?_
  (refine za ?_; conv => whnf)
  exact hK _
end Go.Proofs.YtblpjknmhajcgaaGreatDoor