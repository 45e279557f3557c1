/- Contracts of functions of the program, joined from THp, TDd, TEk, TEl, TDf: no condition. -/
import Derived.Test.YtblpjknmhajcgaaGreatDoorCM6
set_option linter.unusedSimpArgs false
set_option linter.unusedVariables false
set_option maxRecDepth 10000
set_option maxHeartbeats 8000000
namespace Go.Proofs.YtblpjknmhajcgaaGreatDoor
open Go Go.Sh
def fl (n : Int) : List Article -> Option Int
 | [] => none
 | a :: r => if a.number = n then some a.line else fl n r
theorem zph (n : Int) : ∀ (l : List Article) (i : Nat), (jl n l i = -1 /\ fl n l = none) \/ ((i : Int) <= jl n l i /\ ∃ a, l[(jl n l i).toNat - i]? = some a /\ a.number = n /\ fl n l = some a.line)
 | [], i => .inl ⟨rfl, rfl⟩
 | a :: r, i => by
  simp only [jl, fl]
  split
  ·rename_i h
   right
   exact ⟨by omega, a, by simp, h, rfl⟩
  ·rcases zph n r (i + 1) with ⟨h1, h2⟩ | ⟨h1, x, h2, h3, h4⟩
   ·left; exact ⟨h1, h2⟩
   ·right
    refine ⟨by omega, x, ?_, h3, h4⟩
    rw [show (jl n r (i + 1)).toNat - i = ((jl n r (i + 1)).toNat - (i + 1)) + 1 by omega]
    simpa using h2
abbrev yvk (nl : Int) (a : Article) : Prop := 1 <= a.number /\ a.number <= 1000000 /\ 0 <= a.line /\ a.line < nl
theorem zun (nl : Int) : ∀ (l : List Article) (m0 m : List (Int × Int)), ws nl l m0 = some m -> (∀ n, zt n m = (zt n m0).or (fl n l)) /\ ∀ a ∈ l, yvk nl a /\ zt a.number m = some a.line
 | [], m0, m, h => by
  simp only [ws, Option.some.injEq] at h
  subst h
  exact ⟨fun n => by simp [fl], fun a ha => by cases ha⟩
 | a :: r, m0, m, h => by
  simp only [ws] at h
  split at h
  ·rename_i hc
   have hm : ws nl r (ains a.number a.line m0) = some m /\ (zt a.number m0 = none \/ zt a.number m0 = some a.line) := by
    cases hl : zt a.number m0 with
    | none => rw [hl] at h; exact ⟨h, .inl rfl⟩
    | some x =>
     rw [hl] at h
     simp only at h
     split at h
     ·rename_i e; subst e; exact ⟨h, .inr rfl⟩
     ·cases h
   obtain ⟨g1, g2⟩ := zun nl r _ m hm.1
   have key : ∀ n, zt n m = (zt n m0).or (fl n (a :: r)) := by
    intro n
    rw [g1 n, jm]
    by_cases e : n = a.number
    ·subst e
     simp only [beq_self_eq_true, if_true, Option.some_or, fl]
     rcases hm.2 with h0 | h0 <;> rw [h0] <;> rfl
    ·rw [if_neg (by simpa using e)]
     simp only [fl]
     rw [if_neg (fun h => e h.symm)]
   refine ⟨key, fun b hb => ?_⟩
   rcases List.mem_cons.1 hb with rfl | hb
   ·refine ⟨hc, ?_⟩
    rw [key]
    simp only [fl, if_true]
    rcases hm.2 with h0 | h0 <;> rw [h0] <;> rfl
   ·exact g2 b hb
  ·cases h
theorem zop (nl : Int) : ∀ (l : List Article) (m0 : List (Int × Int)), (∀ a ∈ l, yvk nl a /\ (zt a.number m0).or (fl a.number l) = some a.line) -> ∃ m, ws nl l m0 = some m
 | [], m0, _ => ⟨m0, rfl⟩
 | a :: r, m0, h => by
  obtain ⟨hb, ha⟩ := h a (by simp)
  simp only [fl, if_true] at ha
  have h0 : zt a.number m0 = none \/ zt a.number m0 = some a.line := by
   cases hl : zt a.number m0 with
   | none => exact .inl rfl
   | some x => rw [hl] at ha; right; simpa using ha
  have hr : ∀ b ∈ r, yvk nl b /\ (zt b.number (ains a.number a.line m0)).or (fl b.number r) = some b.line := by
   intro b hbr
   obtain ⟨g1, g2⟩ := h b (by simp [hbr])
   refine ⟨g1, ?_⟩
   rw [jm]
   simp only [fl] at g2
   by_cases e : b.number = a.number
   ·rw [e] at g2 ⊢
    simp only [beq_self_eq_true, if_true, Option.some_or]
    rw [if_pos rfl] at g2
    rcases h0 with h0 | h0 <;> rw [h0] at g2 <;> simpa using g2
   ·rw [if_neg (by simpa using e)]
    rw [if_neg (fun h => e h.symm)] at g2
    exact g2
  obtain ⟨m, hm⟩ := zop nl r _ hr
  refine ⟨m, ?_⟩
  simp only [ws]
  rw [if_pos hb]
  rcases h0 with h0 | h0 <;> rw [h0]
  ·exact hm
  ·simp only [if_true]; exact hm
mutual
def zsu (P : Int -> Int -> ByteArray -> Int -> List Piece -> List Ex -> Bool) : Ex -> Bool
 | .mk op n u den ps ks => zhh P ks && P op n u den ps ks
def zhh (P : Int -> Int -> ByteArray -> Int -> List Piece -> List Ex -> Bool) : List Ex -> Bool
 | [] => true
 | k :: r => zsu P k && zhh P r
end
def zlc (c : Codex) (m : List (Int × Int)) (op n : Int) (u : ByteArray) (den : Int) (ps : List Piece) (ks : List Ex) : Bool := wt u && qo c m op n u den ps ks
theorem yih (c : Codex) (m : List (Int × Int)) (N : Nat) :
  (∀ e : Ex, SizeOf.sizeOf e < N -> ∀ d cnt : Int, ((jb c m e d cnt).1 = true ↔ (cnt + xc e <= 400 /\ d + zca e <= 41 /\ zsu (zlc c m) e = true)) /\ ((jb c m e d cnt).1 = true -> (jb c m e d cnt).2 = cnt + xc e)) /\
  (∀ ks : List Ex, SizeOf.sizeOf ks < N -> ∀ d cnt : Int, cnt <= 400 -> d <= 41 -> ((qe c m ks d cnt).1 = true ↔ (cnt + yf ks <= 400 /\ d + zbi ks <= 41 /\ zhh (zlc c m) ks = true)) /\ ((qe c m ks d cnt).1 = true -> (qe c m ks d cnt).2 = cnt + yf ks)) := by
 induction N with
 | zero => exact ⟨fun e h => by omega, fun e h => by omega⟩
 | succ N ih =>
  refine ⟨fun e he d cnt => ?_, fun ks hk d cnt hc hd => ?_⟩
  ·obtain ⟨op, n, u, den, ps, ks⟩ := e
   simp only [Ex.mk.sizeOf_spec] at he
   simp only [jb, xc, zca, zsu]
   split
   ·rename_i hc
    constructor
    ·constructor
     ·intro h; cases h
     ·rintro ⟨h1, h2, h3⟩
      rcases hc with h | h | h
      ·omega
      ·omega
      ·simp [zlc, h] at h3
    ·intro h; cases h
   ·rename_i hc
    have hu : wt u = true := by
     cases h : wt u with
     | true => rfl
     | false => exact absurd (.inr (.inr h)) hc
    obtain ⟨g1, g2⟩ := ih.2 ks (by omega) (d + 1) (cnt + 1) (by omega) (by omega)
    revert g1 g2
    cases qe c m ks (d + 1) (cnt + 1) with
    | mk b q =>
     cases b with
     | true =>
      intro g1 g2
      simp only at g1 g2 ⊢
      obtain ⟨k1, k2, k3⟩ := g1.1 trivial
      have k4 := g2 trivial
      constructor
      ·constructor
       ·intro h
        exact ⟨by omega, by omega, by simp [k3, zlc, hu, h]⟩
       ·rintro ⟨_, _, h3⟩
        simp [zlc, hu] at h3
        exact h3.2
      ·intro _; omega
     | false =>
      intro g1 _
      simp only at g1 ⊢
      constructor
      ·constructor
       ·intro h; cases h
       ·rintro ⟨h1, h2, h3⟩
        simp only [Bool.and_eq_true] at h3
        exact absurd (g1.2 ⟨by omega, by omega, h3.1⟩) (by simp)
      ·intro h; cases h
  ·cases ks with
   | nil =>
    simp only [qe, yf, zbi, zhh]
    exact ⟨⟨fun _ => ⟨by omega, by omega, trivial⟩, fun _ => trivial⟩, fun _ => by omega⟩
   | cons k r =>
    simp only [List.cons.sizeOf_spec] at hk
    obtain ⟨g1, g2⟩ := ih.1 k (by omega) d cnt
    simp only [qe, yf, zbi, zhh]
    revert g1 g2
    cases jb c m k d cnt with
    | mk b q =>
     cases b with
     | true =>
      intro g1 g2
      simp only at g1 g2 ⊢
      obtain ⟨k1, k2, k3⟩ := g1.1 trivial
      have k4 := g2 trivial
      subst k4
      obtain ⟨r1, r2⟩ := ih.2 r (by omega) d (cnt + xc k) (by omega) hd
      constructor
      ·rw [r1, k3]
       simp only [Bool.true_and]
       constructor
       ·rintro ⟨a1, a2, a3⟩; exact ⟨by omega, by omega, a3⟩
       ·rintro ⟨a1, a2, a3⟩; exact ⟨by omega, by omega, a3⟩
      ·intro h; have := r2 h; omega
     | false =>
      intro g1 _
      simp only at g1 ⊢
      constructor
      ·constructor
       ·intro h; cases h
       ·rintro ⟨h1, h2, h3⟩
        simp only [Bool.and_eq_true] at h3
        exact absurd (g1.2 ⟨by omega, by omega, h3.1⟩) (by simp)
      ·intro h; cases h
theorem ynd (c : Codex) (m : List (Int × Int)) (e : Ex) : (jb c m e 1 0).1 = (zck e && zsu (zlc c m) e) := by
 rw [Bool.eq_iff_iff, ((yih c m (SizeOf.sizeOf e + 1)).1 e (by omega) 1 0).1]
 simp only [zck, Bool.and_eq_true, decide_eq_true_eq]
 constructor
 ·rintro ⟨h1, h2, h3⟩; exact ⟨⟨by omega, by omega⟩, h3⟩
 ·rintro ⟨⟨h1, h2⟩, h3⟩; exact ⟨by omega, by omega, h3⟩
mutual
theorem yab (c : Codex) : ∀ e : Ex, zfd c e = zsu (zhk c) e
 | .mk op n u den ps ks => by simp only [zfd, zsu, zsb c ks]
theorem zsb (c : Codex) : ∀ ks : List Ex, znv c ks = zhh (zhk c) ks
 | [] => rfl
 | k :: r => by simp only [znv, zhh, yab c k, zsb c r]
end
theorem ypl : wt tT = true := by decide
theorem ypm : wt tN = true := by decide
theorem yii {u : ByteArray} (h : zeo u = true) : wt u = true := by simp [wt, h]
structure CodexRel (c : Codex) (m : List (Int × Int)) : Prop where
 facts : ∀ d ∈ c.facts, wt d.unit = true
 lines : ∀ d ∈ c.lines, wt d.unit = true
 look : ∀ n, zt n m = fl n c.arts
 line : ∀ a ∈ c.arts, 0 <= a.line /\ a.line < c.lines.length
theorem zsc {l : List Decl} (h : ∀ d ∈ l, wt d.unit = true) {i : Int} {u : ByteArray} (hu : zcs l i u = true) : wt u = true := by
 unfold zcs at hu
 split at hu
 ·rename_i d hd
  have := of_decide_eq_true hu
  subst this
  exact h d (List.mem_of_getElem? hd)
 ·cases hu
theorem ysi {c : Codex} {m : List (Int × Int)} (H : CodexRel c m) (op n : Int) (u : ByteArray) (hop : 1 <= op /\ op <= 4) (hu : wt u = true) : zav c.facts c.lines m op n u = zai c op n u := by
 have hc : op = 1 \/ op = 2 \/ op = 3 \/ op = 4 := by omega
 rcases hc with rfl | rfl | rfl | rfl
 ·simp [zav, zai, hu]
 ·simp [zav, zai]
 ·simp only [zav, zai]
  simp only [show ¬ (3 : Int) = 1 by omega, show ¬ (3 : Int) = 2 by omega, if_false, if_true]
  rw [H.look n]
  rcases zph n c.arts 0 with ⟨h1, h2⟩ | ⟨h1, a, h2, h3, h4⟩
  ·rw [h2, h1]
   cases c.arts[((-1 : Int)).toNat]? <;> simp
  ·rw [Nat.sub_zero] at h2
   rw [h4, h2]
   obtain ⟨g1, g2⟩ := H.line a (List.mem_of_getElem? h2)
   simp only [decide_eq_true (show (0 : Int) <= jl n c.arts 0 by omega), decide_eq_true g1, decide_eq_true g2, Bool.true_and]
 ·simp [zav, zai]
theorem yac {c : Codex} {m : List (Int × Int)} (H : CodexRel c m) {op n : Int} {u : ByteArray} (h : zai c op n u = true) : wt u = true := by
 simp only [zai] at h
 split at h
 ·simp only [Bool.and_eq_true] at h; exact h.1.1.1
 ·split at h
  ·simp only [Bool.and_eq_true] at h; exact zsc H.facts h.2
  ·split at h
   ·split at h
    ·simp only [Bool.and_eq_true] at h; exact zsc H.lines h.2
    ·cases h
   ·split at h
    ·simp only [Bool.and_eq_true, decide_eq_true_eq] at h
     rw [h.2]; exact ypm
    ·cases h
theorem yne {op : Int} {u : ByteArray} {f l : Ex} {len : Int} {s : Bool} (hf : wt f.unit = true) (hl : wt l.unit = true) (h : zak op u f l len s = true) : wt u = true := by
 have eT : u = tT -> wt u = true := fun e => by rw [e]; exact ypl
 have eF : u = f.unit -> wt u = true := fun e => by rw [e]; exact hf
 have eL : u = l.unit -> wt u = true := fun e => by rw [e]; exact hl
 simp only [zak] at h
 split at h
 ·simp only [Bool.and_eq_true, decide_eq_true_eq] at h; exact eT h.1.2
 split at h
 ·simp only [Bool.and_eq_true, decide_eq_true_eq] at h; exact eT h.1.1.2
 split at h
 ·simp only [Bool.and_eq_true, decide_eq_true_eq] at h; exact eT h.1.2
 split at h
 ·simp only [Bool.and_eq_true, decide_eq_true_eq] at h; exact eT h.1.2
 split at h
 ·simp only [Bool.and_eq_true, decide_eq_true_eq] at h; exact eF h.2
 split at h
 ·simp only [Bool.and_eq_true, decide_eq_true_eq] at h; exact eF h.2
 split at h
 ·simp only [Bool.and_eq_true, decide_eq_true_eq] at h
  have := h.2
  split at this
  ·exact eL this
  ·exact eF this
 split at h
 ·simp only [Bool.and_eq_true, decide_eq_true_eq] at h; exact eF h.2
 split at h
 ·simp only [Bool.and_eq_true, decide_eq_true_eq] at h; exact eL h.2
 ·cases h
theorem ynf {c : Codex} {m : List (Int × Int)} (H : CodexRel c m) (op n : Int) (u : ByteArray) (den : Int) (ps : List Piece) (ks : List Ex) (hk : ∀ k ∈ ks, wt k.unit = true) :
  zlc c m op n u den ps ks = zhk c op n u den ps ks := by
 have hunit : zhk c op n u den ps ks = true -> wt u = true := by
  intro h
  simp only [zhk] at h
  split at h
  ·simp only [Bool.and_eq_true] at h; exact yii h.1.1.2
  split at h
  ·cases h
  split at h
  ·simp only [Bool.and_eq_true] at h; exact yac H h.2
  ·simp only [Bool.and_eq_true] at h
   have h2 := h.2
   split at h2
   ·rename_i f l hf hl
    exact yne (hk f (List.mem_of_mem_head? hf)) (hk l (List.mem_of_getLast? hl)) h2
   ·cases h2
 cases hu : wt u with
 | false =>
  cases hn : zhk c op n u den ps ks with
  | false => simp [zlc, hu]
  | true => rw [hunit hn] at hu; cases hu
 | true =>
  simp only [zlc, hu, Bool.true_and, qo, zhk]
  split
  ·rfl
  split
  ·rfl
  split
  ·rename_i h4
   rw [ysi H op n u h4 hu]
  ·rfl
theorem yuf {c : Codex} {m : List (Int × Int)} (H : CodexRel c m) (N : Nat) :
  (∀ e : Ex, SizeOf.sizeOf e < N -> zsu (zlc c m) e = zsu (zhk c) e /\ (zsu (zlc c m) e = true -> wt e.unit = true)) /\
  (∀ ks : List Ex, SizeOf.sizeOf ks < N -> zhh (zlc c m) ks = zhh (zhk c) ks /\ (zhh (zlc c m) ks = true -> ∀ k ∈ ks, wt k.unit = true)) := by
 induction N with
 | zero => exact ⟨fun e h => by omega, fun e h => by omega⟩
 | succ N ih =>
  refine ⟨fun e he => ?_, fun ks hk => ?_⟩
  ·obtain ⟨op, n, u, den, ps, ks⟩ := e
   simp only [Ex.mk.sizeOf_spec] at he
   obtain ⟨h1, h2⟩ := ih.2 ks (by omega)
   simp only [zsu]
   rw [<- h1]
   cases hk : zhh (zlc c m) ks with
   | false => simp
   | true =>
    rw [ynf H op n u den ps ks (h2 hk)]
    refine ⟨rfl, fun h => ?_⟩
    rw [<- ynf H op n u den ps ks (h2 hk)] at h
    simp only [zlc, Bool.true_and, Bool.and_eq_true] at h
    exact h.1
  ·cases ks with
   | nil => exact ⟨rfl, fun _ k hk => by cases hk⟩
   | cons k r =>
    simp only [List.cons.sizeOf_spec] at hk
    obtain ⟨a1, a2⟩ := ih.1 k (by omega)
    obtain ⟨b1, b2⟩ := ih.2 r (by omega)
    simp only [zhh]
    rw [<- a1, <- b1]
    refine ⟨rfl, fun h x hx => ?_⟩
    simp only [Bool.and_eq_true] at h
    rcases List.mem_cons.1 hx with rfl | hx
    ·exact a2 h.1
    ·exact b2 h.2 x hx
theorem ysj {c : Codex} {m : List (Int × Int)} (H : CodexRel c m) (e : Ex) : (jb c m e 1 0).1 = wn c e := by
 rw [ynd, wn, yab, ((yuf H (SizeOf.sizeOf e + 1)).1 e (by omega)).1]
theorem yfe {c : Codex} {m : List (Int × Int)} (H : CodexRel c m) (e : Ex) (u : ByteArray) : (qf c m e u).1 = (wn c e && decide (e.unit = u)) := by
 unfold qf
 split
 ·rename_i h; rw [ysj H, decide_eq_true h, Bool.and_true]
 ·rename_i h; rw [decide_eq_false h, Bool.and_false]
theorem zmm {lo hi : Int} {l : List Decl} (h : qx lo hi l = true) : ∀ d ∈ l, wt d.unit = true := by
 intro d hd
 simp only [qx, Bool.and_eq_true, List.all_eq_true] at h
 have := h.1 d hd
 simp only [jw, Bool.and_eq_true] at this
 exact this.1.2
theorem ypn (c : Codex) : zio c = zw c := by
 cases hd1 : qx 0 0 c.facts with
 | false => simp [zio, zw, hd1]
 | true =>
 cases hd2 : qx 1 4 c.lines with
 | false => simp [zio, zw, hd2]
 | true =>
 by_cases hz : c.facts.length <= 32 /\ c.lines.length <= 32 /\ c.arts.length <= 60
 rotate_left
 ·have e1 : zio c = false := by
   cases h : zio c with
   | false => rfl
   | true => simp only [zio, Bool.and_eq_true, decide_eq_true_eq] at h; exact absurd ⟨h.1.1.1.2, h.1.1.2.2, h.1.2⟩ hz
  have e2 : zw c = false := by
   cases h : zw c with
   | false => rfl
   | true => simp only [zw, Bool.and_eq_true, decide_eq_true_eq] at h; exact absurd ⟨h.1.1.1.1.1, h.1.1.1.1.2, h.1.1.1.2⟩ hz
  rw [e1, e2]
 have e1 : zio c = c.arts.all (ji c) := by simp [zio, hd1, hd2, hz]
 have e2 : zw c = (match ws c.lines.length c.arts [] with | some m => c.arts.all (zkn c m) | none => false) := by
  simp only [zw, hd1, hd2, hz.1, hz.2.1, hz.2.2, decide_true, Bool.true_and]
  rfl
 rw [e1, e2]
 have hfirst : ∀ a ∈ c.arts, fl a.number c.arts = some (zdd c a.number) := by
  intro a ha
  rcases zph a.number c.arts 0 with ⟨h1, h2⟩ | ⟨h1, x, h2, h3, h4⟩
  ·exact absurd rfl ((znu a.number c.arts 0).1 h1 a ha)
  ·rw [Nat.sub_zero] at h2
   rw [h4]
   simp only [zdd, h2]
 cases hg : ws c.lines.length c.arts [] with
 | some m =>
  obtain ⟨g1, g2⟩ := zun _ _ _ _ hg
  have hrel : CodexRel c m := ⟨zmm hd1, zmm hd2, fun n => by rw [g1 n]; rfl, fun a ha => ⟨(g2 a ha).1.2.2.1, (g2 a ha).1.2.2.2⟩⟩
  simp only
  rw [Bool.eq_iff_iff, List.all_eq_true, List.all_eq_true]
  have key : ∀ a ∈ c.arts, ji c a = zkn c m a := by
   intro a ha
   obtain ⟨⟨b1, b2, b3, b4⟩, b5⟩ := g2 a ha
   have hl : a.line = zdd c a.number := by
    have := hfirst a ha
    rw [g1] at b5
    simp only [zt, Option.none_or] at b5
    rw [b5] at this
    simpa using this
   simp only [ji, zkn]
   rw [decide_eq_true ⟨b1, b2, b3, b4, hl⟩, Bool.true_and]
   have hu : a.unless_.all (fun n => decide (0 <= jl n c.arts 0)) = a.unless_.all (fun n => (zt n m).isSome) := by
    congr 1
    funext n
    rw [g1 n]
    rcases zph n c.arts 0 with ⟨h1, h2⟩ | ⟨h1, x, h2, h3, h4⟩
    ·rw [h1, h2]; rfl
    ·rw [h4, decide_eq_true (by omega)]; rfl
   have hw : a.when_.all (fun e => wn c e && decide (e.unit = tT)) = a.when_.all (fun e => (qf c m e tT).1) := by
    congr 1
    funext e
    rw [yfe hrel]
   rw [hu, hw, yfe hrel]
   cases zbz a <;> simp [Bool.and_comm, Bool.and_left_comm, Bool.and_assoc]
  constructor
  ·intro h a ha; rw [<- key a ha]; exact h a ha
  ·intro h a ha; rw [key a ha]; exact h a ha
 | none =>
  simp only
  cases h : c.arts.all (ji c) with
  | false => rfl
  | true =>
   exfalso
   rw [List.all_eq_true] at h
   obtain ⟨m, hm⟩ := zop c.lines.length c.arts [] (fun a ha => by
    have := h a ha
    simp only [ji, Bool.and_eq_true, decide_eq_true_eq] at this
    obtain ⟨⟨⟨⟨⟨t1, t2, t3, t4, t5⟩, _⟩, _⟩, _⟩, _⟩ := this
    refine ⟨⟨t1, t2, t3, t4⟩, ?_⟩
    simp only [zt, Option.none_or]
    rw [hfirst a ha, <- t5])
   rw [hm] at hg
   cases hg
theorem yij {G : List (Nat × D)} (c : Codex) (h : zw c = true) (hF : c.facts.length <= 12) (hw : ∀ a ∈ c.arts, a.when_.length <= 41) (vs : List Int) (hz : vs.length <= 100) (hv : ∀ v ∈ vs, 0 <= v /\ v < c.arts.length) :
  ∃ sl, zx Tryz.prog G 23 [c.sv, .imm (zl vs)] (.tup [sl, sB (zkb c vs)]) /\ (sl = zdp \/ ∃ ls, sl = .imm (ymq ls)) := by
 obtain ⟨m, hm, hc⟩ := zbn h
 obtain ⟨_, _, m', hm', h4⟩ := jh h
 have hN := zgu (c := c) hc (vs := vs)
 have hS := zgu (c := c) (P := fun e => xc e <= 400) (fun a ha e he => ((h4 a ha).2.2.1 e he).2) (vs := vs)
 have hwh : ∀ a ∈ c.arts, a.when_.length <= 100 := fun a ha => by have := hw a ha; omega
 unfold zkb
 cases hb : (yl c vs).all (simpE c) with
 | false => exact ⟨zdp, by rw [Bool.false_and]; exact yht G c (m := m) vs (by omega) hv hwh hN hb, .inl rfl⟩
 | true => exact ⟨_, by rw [Bool.true_and]; exact yce G c (m := m) vs hz hv hwh (fun e he => ⟨hN e he, hS e he⟩) (by omega) hb, .inr ⟨_, rfl⟩⟩
theorem zpi {c : Codex} {m : List (Int × Int)} : ∀ (N : Nat) (e : Ex), SizeOf.sizeOf e < N -> zen c m e -> e.unit = tT -> simpE c e = true -> readE c.facts.length e
 | 0, _, h, _, _, _ => by omega
 | N + 1, .mk op n u den ps ks, hN, h, hu, hs => by
  simp only [Ex.mk.sizeOf_spec] at hN
  have hu : u = tT := hu
  cases zjk h hu with
  | const h1 hk hu' =>
   subst h1 hk
   unfold readE
   trivial
  | fact h1 hk hr ht =>
   subst h1 hk
   unfold readE
   exact hr
  | neg k h1 hk hka hku =>
   subst h1 hk
   simp only [List.cons.sizeOf_spec] at hN
   have hsk : simpE c k = true := by
    rw [simpE.eq_def] at hs
    simpa only [show ¬ (5 : Int) = 1 by decide, show ¬ (5 : Int) = 2 by decide, if_false, if_true] using hs
   rw [readE.eq_def]
   exact zpi N k (by omega) hka hku hsk
  | conn k l h1 hk hka hla hku hlu =>
   subst hk
   simp only [List.cons.sizeOf_spec] at hN
   have hsE : simpE c (.mk op n u den ps [k, l]) = (simpE c k && simpE c l) := by
    rw [simpE.eq_def]
    simp only
    rw [if_neg (by omega), if_neg (by omega), if_neg (by omega), if_pos h1]
   rw [hsE, Bool.and_eq_true] at hs
   rw [readE.eq_def]
   simp only
   rw [if_neg (by omega), if_pos h1]
   exact ⟨zpi N k (by omega) hka hku hs.1, zpi N l (by omega) hla hlu hs.2⟩
  | cmp k l h1 hk hka hla =>
   subst hk
   rw [zfw h1] at hs
   simp only [Bool.and_eq_true, Bool.or_eq_true, decide_eq_true_eq] at hs
   have hlk := zei hka (zfb hs.1.1)
   have hll := zei hla (zfb hs.1.2)
   rw [readE.eq_def]
   simp only
   rw [if_neg (by omega), if_neg (by omega), if_neg (by omega), if_neg (by omega), if_pos h1]
   exact ⟨⟨fun e => ⟨(hlk.k2 e).1, (hlk.k2 e).2.1⟩, fun e => by have := hlk.k4 e; omega⟩, ⟨fun e => ⟨(hll.k2 e).1, (hll.k2 e).2.1⟩, fun e => by have := hll.k4 e; omega⟩⟩
  | other h1 h2 h3 h4 h5 =>
   exfalso
   unfold simpE at hs
   rw [if_neg h1, if_neg h2, if_neg h3, if_neg h4] at hs
   have hce : zhg op = false := by unfold zhg; simp; omega
   split at hs
   ·simp [hce] at hs
   ·cases hs
theorem yff {G : List (Nat × D)} {c : Codex} (h : zw c = true) (hF : c.facts.length <= 12) (hw : ∀ a ∈ c.arts, a.when_.length <= 41) (vs : List Int) (hz : vs.length <= 1000) (hv : ∀ v ∈ vs, 0 <= v /\ v < c.arts.length) (hb : zkb c vs = true) (day : Int) (values : List Int) (hl : values.length = c.facts.length) :
  zx Tryz.prog G 25 [c.sv, .imm (zl vs), sI day, .imm (zl values)] (sB ((yl c vs).all (holdsE (xe day) values))) := by
 obtain ⟨m, hm, hc⟩ := zbn h
 have hN := zgu (c := c) hc (vs := vs)
 unfold zkb at hb
 simp only [Bool.and_eq_true] at hb
 have hs := List.all_eq_true.1 hb.1
 exact yhn G c vs day values hz hv (fun a ha => by have := hw a ha; omega) (by omega) (fun e he => by rw [hl]; exact zpi _ e (Nat.lt_succ_self _) (hN e he).1 (hN e he).2 (hs e he))
variable (G : List (Nat × D))
theorem zws (den den' : Int) (a b : List Piece) (ha : a.length <= 1000000) (hb : b.length <= 1000000) :
  zx Tryz.prog G 150 [.agg [sI den, .imm (.isl 3 (a.map Piece.cells))], .agg [sI den', .imm (.isl 3 (b.map Piece.cells))]] (sB (decide (den = den') && decide (a.map Piece.key = b.map Piece.key))) := by
 refine zd Tryz.func150 rfl (by rw [Tryz.ntmps150]; simp) rfl rfl ?_; intro E hH hK
 have hla : (a.map Piece.cells).length = a.length := by simp
 have hlb : (b.map Piece.cells).length = b.length := by simp
 have hne : a.length ≠ b.length -> decide (a.map Piece.key = b.map Piece.key) = false := fun hn => by
  rw [decide_eq_false_iff_not]
  intro he
  have := congrArg List.length he
  simp only [List.length_map] at this
  omega
 by_cases hd : den = den'
 rotate_left
 ·rw [decide_eq_false hd, Bool.false_and] at hK
  (refine zf ?_; conv => whnf)
  repeat' ((with_reducible refine way ?_ ?_) <;> (intro h; conv => whnf))
  all_goals try (exfalso; omega)
  exact hK _
 rw [decide_eq_true hd, Bool.true_and] at hK
 by_cases hll : a.length = b.length
 rotate_left
 ·rw [hne hll] at hK
  (refine zf ?_; conv => whnf)
  repeat' ((with_reducible refine way ?_ ?_) <;> (intro h; conv => whnf))
  all_goals try (exfalso; omega)
  all_goals exact hK _
 (refine zf ?_; conv => whnf)
 repeat' ((with_reducible refine way ?_ ?_) <;> (intro h; conv => whnf))
 all_goals try (exfalso; omega)
 refine zg [2, 3, 5] ?_
 change SW E _ [(2, .ptr 0 0), (3, .ptr 1 0), (5, sI 0)] [.cells [sI den, .imm (.isl 3 (a.map Piece.cells))], .cells [sI den', .imm (.isl 3 (b.map Piece.cells))]]
 refine zq a (fun i (_ : Unit) => [(2, .ptr 0 0), (3, .ptr 1 0), (5, sI i)]) (fun _ _ => [.cells [sI den, .imm (.isl 3 (a.map Piece.cells))], .cells [sI den', .imm (.isl 3 (b.map Piece.cells))]])
  (fun done _ _ => done.map Piece.key = (b.take done.length).map Piece.key) () (by simp) ?_ ?_
 ·rintro _ h1
  (refine zf ?_; conv => whnf)
  repeat' ((with_reducible refine way ?_ ?_) <;> (intro h; conv => whnf))
  all_goals try (exfalso; omega)
  rw [hll, List.take_length] at h1
  rw [decide_eq_true h1] at hK
  exact hK _
 ·rintro done x rest _ hda hdl h1 ih
  have hw := zm (n := done.length) (by omega)
  have hlt : done.length < b.length := by rw [<- hll, hda]; simp
  obtain ⟨y, hy⟩ : ∃ y, b[done.length]? = some y := ⟨_, List.getElem?_eq_getElem hlt⟩
  (refine zf ?_; conv => whnf)
  repeat' ((with_reducible refine way ?_ ?_) <;> (intro h; conv => whnf))
  all_goals try (exfalso; omega)
  (refine zu 0 mixed rfl ?_; refine zb [777] (nx := 2) ?_; conv => whnf)
  refine zr (i := done.length) (row := x.cells) rfl (show 2 <= 2 by decide) rfl (by simp [hda]) ?_
  (refine zb [777] (nx := 2) ?_; conv => whnf)
  refine zr (i := done.length) (row := y.cells) rfl (show 2 <= 2 by decide) rfl (by simp [hy]) ?_
  (refine zb [777] (nx := 2) ?_; conv => whnf)
  refine ykn rfl rfl (ztk rfl rfl rfl rfl Tryz.stoodInHeld189 (by decide) (by decide) (by decide) rfl rfl rfl rfl rfl rfl Tryz.eqGuardType189) ?_
  refine jn (by kernel_rfl) ?_
  have htk : b.take (done.length + 1) = b.take done.length ++ [y] := by rw [List.take_add_one, hy]; rfl
  by_cases he : Piece.key x = Piece.key y
  ·have : (!(decide (x.lo = y.lo) && (decide (x.at_ = y.at_) && decide (x.slope = y.slope)))) = false := by
    simp only [Piece.key, Prod.mk.injEq] at he
    simp [he]
   rw [this]
   (refine zf ?_; conv => whnf)
   rw [hw]
   refine yr [2, 3, 5] 2 (by rw [hH]; exact Nat.zero_le 2) (Nat.le_refl 2) rfl rfl (ih () ?_)
   rw [List.map_append, h1, List.length_append]
   show _ = List.map Piece.key (b.take (done.length + 1))
   rw [htk]
   simp [he]
  ·have : (!(decide (x.lo = y.lo) && (decide (x.at_ = y.at_) && decide (x.slope = y.slope)))) = true := by
    simp only [Piece.key, Prod.mk.injEq] at he
    simp only [Bool.not_eq_true', Bool.and_eq_false_iff, decide_eq_false_iff_not]
    by_cases h2 : x.lo = y.lo
    ·by_cases h3 : x.at_ = y.at_
     ·exact .inr (.inr fun h4 => he ⟨h2, h3, h4⟩)
     ·exact .inr (.inl h3)
    ·exact .inl h2
   rw [this]
   (refine zf ?_; conv => whnf)
   have : decide (a.map Piece.key = b.map Piece.key) = false := by
    rw [decide_eq_false_iff_not]
    intro h2
    apply he
    have h3 : (a.map Piece.key)[done.length]? = some (Piece.key x) := by simp [hda]
    rw [h2, List.getElem?_map, hy] at h3
    exact (Option.some.inj h3).symm
   rw [this] at hK
   exact hK _
theorem zsd : ∀ (N : Nat) (e e' : Ex), SizeOf.sizeOf e < N -> zhi e -> zhi e' -> zx Tryz.prog G 121 [e.sv, e'.sv] (sB (zhd e e'))
 | 0, _, _, h, _, _ => by omega
 | N + 1, .mk op n u den ps ks, .mk op' n' u' den' ps' ks', hN, hl, hl' => by
  unfold zhi at hl hl'
  obtain ⟨l1, l2, l3⟩ := hl
  obtain ⟨m1, m2, m3⟩ := hl'
  simp only [Ex.mk.sizeOf_spec] at hN
  have hk : ∀ e ∈ ks, ∀ e' ∈ ks', zx Tryz.prog G 121 [e.sv, e'.sv] (sB (zhd e e')) := fun e he e' he' => by
   have := List.sizeOf_lt_of_mem he
   exact zsd N e e' (by omega) (qn l3 e he) (qn m3 e' he')
  have h1 := zws G den den' ps ps' l1 m1
  have hx : zhd (.mk op n u den ps ks) (.mk op' n' u' den' ps' ks') = (decide (op = op') && decide (n = n') && decide (u = u') && (decide (den = den') && decide (ps.map Piece.key = ps'.map Piece.key)) && zlm ks ks') := by rw [zhd]; simp only [Bool.and_assoc]
  have hla : (zc ks).length = ks.length := by rw [zp]; simp
  have hlb : (zc ks').length = ks'.length := by rw [zp]; simp
  rw [hx]
  generalize (decide (den = den') && decide (ps.map Piece.key = ps'.map Piece.key)) = z1 at h1
  refine zd Tryz.func121 rfl (by rw [Tryz.ntmps121]; simp) rfl rfl ?_; intro E hH hK
  by_cases g1 : op = op'
  rotate_left
  ·rw [decide_eq_false g1] at hK
   (refine zf ?_; conv => whnf)
   repeat' ((with_reducible refine way ?_ ?_) <;> (intro h; conv => whnf))
   all_goals try (exfalso; omega)
   exact hK _
  by_cases g2 : n = n'
  rotate_left
  ·rw [decide_eq_false g2, Bool.and_false] at hK
   (refine zf ?_; conv => whnf)
   repeat' ((with_reducible refine way ?_ ?_) <;> (intro h; conv => whnf))
   all_goals try (exfalso; omega)
   all_goals exact hK _
  by_cases g3 : u = u'
  rotate_left
  ·rw [decide_eq_false g3, Bool.and_false] at hK
   (refine zf ?_; conv => whnf)
   repeat' ((with_reducible refine way ?_ ?_) <;> (intro h; conv => whnf))
   all_goals try (exfalso; omega)
   all_goals try contradiction
   all_goals exact hK _
  rw [decide_eq_true g1, decide_eq_true g2, decide_eq_true g3] at hK
  (refine zf ?_; conv => whnf)
  repeat' ((with_reducible refine way ?_ ?_) <;> (intro h; conv => whnf))
  all_goals try (exfalso; omega)
  all_goals try contradiction
  refine ze rfl  h1 ?_
  cases z1 <;> ((refine za ?_; conv => whnf))
  ·exact hK _
  by_cases hll : ks.length = ks'.length
  rotate_left
  ·rw [zqv hll] at hK
   repeat' ((with_reducible refine way ?_ ?_) <;> (intro h; conv => whnf))
   all_goals try (exfalso; omega)
   exact hK _
  repeat' ((with_reducible refine way ?_ ?_) <;> (intro h; conv => whnf))
  all_goals try (exfalso; omega)
  refine zg [2, 3, 5] ?_
  change SW E _ [(2, .ptr 0 0), (3, .ptr 1 0), (5, sI 0)] [.cells [sI op, sI n, sS u, sI den, .imm (.isl 3 (ps.map Piece.cells)), .imm (.isl 6 (zc ks))], .cells [sI op', sI n', sS u', sI den', .imm (.isl 3 (ps'.map Piece.cells)), .imm (.isl 6 (zc ks'))]]
  refine zq ks (fun i (_ : Unit) => [(2, .ptr 0 0), (3, .ptr 1 0), (5, sI i)]) (fun _ _ => [.cells [sI op, sI n, sS u, sI den, .imm (.isl 3 (ps.map Piece.cells)), .imm (.isl 6 (zc ks))], .cells [sI op', sI n', sS u', sI den', .imm (.isl 3 (ps'.map Piece.cells)), .imm (.isl 6 (zc ks'))]])
   (fun done rest _ => zlm ks ks' = zlm rest (ks'.drop done.length)) () (by simp) ?_ ?_
  ·rintro _ h2
   (refine zf ?_; conv => whnf)
   repeat' ((with_reducible refine way ?_ ?_) <;> (intro h; conv => whnf))
   all_goals try (exfalso; omega)
   rw [hll, List.drop_length] at h2
   rw [h2] at hK
   exact hK _
  ·rintro done x rest _ hda hdl h2 ih
   have hw := zm (n := done.length) (by omega)
   have hlt : done.length < ks'.length := by rw [<- hll, hda]; simp
   obtain ⟨y, hy⟩ : ∃ y, ks'[done.length]? = some y := ⟨_, List.getElem?_eq_getElem hlt⟩
   have hcall := hk x (by rw [hda]; simp) y (List.mem_of_getElem? hy)
   have hdr : ks'.drop done.length = y :: ks'.drop (done.length + 1) := by
    rw [List.drop_eq_getElem_cons hlt]
    rw [List.getElem?_eq_getElem hlt] at hy
    rw [Option.some.inj hy]
   rw [hdr, zlm] at h2
   have hrx : (zc ks)[done.length]? = some x.cells := by rw [zp]; simp [hda]
   have hry : (zc ks')[done.length]? = some y.cells := by rw [zp]; simp [hy]
   generalize zhd x y = z at hcall h2
   obtain ⟨xo, xn, xu, xd, xp, xk⟩ := x
   obtain ⟨yo, yn, yu, yd, yp, yk⟩ := y
   (refine zf ?_; conv => whnf)
   repeat' ((with_reducible refine way ?_ ?_) <;> (intro h; conv => whnf))
   all_goals try (exfalso; omega)
   (refine zu 0 mixed rfl ?_; refine zb [777] (nx := 2) ?_; conv => whnf)
   refine zr (i := done.length) (row := [dI xo, dI xn, dS xu, dI xd, .isl 3 (xp.map Piece.cells), .isl 6 (zc xk)]) rfl (show 2 <= 2 by decide) rfl hrx ?_
   (refine zb [777] (nx := 2) ?_; conv => whnf)
   refine zr (i := done.length) (row := [dI yo, dI yn, dS yu, dI yd, .isl 3 (yp.map Piece.cells), .isl 6 (zc yk)]) rfl (show 2 <= 2 by decide) rfl hry ?_
   (refine zb [777] (nx := 2) ?_; conv => whnf)
   refine yq rfl (show 2 <= 2 by decide) hcall ?_
   (refine zb [777, 60] (nx := 2) ?_; conv => whnf)
   refine qw ⟨sB (!z), [], none⟩ rfl rfl (show 2 <= 2 by decide) (fun _ _ _ => rfl) ?_
   refine jn (by kernel_rfl) ?_
   cases z <;> ((refine zf ?_; conv => whnf))
   ·rw [h2, Bool.false_and] at hK
    exact hK _
   ·rw [hw]
    refine yr [2, 3, 5] 2 (by rw [hH]; exact Nat.zero_le 2) (Nat.le_refl 2) rfl rfl (ih () ?_)
    rw [h2, Bool.true_and, List.length_append]
    rfl
theorem ziq (l ps : List Ex) (hp : zcu ps) (hl : zcu l) (hz : l.length <= 1000000) (hpz : ps.length <= 1000000) :
  zx Tryz.prog G 87 [.imm (ye l), .imm (ye ps)] (sB (zfg l ps)) := by
 refine zd Tryz.func87 rfl (by rw [Tryz.ntmps87]; simp) rfl rfl ?_; intro E hH hK
 have hla : (ps.map Ex.cells).length = ps.length := by simp
 have hlb : (l.map Ex.cells).length = l.length := by simp
 (refine zf ?_; conv => whnf)
 refine zg [0, 1, 5] ?_
 change SW E _ [(0, .imm (ye l)), (1, .imm (ye ps)), (5, sI 0)] []
 refine zq ps (fun i (_ : Unit) => [(0, .imm (ye l)), (1, .imm (ye ps)), (5, sI i)]) (fun _ _ => [])
  (fun done rest _ => ∀ p ∈ done, l.any (fun e => zhd e p) = true) () (by simp) ?_ ?_
 ·rintro _ h1
  (refine zf ?_; conv => whnf)
  repeat' ((with_reducible refine way ?_ ?_) <;> (intro h; conv => whnf))
  all_goals try (exfalso; omega)
  have : zfg l ps = true := List.all_eq_true.2 h1
  rw [this] at hK
  exact hK _
 ·rintro done x rest _ hda hdl h1 ih
  have hw := zm (n := done.length) (by omega)
  have hrx : (ps.map Ex.cells)[done.length]? = some x.cells := by simp [hda]
  have hxm : x ∈ ps := by rw [hda]; simp
  have hno : l.any (fun e => zhd e x) = false -> zfg l ps = false := fun h => by
   cases h2 : zfg l ps with
   | false => rfl
   | true => rw [List.all_eq_true.1 h2 x hxm] at h; cases h
  have hnxt : l.any (fun e => zhd e x) = true -> ∀ p ∈ done ++ [x], l.any (fun e => zhd e p) = true := fun h e he => by
   rcases List.mem_append.1 he with he | he
   ·exact h1 e he
   ·simp at he; rw [he]; exact h
  have hE := fun e he => zsd G _ e x (Nat.lt_succ_self _) (qn hl e he) (qn hp x hxm)
  obtain ⟨xo, xn, xu, xd, xp, xk⟩ := x
  (refine zf ?_; conv => whnf)
  repeat' ((with_reducible refine way ?_ ?_) <;> (intro h; conv => whnf))
  all_goals try (exfalso; omega)
  refine zg [0, 1, 5, 6, 7] ?_
  change SW E _ [(0, .imm (ye l)), (1, .imm (ye ps)), (5, sI done.length), (6, sB false), (7, sI 0)] []
  refine zq l (fun i (fd : Bool) => [(0, .imm (ye l)), (1, .imm (ye ps)), (5, sI done.length), (6, sB fd), (7, sI i)]) (fun _ _ => [])
   (fun dn _ fd => fd = dn.any (fun e => zhd e (.mk xo xn xu xd xp xk))) false rfl ?_ ?_
  ·rintro fd h2
   cases fd with
   | false =>
    rw [hno h2.symm] at hK
    (refine zf ?_; conv => whnf)
    repeat' ((with_reducible refine way ?_ ?_) <;> (intro h; conv => whnf))
    all_goals try (exfalso; omega)
    exact hK _
   | true =>
    (refine zf ?_; conv => whnf)
    repeat' ((with_reducible refine way ?_ ?_) <;> (intro h; conv => whnf))
    all_goals try (exfalso; omega)
    rw [hw]
    exact zg [0, 1, 5] (ih () (hnxt h2.symm))
  ·rintro dn y rs fd hdy hdly h2 ihy
   have hwy := zm (n := dn.length) (by omega)
   have hym : y ∈ l := by rw [hdy]; simp
   have hry : (l.map Ex.cells)[dn.length]? = some y.cells := by simp [hdy]
   cases fd with
   | true =>
    have : l.any (fun e => zhd e (.mk xo xn xu xd xp xk)) = true := by rw [hdy, List.any_append, <- h2]; rfl
    (refine zf ?_; conv => whnf)
    repeat' ((with_reducible refine way ?_ ?_) <;> (intro h; conv => whnf))
    all_goals try (exfalso; omega)
    rw [hw]
    exact zg [0, 1, 5] (ih () (hnxt this))
   | false =>
    have hcall := hE y hym
    have hsn : (dn ++ [y]).any (fun e => zhd e (.mk xo xn xu xd xp xk)) = zhd y (.mk xo xn xu xd xp xk) := by rw [List.any_append, <- h2]; simp
    rw [hsn] at ihy
    generalize zhd y (.mk xo xn xu xd xp xk) = z at hcall ihy
    obtain ⟨yo, yn, yu, yd, yp, yk⟩ := y
    (refine zf ?_; conv => whnf)
    repeat' ((with_reducible refine way ?_ ?_) <;> (intro h; conv => whnf))
    all_goals try (exfalso; omega)
    (refine zu 0 mixed rfl ?_; refine zb [777] (nx := 0) ?_; conv => whnf)
    refine zr (i := dn.length) (row := [dI yo, dI yn, dS yu, dI yd, .isl 3 (yp.map Piece.cells), .isl 6 (zc yk)]) rfl (show 0 <= 0 by decide) rfl hry ?_
    (refine zb [777] (nx := 0) ?_; conv => whnf)
    refine zr (i := done.length) (row := [dI xo, dI xn, dS xu, dI xd, .isl 3 (xp.map Piece.cells), .isl 6 (zc xk)]) rfl (show 0 <= 0 by decide) rfl hrx ?_
    (refine zb [777] (nx := 0) ?_; conv => whnf)
    refine yq rfl (show 0 <= 0 by decide) hcall ?_
    (refine zb [777, 6] (nx := 0) ?_; conv => whnf)
    refine qw ⟨sB z, [], none⟩ rfl rfl (show 0 <= 0 by decide) (fun _ _ _ => rfl) ?_
    refine jn (by kernel_rfl) ?_
    (refine zf ?_; conv => whnf)
    rw [hwy]
    exact zg [0, 1, 5, 6, 7] (ihy z rfl)
theorem zoq (c : Codex) (hc : BeatC c) (i j : Int) (hi : 0 <= i /\ i < c.arts.length) (hj : 0 <= j /\ j < c.arts.length) : zx Tryz.prog G 57 [c.sv, sI i, sI j] (sB (qm c i j)) := by
  have hal : (c.arts.map Article.cells).length = c.arts.length := by simp
  have hz := hc.arts
  obtain ⟨a, ha⟩ : ∃ a, c.arts[i.toNat]? = some a := ⟨_, List.getElem?_eq_getElem (by omega)⟩
  obtain ⟨b, hb⟩ : ∃ b, c.arts[j.toNat]? = some b := ⟨_, List.getElem?_eq_getElem (by omega)⟩
  have hai : wy c i = some a := by unfold wy; rw [if_neg (by omega)]; exact ha
  have hbj : wy c j = some b := by unfold wy; rw [if_neg (by omega)]; exact hb
  have hbe : qm c i j = (if a.line ≠ b.line \/ a.number = b.number then false
    else if a.rank ≠ b.rank then decide (b.rank < a.rank)
    else if zfg a.when_ b.when_ ≠ zfg b.when_ a.when_ then zfg a.when_ b.when_
    else decide (b.known < a.known)) := by unfold qm; rw [hai, hbj]
  have ham := List.mem_of_getElem? ha
  have hbm := List.mem_of_getElem? hb
  have c1 := ziq G a.when_ b.when_ (hc.exs b hbm) (hc.exs a ham) (hc.len a ham) (hc.len b hbm)
  have c2 := ziq G b.when_ a.when_ (hc.exs a ham) (hc.exs b hbm) (hc.len b hbm) (hc.len a ham)
  rw [hbe]
  generalize zfg a.when_ b.when_ = z1 at c1
  generalize zfg b.when_ a.when_ = z2 at c2
  obtain ⟨op, n, u, den, ps, ks, hamt⟩ := jk a
  obtain ⟨op', n', u', den', ps', ks', hbmt⟩ := jk b
  have hra := zhf c ha hamt
  have hrb := zhf c hb hbmt
  refine zd Tryz.func57 rfl (by rw [Tryz.ntmps57]; simp) rfl (by split; rfl; split; rfl; split <;> rfl) ?_
  intro E hH hK
  rw [show c.sv = .agg [.imm (zk c.facts), .imm (zk c.lines), .imm (ys c.arts)] from rfl]
  (refine zf ?_; conv => whnf)
  repeat' ((with_reducible refine way ?_ ?_) <;> (intro h; conv => whnf))
  all_goals try (exfalso; omega)
  refine zh (i := i.toNat) (row := [dI a.number, dI a.line, dI a.rank, dI a.lo, dI a.hi, dI a.known, ye a.when_, zl a.unless_, dI op, dI n, dS u, dI den, .isl 3 (ps.map Piece.cells), .isl 6 (zc ks)]) rfl (Int.toNat_of_nonneg hi.1).symm hra ?_
  (refine za ?_; conv => whnf)
  refine zh (i := j.toNat) (row := [dI b.number, dI b.line, dI b.rank, dI b.lo, dI b.hi, dI b.known, ye b.when_, zl b.unless_, dI op', dI n', dS u', dI den', .isl 3 (ps'.map Piece.cells), .isl 6 (zc ks')]) rfl (Int.toNat_of_nonneg hj.1).symm hrb ?_
  (refine za ?_; conv => whnf)
  by_cases g1 : a.line ≠ b.line \/ a.number = b.number
  · rw [if_pos g1] at hK
    repeat' ((with_reducible refine way ?_ ?_) <;> (intro h; conv => whnf))
    all_goals try (exfalso; omega)
    all_goals exact hK _
  rw [if_neg g1] at hK
  by_cases g2 : a.rank ≠ b.rank
  · rw [if_pos g2] at hK
    repeat' ((with_reducible refine way ?_ ?_) <;> (intro h; conv => whnf))
    all_goals try (exfalso; omega)
    all_goals exact hK _
  rw [if_neg g2] at hK
  repeat' ((with_reducible refine way ?_ ?_) <;> (intro h; conv => whnf))
  all_goals try (exfalso; omega)
  refine ze rfl  c1 ?_
  (refine za ?_; conv => whnf)
  refine ze rfl  c2 ?_
  (refine za ?_; conv => whnf)
  cases z1 <;> cases z2 <;> (conv => whnf) <;> exact hK _
theorem znw (c : Codex) (hc : BeatC c) (hu : ∀ a ∈ c.arts, a.unless_.length <= 1000000) (i j : Int) (hi : 0 <= i /\ i < c.arts.length) (hj : 0 <= j /\ j < c.arts.length) :
  zx Tryz.prog G 30 [c.sv, sI i, sI j] (sB (zad c i j)) := by
 have hal : (c.arts.map Article.cells).length = c.arts.length := by simp
 obtain ⟨a, ha⟩ : ∃ a, c.arts[i.toNat]? = some a := ⟨_, List.getElem?_eq_getElem (by omega)⟩
 obtain ⟨b, hb⟩ : ∃ b, c.arts[j.toNat]? = some b := ⟨_, List.getElem?_eq_getElem (by omega)⟩
 have hai : wy c i = some a := by unfold wy; rw [if_neg (by omega)]; exact ha
 have hbj : wy c j = some b := by unfold wy; rw [if_neg (by omega)]; exact hb
 have hco : zad c i j = (decide (a.line = b.line) && !decide (a.number = b.number) && !qm c i j && !qm c j i && !decide (b.number ∈ a.unless_) && !decide (a.number ∈ b.unless_)) := by
  unfold zad
  rw [hai, hbj]
 have b1 := zoq G c hc i j hi hj
 have b2 := zoq G c hc j i hj hi
 have i1 := zrm G a.unless_ b.number (by have := hu a (List.mem_of_getElem? ha); omega)
 have i2 := zrm G b.unless_ a.number (by have := hu b (List.mem_of_getElem? hb); omega)
 rw [hco]
 generalize qm c i j = z1 at b1
 generalize qm c j i = z2 at b2
 generalize decide (b.number ∈ a.unless_) = z3 at i1
 generalize decide (a.number ∈ b.unless_) = z4 at i2
 obtain ⟨op, n, u, den, ps, ks, hamt⟩ := jk a
 obtain ⟨op', n', u', den', ps', ks', hbmt⟩ := jk b
 have hra := zhf c ha hamt
 have hrb := zhf c hb hbmt
 refine zd Tryz.func30 rfl (by rw [Tryz.ntmps30]; simp) rfl rfl ?_; intro E hH hK
 rw [show c.sv = .agg [.imm (zk c.facts), .imm (zk c.lines), .imm (ys c.arts)] from rfl]
 (refine zf ?_; conv => whnf)
 refine zh (i := i.toNat) (row := [dI a.number, dI a.line, dI a.rank, dI a.lo, dI a.hi, dI a.known, ye a.when_, zl a.unless_, dI op, dI n, dS u, dI den, .isl 3 (ps.map Piece.cells), .isl 6 (zc ks)]) rfl (Int.toNat_of_nonneg hi.1).symm hra ?_
 (refine za ?_; conv => whnf)
 refine zh (i := j.toNat) (row := [dI b.number, dI b.line, dI b.rank, dI b.lo, dI b.hi, dI b.known, ye b.when_, zl b.unless_, dI op', dI n', dS u', dI den', .isl 3 (ps'.map Piece.cells), .isl 6 (zc ks')]) rfl (Int.toNat_of_nonneg hj.1).symm hrb ?_
 (refine za ?_; conv => whnf)
 refine ze rfl  b1 ?_
 (refine za ?_; conv => whnf)
 refine ze rfl  b2 ?_
 (refine za ?_; conv => whnf)
 by_cases g1 : a.line = b.line
 rotate_left
 ·rw [decide_eq_false g1] at hK
  repeat' ((with_reducible refine way ?_ ?_) <;> (intro h; conv => whnf))
  all_goals try (exfalso; omega)
  exact hK _
 by_cases g2 : a.number = b.number
 ·rw [decide_eq_true g2, Bool.not_true, Bool.and_false] at hK
  repeat' ((with_reducible refine way ?_ ?_) <;> (intro h; conv => whnf))
  all_goals try (exfalso; omega)
  all_goals exact hK _
 rw [decide_eq_true g1, decide_eq_false g2] at hK
 cases z1
 rotate_left
 ·repeat' ((with_reducible refine way ?_ ?_) <;> (intro h; conv => whnf))
  all_goals try (exfalso; omega)
  all_goals exact hK _
 cases z2
 rotate_left
 ·repeat' ((with_reducible refine way ?_ ?_) <;> (intro h; conv => whnf))
  all_goals try (exfalso; omega)
  all_goals exact hK _
 repeat' ((with_reducible refine way ?_ ?_) <;> (intro h; conv => whnf))
 all_goals try (exfalso; omega)
 refine ze rfl  i1 ?_
 cases z3 <;> ((refine za ?_; conv => whnf))
 rotate_left
 ·exact hK _
 refine ze rfl  i2 ?_
 cases z4 <;> ((refine za ?_; conv => whnf))
 ·exact hK _
 ·exact hK _
theorem zse {n : Nat} {p : Int × Int} : p ∈ zqs n ↔ 0 <= p.1 /\ p.1 < p.2 /\ p.2 < n := by
 unfold zqs
 simp only [List.mem_flatMap, List.mem_map, List.mem_filter, List.mem_range, decide_eq_true_eq]
 constructor
 ·rintro ⟨i, hi, j, ⟨hj, hij⟩, rfl⟩
  simp only
  omega
 ·rintro ⟨h1, h2, h3⟩
  refine ⟨p.1.toNat, by omega, p.2.toNat, ⟨by omega, by omega⟩, ?_⟩
  ext <;> simp only <;> omega
theorem yik {c : Codex} (h : zw c = true) {i j : Int} {v : View} (hc : jo c = some (i, j, v)) : 0 <= i /\ i < j /\ j < c.arts.length /\ zad c i j = true /\ xf c [i, j] = some v := by
 unfold jo at hc
 rw [if_pos h] at hc
 obtain ⟨p, hp, he⟩ := List.exists_of_findSome?_eq_some hc
 obtain ⟨h1, h2, h3⟩ := zse.1 hp
 obtain ⟨x, y⟩ := p
 simp only at he h1 h2 h3
 split at he
 ·rename_i hco
  cases hw : xf c [x, y] with
  | none => rw [hw] at he; cases he
  | some w =>
   rw [hw] at he
   simp only [Option.map_some, Option.some.injEq, Prod.mk.injEq] at he
   obtain ⟨rfl, rfl, rfl⟩ := he
   exact ⟨h1, h2, h3, hco, hw⟩
 ·cases he
theorem yil {c : Codex} (h : zw c = true) (hc : jo c = none) {i j : Int} (h1 : 0 <= i) (h2 : i < j) (h3 : j < c.arts.length) (hco : zad c i j = true) : xf c [i, j] = none := by
 unfold jo at hc
 rw [if_pos h, List.findSome?_eq_none_iff] at hc
 have := hc (i, j) (zse.2 ⟨h1, h2, h3⟩)
 simp only [hco, if_true, Option.map_eq_none_iff] at this
 exact this
theorem clashLaw_spec (c : Codex) (hfit : Codex.fit c) (hsz : c.facts.length <= 9223372036854775807 /\ c.lines.length <= 9223372036854775807 /\ c.arts.length <= 9223372036854775807) (day : Int) (hd0 : -9223372036854775808 <= day /\ day <= 9223372036854775807)
  (numbers : List Int) (hn : ∀ n ∈ numbers, -9223372036854775808 <= n /\ n <= 9223372036854775807) :
  zx Tryz.prog G0 5 [c.sv, sI day, .imm (zl numbers)] (sB true) := by
 have hal : (c.arts.map Article.cells).length = c.arts.length := by simp
 have hfl : (c.facts.map Decl.cells).length = c.facts.length := by simp
 have hfw := yib c
 have hV := zst G0 c hsz.1 hsz.2.1 hsz.2.2 hfit
 rw [ypn] at hV
 refine zd Tryz.func5 rfl (by rw [Tryz.ntmps5]; simp) rfl rfl ?_; intro E hH hK
 rw [show c.sv = .agg [.imm (zk c.facts), .imm (zk c.lines), .imm (ys c.arts)] from rfl]
 cases hb1 : ytw c <;> rw [hb1] at hfw <;> cases hb2 : zw c <;> rw [hb2] at hV
 case true.true =>
  obtain ⟨f1, f2, f3, f4⟩ := yna hb1
  have hw40 : ∀ a ∈ c.arts, a.when_.length <= 41 := fun a ha => (f4 a ha).1
  have hSC := znl hb2 f2 f4
  have hBC : BeatC c := ⟨by omega, fun a ha => by have := f4 a ha; omega, hSC.need.exs⟩
  have hCl := zry c hfit (fun _ => hSC) (by omega)
  have hCo := fun i j hi hj => znw G0 c hBC (fun a ha => by have := f4 a ha; omega) i j hi hj
  have hpair : ∀ {i j : Int}, 0 <= i -> i < j -> j < c.arts.length -> ∀ v ∈ [i, j], 0 <= v /\ v < c.arts.length := fun h1 h2 h3 v hv => by
   rcases List.mem_cons.1 hv with rfl | hv
   ·omega
   ·simp at hv; subst hv; omega
  have hvo : ∀ {i j : Int}, i < j -> zy [i, j] = [i, j] := fun h => ycc (by simpa using h)
  (refine zf ?_; conv => whnf)
  refine ze rfl  yqc ?_
  (refine za ?_; conv => whnf)
  refine ze rfl  hfw ?_
  (refine za ?_; conv => whnf)
  refine ze rfl  hV ?_
  (refine za ?_; conv => whnf)
  cases hcl : jo c with
  | some p =>
   obtain ⟨i, j, vd, vh, vv, va⟩ := p
   obtain ⟨h1, h2, h3, h4, h5⟩ := yik hb2 hcl
   have hv := hpair h1 h2 h3
   obtain ⟨x1, x2, x3, x4, x5, x6, x7⟩ := (zui hb2 f2 hw40 hv).2.2 _ h5
   rw [hvo h2] at x1 x2 x3 x6 x7
   simp only at x2 x3 x4 x5 x6 x7
   rw [hcl] at hCl
   rw [show yfa (some (i, j, (⟨vd, vh, vv, va⟩ : View))) = .tup [sI i, sI j, .agg [sI vd, .imm (qg vh), .imm (zl vv), .imm (zl va)], sB true] from rfl] at hCl
   have hvl1 : (vv.map fun n => [dI n]).length = vv.length := by simp
   have hC1 := hCo i j (by omega) (by omega)
   rw [h4] at hC1
   have hWi := zwo G0 c [i, j] (by simp) hv vd
   rw [decide_eq_true x2, decide_eq_true x3] at hWi
   have hA := yff (G := G0) hb2 f2 hw40 [i, j] (by simp) hv x1 vd vv x4
   rw [x7] at hA
   have hSm := zeg G0 va [i, j] (by rw [x6]; simp) (by simp)
   rw [decide_eq_true x6] at hSm
   refine ze rfl  hCl ?_
   (refine za ?_; conv => whnf)
   repeat' ((with_reducible refine way ?_ ?_) <;> (intro h; conv => whnf))
   all_goals try (exfalso; omega)
   refine ze rfl  hC1 ?_
   (refine za ?_; conv => whnf)
   refine ze (argv := [c.sv, .imm (zl [i, j]), sI vd]) rfl hWi ?_
   (refine za ?_; conv => whnf)
   refine ze (argv := [c.sv, .imm (zl [i, j]), sI vd, .imm (zl vv)]) rfl hA ?_
   (refine za ?_; conv => whnf)
   refine ze (argv := [.imm (zl va), .imm (zl [i, j])]) rfl hSm ?_
   (refine za ?_; conv => whnf)
   exact hK _
  | none =>
   rw [hcl] at hCl
   rw [show yfa (none : Option (Int × Int × View)) = .tup [sI 0, sI 0, .agg [sI 0, .imm (qg []), .imm (zl []), .imm (zl [])], sB false] from rfl] at hCl
   have hF := zss G0 c (by omega) numbers hn
   have hFl := ypj c numbers
   have hFg := ynb c numbers
   generalize ysh c numbers = values at hF hFl hFg
   refine ze rfl  hCl ?_
   (refine za ?_; conv => whnf)
   refine ze rfl  hF ?_
   (refine za ?_; conv => whnf)
   refine yr [1, 3, 7, 10, 15] 1 (by rw [hH]; exact Nat.zero_le 1) (Nat.succ_le_succ (Nat.zero_le _)) rfl rfl ?_
   change SW E _ [(1, sI day), (3, .ptr 0 0), (7, sB true), (10, sI 0), (15, .imm (zl values))] [zdi c]
   refine zq c.arts (fun i (_ : Unit) => [(1, sI day), (3, .ptr 0 0), (7, sB true), (10, sI i), (15, .imm (zl values))]) (fun _ _ => [zdi c]) (fun _ _ _ => True) () trivial ?_ ?_
   ·rintro _ _
    (refine zf ?_; conv => whnf)
    repeat' ((with_reducible refine way ?_ ?_) <;> (intro h; conv => whnf))
    all_goals try (exfalso; omega)
    exact hK _
   ·rintro done x rest _ hda hdl _ ih
    have hw := zm (n := done.length) (by omega)
    (refine zf ?_; conv => whnf)
    repeat' ((with_reducible refine way ?_ ?_) <;> (intro h; conv => whnf))
    all_goals try (exfalso; omega)
    rw [hw]
    refine zg [1, 3, 7, 10, 11, 15] ?_
    refine xr (σ := Nat) (fun j => [(1, sI day), (3, .ptr 0 0), (7, sB true), (10, sI done.length), (11, sI j), (15, .imm (zl values))]) (fun _ => [zdi c]) (fun j => done.length + 1 <= j /\ j <= c.arts.length) (fun j => c.arts.length - j) ?_ (done.length + 1) ⟨Nat.le_refl _, by omega⟩
    rintro j ⟨j1, j2⟩ ih2
    have hwj := zm (n := j) (by omega)
    by_cases hj : j < c.arts.length
    ·have h1 : 0 <= (done.length : Int) := by omega
     have h2 : (done.length : Int) < (j : Int) := by omega
     have h3 : (j : Int) < c.arts.length := by omega
     have hv := hpair h1 h2 h3
     obtain ⟨sl, hC, hsl⟩ := yij (G := G0) c hb2 f2 hw40 [(done.length : Int), (j : Int)] (by simp) hv
     have hC1 := hCo done.length j (by omega) (by omega)
     have hFr := zoj G0 c [(done.length : Int), (j : Int)] (by simp) hv
     have x2 := (zui hb2 f2 hw40 hv).2.1
     rw [hvo h2] at x2
     have hA := fun hb d => yff (G := G0) hb2 f2 hw40 [(done.length : Int), (j : Int)] (by simp) hv hb d values hFl
     have hcn := yil hb2 hcl h1 h2 h3
     have hfle := yoz (c := c) [(done.length : Int), (j : Int)]
     generalize ym c [(done.length : Int), (j : Int)] = fr at hFr x2 hfle
     obtain ⟨lo, hi⟩ := fr
     simp only at hFr x2 hfle
     generalize zad c done.length j = bc at hC1 hcn
     have hgo := ih2 (j + 1) ⟨by omega, by omega⟩ (by omega)
     rw [<- hwj] at hgo
     (refine zf ?_; conv => whnf)
     repeat' ((with_reducible refine way ?_ ?_) <;> (intro h; conv => whnf))
     all_goals try (exfalso; omega)
     rcases hsl with rfl | ⟨ls, rfl⟩
     all_goals
      refine ze (argv := [c.sv, .imm (zl [(done.length : Int), (j : Int)])]) rfl hC ?_
      (refine za ?_; conv => whnf)
      refine ze rfl  hC1 ?_
      (refine za ?_; conv => whnf)
      refine ze (argv := [c.sv, .imm (zl [(done.length : Int), (j : Int)])]) rfl hFr ?_
      cases hbs : zkb c [(done.length : Int), (j : Int)]
      ·(refine za ?_; conv => whnf)
       exact yr [1, 3, 7, 10, 11, 15] 1 (by rw [hH]; exact Nat.zero_le 1) (Nat.le_refl 1) rfl rfl hgo
      cases bc
      ·(refine za ?_; conv => whnf)
       exact yr [1, 3, 7, 10, 11, 15] 1 (by rw [hH]; exact Nat.zero_le 1) (Nat.le_refl 1) rfl rfl hgo
      (refine za ?_; conv => whnf)
      repeat' ((with_reducible refine way ?_ ?_) <;> (intro h; conv => whnf))
      rotate_left
      ·exact yr [1, 3, 7, 10, 11, 15] 1 (by rw [hH]; exact Nat.zero_le 1) (Nat.le_refl 1) rfl rfl hgo
      have hwd : IntKind.i64.wrap (hi - lo) = hi - lo := xh (by omega) (by omega)
      have hpk := zsa G0 day (IntKind.i64.wrap (hi - lo)) hd0.1 hd0.2 (by rw [hwd]; omega)
      have hpr := zzv (c := day) (n := IntKind.i64.wrap (hi - lo)) (by rw [hwd]; omega)
      generalize zrz day (IntKind.i64.wrap (hi - lo)) = p at hpk hpr
      rw [hwd] at hpr
      have hwp : IntKind.i64.wrap (lo + p) = lo + p := xh (by omega) (by omega)
      have hAd := hA hbs (IntKind.i64.wrap (lo + p))
      rw [x2 hbs (hcn rfl) (IntKind.i64.wrap (lo + p)) values (by rw [hwp]; omega) (by rw [hwp]; omega) hFg] at hAd
      refine zg [1, 3, 7, 10, 11, 15, 16, 20, 21] ?_
      (refine zu 0 mixed rfl ?_; refine zb [777] (nx := 1) ?_; conv => whnf)
      refine yq rfl (show 1 <= 1 by decide) hpk ?_
      (refine zb [777] (nx := 1) ?_; conv => whnf)
      refine yq (argv := [c.sv, .imm (zl [(done.length : Int), (j : Int)]), sI (IntKind.i64.wrap (lo + p)), .imm (zl values)]) rfl (show 1 <= 1 by decide) hAd ?_
      (refine zb [777, 7] (nx := 1) ?_; conv => whnf)
      refine qw ⟨sB true, [], none⟩ rfl rfl (show 1 <= 1 by decide) (fun _ _ _ => rfl) ?_
      refine jn (by kernel_rfl) ?_
      (refine zf ?_; conv => whnf)
      exact yr [1, 3, 7, 10, 11, 15] 1 (by rw [hH]; exact Nat.zero_le 1) (Nat.le_refl 1) rfl rfl hgo
    ·(refine zf ?_; conv => whnf)
     repeat' ((with_reducible refine way ?_ ?_) <;> (intro h; conv => whnf))
     all_goals try (exfalso; omega)
     rw [hw]
     exact zg [1, 3, 7, 10, 15] (ih () trivial)
 all_goals
  (refine zf ?_; conv => whnf)
  refine ze rfl  yqc ?_
  (refine za ?_; conv => whnf)
  refine ze rfl  hfw ?_
  (refine za ?_; conv => whnf)
  refine ze rfl  hV ?_
  (refine za ?_; conv => whnf)
  exact hK _
end Go.Proofs.YtblpjknmhajcgaaGreatDoor