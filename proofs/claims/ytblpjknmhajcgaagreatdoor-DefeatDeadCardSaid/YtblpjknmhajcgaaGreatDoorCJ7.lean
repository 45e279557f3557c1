/- Contracts of functions of the program, joined from THp, TDd: no condition. -/
import Derived.Test.YtblpjknmhajcgaaGreatDoorCJ6
set_option linter.unusedSimpArgs false
set_option linter.unusedVariables false
set_option maxRecDepth 10000
set_option maxHeartbeats 8000000
namespace Go.Proofs.YtblpjknmhajcgaaGreatDoor
open Go Go.Sh
def fl (n : Int) : List Article -> Option Int
 | [] => none
 | a :: r => if a.number = n then some a.line else fl n r
theorem zpb (n : Int) : ∀ (l : List Article) (i : Nat), (ji n l i = -1 /\ fl n l = none) \/ ((i : Int) <= ji n l i /\ ∃ a, l[(ji n l i).toNat - i]? = some a /\ a.number = n /\ fl n l = some a.line)
 | [], i => .inl ⟨rfl, rfl⟩
 | a :: r, i => by
  simp only [ji, fl]
  split
  ·rename_i h
   right
   exact ⟨by omega, a, by simp, h, rfl⟩
  ·rcases zpb n r (i + 1) with ⟨h1, h2⟩ | ⟨h1, x, h2, h3, h4⟩
   ·left; exact ⟨h1, h2⟩
   ·right
    refine ⟨by omega, x, ?_, h3, h4⟩
    rw [show (ji n r (i + 1)).toNat - i = ((ji n r (i + 1)).toNat - (i + 1)) + 1 by omega]
    simpa using h2
abbrev yva (nl : Int) (a : Article) : Prop := 1 <= a.number /\ a.number <= 1000000 /\ 0 <= a.line /\ a.line < nl
theorem zue (nl : Int) : ∀ (l : List Article) (m0 m : List (Int × Int)), ws nl l m0 = some m -> (∀ n, zr n m = (zr n m0).or (fl n l)) /\ ∀ a ∈ l, yva nl a /\ zr a.number m = some a.line
 | [], m0, m, h => by
  simp only [ws, Option.some.injEq] at h
  subst h
  exact ⟨fun n => by simp [fl], fun a ha => by cases ha⟩
 | a :: r, m0, m, h => by
  simp only [ws] at h
  split at h
  ·rename_i hc
   have hm : ws nl r (ains a.number a.line m0) = some m /\ (zr a.number m0 = none \/ zr a.number m0 = some a.line) := by
    cases hl : zr a.number m0 with
    | none => rw [hl] at h; exact ⟨h, .inl rfl⟩
    | some x =>
     rw [hl] at h
     simp only at h
     split at h
     ·rename_i e; subst e; exact ⟨h, .inr rfl⟩
     ·cases h
   obtain ⟨g1, g2⟩ := zue nl r _ m hm.1
   have key : ∀ n, zr n m = (zr n m0).or (fl n (a :: r)) := by
    intro n
    rw [g1 n, jj]
    by_cases e : n = a.number
    ·subst e
     simp only [beq_self_eq_true, if_true, Option.some_or, fl]
     rcases hm.2 with h0 | h0 <;> rw [h0] <;> rfl
    ·rw [if_neg (by simpa using e)]
     simp only [fl]
     rw [if_neg (fun h => e h.symm)]
   refine ⟨key, fun b hb => ?_⟩
   rcases List.mem_cons.1 hb with rfl | hb
   ·refine ⟨hc, ?_⟩
    rw [key]
    simp only [fl, if_true]
    rcases hm.2 with h0 | h0 <;> rw [h0] <;> rfl
   ·exact g2 b hb
  ·cases h
theorem zoi (nl : Int) : ∀ (l : List Article) (m0 : List (Int × Int)), (∀ a ∈ l, yva nl a /\ (zr a.number m0).or (fl a.number l) = some a.line) -> ∃ m, ws nl l m0 = some m
 | [], m0, _ => ⟨m0, rfl⟩
 | a :: r, m0, h => by
  obtain ⟨hb, ha⟩ := h a (by simp)
  simp only [fl, if_true] at ha
  have h0 : zr a.number m0 = none \/ zr a.number m0 = some a.line := by
   cases hl : zr a.number m0 with
   | none => exact .inl rfl
   | some x => rw [hl] at ha; right; simpa using ha
  have hr : ∀ b ∈ r, yva nl b /\ (zr b.number (ains a.number a.line m0)).or (fl b.number r) = some b.line := by
   intro b hbr
   obtain ⟨g1, g2⟩ := h b (by simp [hbr])
   refine ⟨g1, ?_⟩
   rw [jj]
   simp only [fl] at g2
   by_cases e : b.number = a.number
   ·rw [e] at g2 ⊢
    simp only [beq_self_eq_true, if_true, Option.some_or]
    rw [if_pos rfl] at g2
    rcases h0 with h0 | h0 <;> rw [h0] at g2 <;> simpa using g2
   ·rw [if_neg (by simpa using e)]
    rw [if_neg (fun h => e h.symm)] at g2
    exact g2
  obtain ⟨m, hm⟩ := zoi nl r _ hr
  refine ⟨m, ?_⟩
  simp only [ws]
  rw [if_pos hb]
  rcases h0 with h0 | h0 <;> rw [h0]
  ·exact hm
  ·simp only [if_true]; exact hm
mutual
def zsl (P : Int -> Int -> ByteArray -> Int -> List Piece -> List Ex -> Bool) : Ex -> Bool
 | .mk op n u den ps ks => zhh P ks && P op n u den ps ks
def zhh (P : Int -> Int -> ByteArray -> Int -> List Piece -> List Ex -> Bool) : List Ex -> Bool
 | [] => true
 | k :: r => zsl P k && zhh P r
end
def zla (c : Codex) (m : List (Int × Int)) (op n : Int) (u : ByteArray) (den : Int) (ps : List Piece) (ks : List Ex) : Bool := wt u && qm c m op n u den ps ks
theorem yhz (c : Codex) (m : List (Int × Int)) (N : Nat) :
  (∀ e : Ex, SizeOf.sizeOf e < N -> ∀ d cnt : Int, ((qz c m e d cnt).1 = true ↔ (cnt + xe e <= 400 /\ d + zbx e <= 41 /\ zsl (zla c m) e = true)) /\ ((qz c m e d cnt).1 = true -> (qz c m e d cnt).2 = cnt + xe e)) /\
  (∀ ks : List Ex, SizeOf.sizeOf ks < N -> ∀ d cnt : Int, cnt <= 400 -> d <= 41 -> ((qd c m ks d cnt).1 = true ↔ (cnt + ye ks <= 400 /\ d + zbg ks <= 41 /\ zhh (zla c m) ks = true)) /\ ((qd c m ks d cnt).1 = true -> (qd c m ks d cnt).2 = cnt + ye ks)) := by
 induction N with
 | zero => exact ⟨fun e h => by omega, fun e h => by omega⟩
 | succ N ih =>
  refine ⟨fun e he d cnt => ?_, fun ks hk d cnt hc hd => ?_⟩
  ·obtain ⟨op, n, u, den, ps, ks⟩ := e
   simp only [Ex.mk.sizeOf_spec] at he
   simp only [qz, xe, zbx, zsl]
   split
   ·rename_i hc
    constructor
    ·constructor
     ·intro h; cases h
     ·rintro ⟨h1, h2, h3⟩
      rcases hc with h | h | h
      ·omega
      ·omega
      ·simp [zla, h] at h3
    ·intro h; cases h
   ·rename_i hc
    have hu : wt u = true := by
     cases h : wt u with
     | true => rfl
     | false => exact absurd (.inr (.inr h)) hc
    obtain ⟨g1, g2⟩ := ih.2 ks (by omega) (d + 1) (cnt + 1) (by omega) (by omega)
    revert g1 g2
    cases qd c m ks (d + 1) (cnt + 1) with
    | mk b q =>
     cases b with
     | true =>
      intro g1 g2
      simp only at g1 g2 ⊢
      obtain ⟨k1, k2, k3⟩ := g1.1 trivial
      have k4 := g2 trivial
      constructor
      ·constructor
       ·intro h
        exact ⟨by omega, by omega, by simp [k3, zla, hu, h]⟩
       ·rintro ⟨_, _, h3⟩
        simp [zla, hu] at h3
        exact h3.2
      ·intro _; omega
     | false =>
      intro g1 _
      simp only at g1 ⊢
      constructor
      ·constructor
       ·intro h; cases h
       ·rintro ⟨h1, h2, h3⟩
        simp only [Bool.and_eq_true] at h3
        exact absurd (g1.2 ⟨by omega, by omega, h3.1⟩) (by simp)
      ·intro h; cases h
  ·cases ks with
   | nil =>
    simp only [qd, ye, zbg, zhh]
    exact ⟨⟨fun _ => ⟨by omega, by omega, trivial⟩, fun _ => trivial⟩, fun _ => by omega⟩
   | cons k r =>
    simp only [List.cons.sizeOf_spec] at hk
    obtain ⟨g1, g2⟩ := ih.1 k (by omega) d cnt
    simp only [qd, ye, zbg, zhh]
    revert g1 g2
    cases qz c m k d cnt with
    | mk b q =>
     cases b with
     | true =>
      intro g1 g2
      simp only at g1 g2 ⊢
      obtain ⟨k1, k2, k3⟩ := g1.1 trivial
      have k4 := g2 trivial
      subst k4
      obtain ⟨r1, r2⟩ := ih.2 r (by omega) d (cnt + xe k) (by omega) hd
      constructor
      ·rw [r1, k3]
       simp only [Bool.true_and]
       constructor
       ·rintro ⟨a1, a2, a3⟩; exact ⟨by omega, by omega, a3⟩
       ·rintro ⟨a1, a2, a3⟩; exact ⟨by omega, by omega, a3⟩
      ·intro h; have := r2 h; omega
     | false =>
      intro g1 _
      simp only at g1 ⊢
      constructor
      ·constructor
       ·intro h; cases h
       ·rintro ⟨h1, h2, h3⟩
        simp only [Bool.and_eq_true] at h3
        exact absurd (g1.2 ⟨by omega, by omega, h3.1⟩) (by simp)
      ·intro h; cases h
theorem ymr (c : Codex) (m : List (Int × Int)) (e : Ex) : (qz c m e 1 0).1 = (zci e && zsl (zla c m) e) := by
 rw [Bool.eq_iff_iff, ((yhz c m (SizeOf.sizeOf e + 1)).1 e (by omega) 1 0).1]
 simp only [zci, Bool.and_eq_true, decide_eq_true_eq]
 constructor
 ·rintro ⟨h1, h2, h3⟩; exact ⟨⟨by omega, by omega⟩, h3⟩
 ·rintro ⟨⟨h1, h2⟩, h3⟩; exact ⟨by omega, by omega, h3⟩
mutual
theorem zzs (c : Codex) : ∀ e : Ex, zfc c e = zsl (zhj c) e
 | .mk op n u den ps ks => by simp only [zfc, zsl, zrt c ks]
theorem zrt (c : Codex) : ∀ ks : List Ex, znq c ks = zhh (zhj c) ks
 | [] => rfl
 | k :: r => by simp only [znq, zhh, zzs c k, zrt c r]
end
theorem yoy : wt tT = true := by decide
theorem yoz : wt tN = true := by decide
theorem yia {u : ByteArray} (h : zem u = true) : wt u = true := by simp [wt, h]
structure CodexRel (c : Codex) (m : List (Int × Int)) : Prop where
 facts : ∀ d ∈ c.facts, wt d.unit = true
 lines : ∀ d ∈ c.lines, wt d.unit = true
 look : ∀ n, zr n m = fl n c.arts
 line : ∀ a ∈ c.arts, 0 <= a.line /\ a.line < c.lines.length
theorem zru {l : List Decl} (h : ∀ d ∈ l, wt d.unit = true) {i : Int} {u : ByteArray} (hu : zcq l i u = true) : wt u = true := by
 unfold zcq at hu
 split at hu
 ·rename_i d hd
  have := of_decide_eq_true hu
  subst this
  exact h d (List.mem_of_getElem? hd)
 ·cases hu
theorem yrz {c : Codex} {m : List (Int × Int)} (H : CodexRel c m) (op n : Int) (u : ByteArray) (hop : 1 <= op /\ op <= 4) (hu : wt u = true) : zas c.facts c.lines m op n u = zac c op n u := by
 have hc : op = 1 \/ op = 2 \/ op = 3 \/ op = 4 := by omega
 rcases hc with rfl | rfl | rfl | rfl
 ·simp [zas, zac, hu]
 ·simp [zas, zac]
 ·simp only [zas, zac]
  simp only [show ¬ (3 : Int) = 1 by omega, show ¬ (3 : Int) = 2 by omega, if_false, if_true]
  rw [H.look n]
  rcases zpb n c.arts 0 with ⟨h1, h2⟩ | ⟨h1, a, h2, h3, h4⟩
  ·rw [h2, h1]
   cases c.arts[((-1 : Int)).toNat]? <;> simp
  ·rw [Nat.sub_zero] at h2
   rw [h4, h2]
   obtain ⟨g1, g2⟩ := H.line a (List.mem_of_getElem? h2)
   simp only [decide_eq_true (show (0 : Int) <= ji n c.arts 0 by omega), decide_eq_true g1, decide_eq_true g2, Bool.true_and]
 ·simp [zas, zac]
theorem zzt {c : Codex} {m : List (Int × Int)} (H : CodexRel c m) {op n : Int} {u : ByteArray} (h : zac c op n u = true) : wt u = true := by
 simp only [zac] at h
 split at h
 ·simp only [Bool.and_eq_true] at h; exact h.1.1.1
 ·split at h
  ·simp only [Bool.and_eq_true] at h; exact zru H.facts h.2
  ·split at h
   ·split at h
    ·simp only [Bool.and_eq_true] at h; exact zru H.lines h.2
    ·cases h
   ·split at h
    ·simp only [Bool.and_eq_true, decide_eq_true_eq] at h
     rw [h.2]; exact yoz
    ·cases h
theorem yms {op : Int} {u : ByteArray} {f l : Ex} {len : Int} {s : Bool} (hf : wt f.unit = true) (hl : wt l.unit = true) (h : zae op u f l len s = true) : wt u = true := by
 have eT : u = tT -> wt u = true := fun e => by rw [e]; exact yoy
 have eF : u = f.unit -> wt u = true := fun e => by rw [e]; exact hf
 have eL : u = l.unit -> wt u = true := fun e => by rw [e]; exact hl
 simp only [zae] at h
 split at h
 ·simp only [Bool.and_eq_true, decide_eq_true_eq] at h; exact eT h.1.2
 split at h
 ·simp only [Bool.and_eq_true, decide_eq_true_eq] at h; exact eT h.1.1.2
 split at h
 ·simp only [Bool.and_eq_true, decide_eq_true_eq] at h; exact eT h.1.2
 split at h
 ·simp only [Bool.and_eq_true, decide_eq_true_eq] at h; exact eT h.1.2
 split at h
 ·simp only [Bool.and_eq_true, decide_eq_true_eq] at h; exact eF h.2
 split at h
 ·simp only [Bool.and_eq_true, decide_eq_true_eq] at h; exact eF h.2
 split at h
 ·simp only [Bool.and_eq_true, decide_eq_true_eq] at h
  have := h.2
  split at this
  ·exact eL this
  ·exact eF this
 split at h
 ·simp only [Bool.and_eq_true, decide_eq_true_eq] at h; exact eF h.2
 split at h
 ·simp only [Bool.and_eq_true, decide_eq_true_eq] at h; exact eL h.2
 ·cases h
theorem ymt {c : Codex} {m : List (Int × Int)} (H : CodexRel c m) (op n : Int) (u : ByteArray) (den : Int) (ps : List Piece) (ks : List Ex) (hk : ∀ k ∈ ks, wt k.unit = true) :
  zla c m op n u den ps ks = zhj c op n u den ps ks := by
 have hunit : zhj c op n u den ps ks = true -> wt u = true := by
  intro h
  simp only [zhj] at h
  split at h
  ·simp only [Bool.and_eq_true] at h; exact yia h.1.1.2
  split at h
  ·cases h
  split at h
  ·simp only [Bool.and_eq_true] at h; exact zzt H h.2
  ·simp only [Bool.and_eq_true] at h
   have h2 := h.2
   split at h2
   ·rename_i f l hf hl
    exact yms (hk f (List.mem_of_mem_head? hf)) (hk l (List.mem_of_getLast? hl)) h2
   ·cases h2
 cases hu : wt u with
 | false =>
  cases hn : zhj c op n u den ps ks with
  | false => simp [zla, hu]
  | true => rw [hunit hn] at hu; cases hu
 | true =>
  simp only [zla, hu, Bool.true_and, qm, zhj]
  split
  ·rfl
  split
  ·rfl
  split
  ·rename_i h4
   rw [yrz H op n u h4 hu]
  ·rfl
theorem ytv {c : Codex} {m : List (Int × Int)} (H : CodexRel c m) (N : Nat) :
  (∀ e : Ex, SizeOf.sizeOf e < N -> zsl (zla c m) e = zsl (zhj c) e /\ (zsl (zla c m) e = true -> wt e.unit = true)) /\
  (∀ ks : List Ex, SizeOf.sizeOf ks < N -> zhh (zla c m) ks = zhh (zhj c) ks /\ (zhh (zla c m) ks = true -> ∀ k ∈ ks, wt k.unit = true)) := by
 induction N with
 | zero => exact ⟨fun e h => by omega, fun e h => by omega⟩
 | succ N ih =>
  refine ⟨fun e he => ?_, fun ks hk => ?_⟩
  ·obtain ⟨op, n, u, den, ps, ks⟩ := e
   simp only [Ex.mk.sizeOf_spec] at he
   obtain ⟨h1, h2⟩ := ih.2 ks (by omega)
   simp only [zsl]
   rw [<- h1]
   cases hk : zhh (zla c m) ks with
   | false => simp
   | true =>
    rw [ymt H op n u den ps ks (h2 hk)]
    refine ⟨rfl, fun h => ?_⟩
    rw [<- ymt H op n u den ps ks (h2 hk)] at h
    simp only [zla, Bool.true_and, Bool.and_eq_true] at h
    exact h.1
  ·cases ks with
   | nil => exact ⟨rfl, fun _ k hk => by cases hk⟩
   | cons k r =>
    simp only [List.cons.sizeOf_spec] at hk
    obtain ⟨a1, a2⟩ := ih.1 k (by omega)
    obtain ⟨b1, b2⟩ := ih.2 r (by omega)
    simp only [zhh]
    rw [<- a1, <- b1]
    refine ⟨rfl, fun h x hx => ?_⟩
    simp only [Bool.and_eq_true] at h
    rcases List.mem_cons.1 hx with rfl | hx
    ·exact a2 h.1
    ·exact b2 h.2 x hx
theorem ysa {c : Codex} {m : List (Int × Int)} (H : CodexRel c m) (e : Ex) : (qz c m e 1 0).1 = wn c e := by
 rw [ymr, wn, zzs, ((ytv H (SizeOf.sizeOf e + 1)).1 e (by omega)).1]
theorem yew {c : Codex} {m : List (Int × Int)} (H : CodexRel c m) (e : Ex) (u : ByteArray) : (qe c m e u).1 = (wn c e && decide (e.unit = u)) := by
 unfold qe
 split
 ·rename_i h; rw [ysa H, decide_eq_true h, Bool.and_true]
 ·rename_i h; rw [decide_eq_false h, Bool.and_false]
theorem zmi {lo hi : Int} {l : List Decl} (h : qv lo hi l = true) : ∀ d ∈ l, wt d.unit = true := by
 intro d hd
 simp only [qv, Bool.and_eq_true, List.all_eq_true] at h
 have := h.1 d hd
 simp only [jr, Bool.and_eq_true] at this
 exact this.1.2
theorem ypa (c : Codex) : zin c = zu c := by
 cases hd1 : qv 0 0 c.facts with
 | false => simp [zin, zu, hd1]
 | true =>
 cases hd2 : qv 1 4 c.lines with
 | false => simp [zin, zu, hd2]
 | true =>
 by_cases hz : c.facts.length <= 32 /\ c.lines.length <= 32 /\ c.arts.length <= 60
 rotate_left
 ·have e1 : zin c = false := by
   cases h : zin c with
   | false => rfl
   | true => simp only [zin, Bool.and_eq_true, decide_eq_true_eq] at h; exact absurd ⟨h.1.1.1.2, h.1.1.2.2, h.1.2⟩ hz
  have e2 : zu c = false := by
   cases h : zu c with
   | false => rfl
   | true => simp only [zu, Bool.and_eq_true, decide_eq_true_eq] at h; exact absurd ⟨h.1.1.1.1.1, h.1.1.1.1.2, h.1.1.1.2⟩ hz
  rw [e1, e2]
 have e1 : zin c = c.arts.all (jf c) := by simp [zin, hd1, hd2, hz]
 have e2 : zu c = (match ws c.lines.length c.arts [] with | some m => c.arts.all (zkk c m) | none => false) := by
  simp only [zu, hd1, hd2, hz.1, hz.2.1, hz.2.2, decide_true, Bool.true_and]
  rfl
 rw [e1, e2]
 have hfirst : ∀ a ∈ c.arts, fl a.number c.arts = some (zdb c a.number) := by
  intro a ha
  rcases zpb a.number c.arts 0 with ⟨h1, h2⟩ | ⟨h1, x, h2, h3, h4⟩
  ·exact absurd rfl ((znp a.number c.arts 0).1 h1 a ha)
  ·rw [Nat.sub_zero] at h2
   rw [h4]
   simp only [zdb, h2]
 cases hg : ws c.lines.length c.arts [] with
 | some m =>
  obtain ⟨g1, g2⟩ := zue _ _ _ _ hg
  have hrel : CodexRel c m := ⟨zmi hd1, zmi hd2, fun n => by rw [g1 n]; rfl, fun a ha => ⟨(g2 a ha).1.2.2.1, (g2 a ha).1.2.2.2⟩⟩
  simp only
  rw [Bool.eq_iff_iff, List.all_eq_true, List.all_eq_true]
  have key : ∀ a ∈ c.arts, jf c a = zkk c m a := by
   intro a ha
   obtain ⟨⟨b1, b2, b3, b4⟩, b5⟩ := g2 a ha
   have hl : a.line = zdb c a.number := by
    have := hfirst a ha
    rw [g1] at b5
    simp only [zr, Option.none_or] at b5
    rw [b5] at this
    simpa using this
   simp only [jf, zkk]
   rw [decide_eq_true ⟨b1, b2, b3, b4, hl⟩, Bool.true_and]
   have hu : a.unless_.all (fun n => decide (0 <= ji n c.arts 0)) = a.unless_.all (fun n => (zr n m).isSome) := by
    congr 1
    funext n
    rw [g1 n]
    rcases zpb n c.arts 0 with ⟨h1, h2⟩ | ⟨h1, x, h2, h3, h4⟩
    ·rw [h1, h2]; rfl
    ·rw [h4, decide_eq_true (by omega)]; rfl
   have hw : a.when_.all (fun e => wn c e && decide (e.unit = tT)) = a.when_.all (fun e => (qe c m e tT).1) := by
    congr 1
    funext e
    rw [yew hrel]
   rw [hu, hw, yew hrel]
   cases zap a <;> simp [Bool.and_comm, Bool.and_left_comm, Bool.and_assoc]
  constructor
  ·intro h a ha; rw [<- key a ha]; exact h a ha
  ·intro h a ha; rw [key a ha]; exact h a ha
 | none =>
  simp only
  cases h : c.arts.all (jf c) with
  | false => rfl
  | true =>
   exfalso
   rw [List.all_eq_true] at h
   obtain ⟨m, hm⟩ := zoi c.lines.length c.arts [] (fun a ha => by
    have := h a ha
    simp only [jf, Bool.and_eq_true, decide_eq_true_eq] at this
    obtain ⟨⟨⟨⟨⟨t1, t2, t3, t4, t5⟩, _⟩, _⟩, _⟩, _⟩ := this
    refine ⟨⟨t1, t2, t3, t4⟩, ?_⟩
    simp only [zr, Option.none_or]
    rw [hfirst a ha, <- t5])
   rw [hm] at hg
   cases hg
theorem yib {G : List (Nat × D)} (c : Codex) (h : zu c = true) (hF : c.facts.length <= 12) (hw : ∀ a ∈ c.arts, a.when_.length <= 41) (vs : List Int) (hz : vs.length <= 100) (hv : ∀ v ∈ vs, 0 <= v /\ v < c.arts.length) :
  ∃ sl, zw Tryz.prog G 23 [c.sv, .imm (zl vs)] (.tup [sl, sB (zhg c vs)]) /\ (sl = zdm \/ ∃ ls, sl = .imm (yme ls)) := by
 obtain ⟨m, hm, hc⟩ := zbl h
 obtain ⟨_, _, m', hm', h4⟩ := qf h
 have hN := zgv (c := c) hc (vs := vs)
 have hS := zgv (c := c) (P := fun e => xe e <= 400) (fun a ha e he => ((h4 a ha).2.2.1 e he).2) (vs := vs)
 have hwh : ∀ a ∈ c.arts, a.when_.length <= 100 := fun a ha => by have := hw a ha; omega
 unfold zhg
 cases hb : (yg c vs).all (simpE c) with
 | false => exact ⟨zdm, by rw [Bool.false_and]; exact yhl G c (m := m) vs (by omega) hv hwh hN hb, .inl rfl⟩
 | true => exact ⟨_, by rw [Bool.true_and]; exact ybw G c (m := m) vs hz hv hwh (fun e he => ⟨hN e he, hS e he⟩) (by omega) hb, .inr ⟨_, rfl⟩⟩
theorem zpc {c : Codex} {m : List (Int × Int)} : ∀ (N : Nat) (e : Ex), SizeOf.sizeOf e < N -> zel c m e -> e.unit = tT -> simpE c e = true -> readE c.facts.length e
 | 0, _, h, _, _, _ => by omega
 | N + 1, .mk op n u den ps ks, hN, h, hu, hs => by
  simp only [Ex.mk.sizeOf_spec] at hN
  have hu : u = tT := hu
  cases zji h hu with
  | const h1 hk hu' =>
   subst h1 hk
   unfold readE
   trivial
  | fact h1 hk hr ht =>
   subst h1 hk
   unfold readE
   exact hr
  | neg k h1 hk hka hku =>
   subst h1 hk
   simp only [List.cons.sizeOf_spec] at hN
   have hsk : simpE c k = true := by
    rw [simpE.eq_def] at hs
    simpa only [show ¬ (5 : Int) = 1 by decide, show ¬ (5 : Int) = 2 by decide, if_false, if_true] using hs
   rw [readE.eq_def]
   exact zpc N k (by omega) hka hku hsk
  | conn k l h1 hk hka hla hku hlu =>
   subst hk
   simp only [List.cons.sizeOf_spec] at hN
   have hsE : simpE c (.mk op n u den ps [k, l]) = (simpE c k && simpE c l) := by
    rw [simpE.eq_def]
    simp only
    rw [if_neg (by omega), if_neg (by omega), if_neg (by omega), if_pos h1]
   rw [hsE, Bool.and_eq_true] at hs
   rw [readE.eq_def]
   simp only
   rw [if_neg (by omega), if_pos h1]
   exact ⟨zpc N k (by omega) hka hku hs.1, zpc N l (by omega) hla hlu hs.2⟩
  | cmp k l h1 hk hka hla =>
   subst hk
   rw [zfu h1] at hs
   simp only [Bool.and_eq_true, Bool.or_eq_true, decide_eq_true_eq] at hs
   have hlk := zeg hka (zfa hs.1.1)
   have hll := zeg hla (zfa hs.1.2)
   rw [readE.eq_def]
   simp only
   rw [if_neg (by omega), if_neg (by omega), if_neg (by omega), if_neg (by omega), if_pos h1]
   exact ⟨⟨fun e => ⟨(hlk.k2 e).1, (hlk.k2 e).2.1⟩, fun e => by have := hlk.k4 e; omega⟩, ⟨fun e => ⟨(hll.k2 e).1, (hll.k2 e).2.1⟩, fun e => by have := hll.k4 e; omega⟩⟩
  | other h1 h2 h3 h4 h5 =>
   exfalso
   unfold simpE at hs
   rw [if_neg h1, if_neg h2, if_neg h3, if_neg h4] at hs
   have hce : zhf op = false := by unfold zhf; simp; omega
   split at hs
   ·simp [hce] at hs
   ·cases hs
theorem ypb {G : List (Nat × D)} {c : Codex} (h : zu c = true) (hF : c.facts.length <= 12) (hw : ∀ a ∈ c.arts, a.when_.length <= 41) (vs : List Int) (hz : vs.length <= 1000) (hv : ∀ v ∈ vs, 0 <= v /\ v < c.arts.length) (hb : zhg c vs = true) (day : Int) (values : List Int) (hl : values.length = c.facts.length) :
  zw Tryz.prog G 25 [c.sv, .imm (zl vs), sI day, .imm (zl values)] (sB ((yg c vs).all (holdsE (yx day) values))) := by
 obtain ⟨m, hm, hc⟩ := zbl h
 have hN := zgv (c := c) hc (vs := vs)
 unfold zhg at hb
 simp only [Bool.and_eq_true] at hb
 have hs := List.all_eq_true.1 hb.1
 exact yhe G c vs day values hz hv (fun a ha => by have := hw a ha; omega) (by omega) (fun e he => by rw [hl]; exact zpc _ e (Nat.lt_succ_self _) (hN e he).1 (hN e he).2 (hs e he))
theorem deadLaw_spec (c : Codex) (hfit : Codex.fit c) (hsz : c.facts.length <= 9223372036854775807 /\ c.lines.length <= 9223372036854775807 /\ c.arts.length <= 9223372036854775807) (day : Int) (hd0 : -9223372036854775808 <= day /\ day <= 9223372036854775807)
  (numbers : List Int) (hn : ∀ n ∈ numbers, -9223372036854775808 <= n /\ n <= 9223372036854775807) :
  zw Tryz.prog G0 6 [c.sv, sI day, .imm (zl numbers)] (sB true) := by
 have hal : (c.arts.map Article.cells).length = c.arts.length := by simp
 have hfw := yht c
 have hV := zsk G0 c hsz.1 hsz.2.1 hsz.2.2 hfit
 rw [ypa] at hV
 refine zc Tryz.func6 rfl (by rw [Tryz.ntmps6]; simp) rfl rfl ?_; intro E hH hK
 rw [show c.sv = .agg [.imm (zk c.facts), .imm (zk c.lines), .imm (ys c.arts)] from rfl]
 cases hb1 : ytm c <;> rw [hb1] at hfw <;> cases hb2 : zu c <;> rw [hb2] at hV
 case true.true =>
  obtain ⟨f1, f2, f3, f4⟩ := ymo hb1
  have hw40 : ∀ a ∈ c.arts, a.when_.length <= 41 := fun a ha => (f4 a ha).1
  have hSC := znh hb2 f2 f4
  have hD := ztz c hfit (fun _ => hSC) (by omega)
  have hdl : (zes c).length <= c.arts.length := by
   rw [zrj hb2]
   refine Nat.le_trans (List.length_filter_le _ _) (by simp)
  have hF := zsj G0 c (by omega) numbers hn
  have hFl := yow c numbers
  have hFg := ymp c numbers
  have hdf := fun {i : Nat} (hi : i < c.arts.length) => ymb hb2 f2 hw40 hi
  generalize zes c = dead at hD hdl hdf
  generalize yry c numbers = values at hF hFl hFg
  (refine zh ?_; conv => whnf)
  refine ze rfl  ypr ?_
  (refine za ?_; conv => whnf)
  refine ze rfl  hfw ?_
  (refine za ?_; conv => whnf)
  refine ze rfl  hV ?_
  (refine za ?_; conv => whnf)
  refine ze rfl  hD ?_
  (refine za ?_; conv => whnf)
  refine ze rfl  hF ?_
  (refine za ?_; conv => whnf)
  refine zg [1, 3, 7, 10, 11, 12] ?_
  change SW E _ [(1, sI day), (3, .ptr 0 0), (7, sB true), (10, .imm (zl dead)), (11, .imm (zl values)), (12, sI 0)] [zdn c]
  refine zp c.arts (fun i (_ : Unit) => [(1, sI day), (3, .ptr 0 0), (7, sB true), (10, .imm (zl dead)), (11, .imm (zl values)), (12, sI i)]) (fun _ _ => [zdn c]) (fun _ _ _ => True) () trivial ?_ ?_
  ·rintro _ _
   (refine zh ?_; conv => whnf)
   repeat' ((with_reducible refine way ?_ ?_) <;> (intro h; conv => whnf))
   all_goals try (exfalso; omega)
   exact hK _
  ·rintro done a rest _ hda hdl' _ ih
   have hw := zm (n := done.length) (by omega)
   have hi : done.length < c.arts.length := by omega
   have hv : ∀ v ∈ [(done.length : Int)], 0 <= v /\ v < c.arts.length := fun v hv => by simp at hv; subst hv; omega
   have hW := zgr c hfit (fun _ => hSC) (by omega) [(done.length : Int)] (by simp)
   obtain ⟨sl, hC, hsl⟩ := yib (G := G0) c hb2 f2 hw40 [(done.length : Int)] (by simp) hv
   have hIn := zza G0 dead (done.length : Int) (by omega)
   obtain ⟨g1, g2⟩ := hdf hi
   have haa : c.arts[done.length]? = some a := by simp [hda]
   have g2 := fun h => g2 h a haa
   have hA := fun hb d => ypb (G := G0) hb2 f2 hw40 [(done.length : Int)] (by simp) hv hb d values hFl
   have hhd := ((qf hb2).2.2.choose_spec.2 a (List.mem_of_getElem? haa)).1
   unfold zap at hhd
   simp only [Bool.and_eq_true, decide_eq_true_eq] at hhd
   have hpk := zrs G0 day (a.hi - a.lo) hd0.1 hd0.2 (by omega)
   have hpr := zzm (c := day) (n := a.hi - a.lo) (by omega)
   have hwd : IntKind.i64.wrap (a.hi - a.lo) = a.hi - a.lo := xh (by omega) (by omega)
   rw [<- hwd] at hpk
   generalize hp : zrr day (IntKind.i64.wrap (a.hi - a.lo)) = p at hpk
   rw [hwd] at hp
   rw [hp] at hpr
   have hwp : IntKind.i64.wrap (a.lo + p) = a.lo + p := xh (by omega) (by omega)
   have g2 := fun h => g2 h (IntKind.i64.wrap (a.lo + p)) values (by rw [hwp]; omega) (by rw [hwp]; omega) hFg
   have hA := fun hb => hA hb (IntKind.i64.wrap (a.lo + p))
   obtain ⟨op, n, u, den, ps, ks, hamt⟩ := zcs a
   have hra := znx c haa hamt
   unfold yre at hW
   generalize (yy c [(done.length : Int)]).getD yan = w at hW
   generalize (yy c [(done.length : Int)]).isSome = bf at hW g1
   generalize zhg c [(done.length : Int)] = bs at hC g1 hA
   generalize decide ((done.length : Int) ∈ dead) = bi at hIn g1 g2
   generalize (yg c [(done.length : Int)]).all (holdsE (yx (IntKind.i64.wrap (a.lo + p))) values) = ba at g2 hA
   (refine zh ?_; conv => whnf)
   repeat' ((with_reducible refine way ?_ ?_) <;> (intro h; conv => whnf))
   all_goals try (exfalso; omega)
   refine ze (argv := [c.sv, .imm (zl [(done.length : Int)])]) rfl hW ?_
   (refine za ?_; conv => whnf)
   subst g1
   rcases hsl with rfl | ⟨ls, rfl⟩
   all_goals
    refine ze (argv := [c.sv, .imm (zl [(done.length : Int)])]) rfl hC ?_
    (refine za ?_; conv => whnf)
    refine ze rfl  hIn ?_
    cases bs <;> cases bf <;> ((refine za ?_; conv => whnf))
    all_goals
     (refine zx 0 mixed rfl ?_; refine zb [777] (nx := 2) ?_; conv => whnf)
     refine zv (i := done.length) (row := [dI a.number, dI a.line, dI a.rank, dI a.lo, dI a.hi, dI a.known, yl a.when_, zl a.unless_, dI op, dI n, dS u, dI den, .isl 3 (ps.map Piece.cells), .isl 6 (zd ks)]) rfl (show 2 <= 2 by decide) rfl hra ?_
     (refine zb [777] (nx := 2) ?_; conv => whnf)
     refine zv (i := done.length) (row := [dI a.number, dI a.line, dI a.rank, dI a.lo, dI a.hi, dI a.known, yl a.when_, zl a.unless_, dI op, dI n, dS u, dI den, .isl 3 (ps.map Piece.cells), .isl 6 (zd ks)]) rfl (show 2 <= 2 by decide) rfl hra ?_
     (refine zb [777] (nx := 2) ?_; conv => whnf)
     refine zv (i := done.length) (row := [dI a.number, dI a.line, dI a.rank, dI a.lo, dI a.hi, dI a.known, yl a.when_, zl a.unless_, dI op, dI n, dS u, dI den, .isl 3 (ps.map Piece.cells), .isl 6 (zd ks)]) rfl (show 2 <= 2 by decide) rfl hra ?_
     (refine zb [777] (nx := 2) ?_; conv => whnf)
     refine yr rfl (show 2 <= 2 by decide) hpk ?_
     (refine zb [777, 19] (nx := 2) ?_; conv => whnf)
     refine jg ⟨sI (IntKind.i64.wrap (a.lo + p)), [], none⟩ rfl rfl (show 2 <= 2 by decide) (fun _ _ _ => rfl) ?_
     refine zao (by kernel_rfl) ?_
     (refine zh ?_; conv => whnf)
    case' true.false =>
     have hba := g2 rfl
     subst hba
     refine ze (argv := [c.sv, .imm (zl [(done.length : Int)]), sI (IntKind.i64.wrap (a.lo + p)), .imm (zl values)]) rfl (hA rfl) ?_
     (refine za ?_; conv => whnf)
    all_goals rw [hw]
    all_goals exact yq [1, 3, 7, 10, 11, 12] 1 (by rw [hH]; exact Nat.zero_le 1) (Nat.succ_le_succ (Nat.zero_le _)) rfl rfl (ih () trivial)
 all_goals
  (refine zh ?_; conv => whnf)
  refine ze rfl  ypr ?_
  (refine za ?_; conv => whnf)
  refine ze rfl  hfw ?_
  (refine za ?_; conv => whnf)
  refine ze rfl  hV ?_
  (refine za ?_; conv => whnf)
  exact hK _
end Go.Proofs.YtblpjknmhajcgaaGreatDoor