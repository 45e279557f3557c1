/- Contracts of functions of the program, joined from TQa, TQb, TQc, TBf, TQd, TEe, TEg, TEf, TEh, TDa, TDb, TCa, TCb, TBg, TCd, THb, TDc, TEi, THc, THd, THe, THf: no condition. -/
import Derived.Test.YtblpjknmhajcgaaGreatDoorCK5
set_option linter.unusedSimpArgs false
set_option linter.unusedVariables false
set_option maxRecDepth 10000
set_option maxHeartbeats 8000000
namespace Go.Proofs.YtblpjknmhajcgaaGreatDoor
open Go Go.Sh
def zkc (c : Codex) (f : Int) : Bool := match c.facts[f.toNat]? with | some d => decide (d.unit = tT) | none => false
def zfi (e : Ex) : Bool := decide (e.op = 1) || decide (e.op = 2) || (decide (e.op = 4) && (decide (1 <= e.n) && decide (e.n <= 4)))
def zhg (op : Int) : Bool := decide (op = 8) || decide (op = 9) || decide (op = 10)
def simpE (c : Codex) : Ex -> Bool
 | .mk op n u _ _ ks =>
  if op = 1 then decide (u = tT)
  else if op = 2 then zkc c n
  else if op = 5 then match ks with | [k] => simpE c k | _ => false
  else if op = 6 \/ op = 7 then match ks with | [k, l] => simpE c k && simpE c l | _ => false
  else match ks with | [k, l] => zhg op && zfi k && zfi l && (decide (k.op = 1) || decide (l.op = 1)) | _ => false
def cP (c : Codex) (f x : Int) (a b : Ex) : Prop := a.op = 2 /\ a.n = f /\ b.op = 1 /\ zkc c f = false /\ (x = b.n \/ x = b.n + 1)
def cE (c : Codex) (f x : Int) : Ex -> Prop
  | .mk op n _ _ _ ks => (op = 2 /\ n = f /\ (x = 0 \/ (zkc c f = true /\ x = 1))) \/ (match ks with
    | [k] => cE c f x k
    | [k, l] => cE c f x k \/ cE c f x l \/ (zhg op = true /\ (cP c f x k l \/ cP c f x l k))
    | _ => False)
inductive Shape (c : Codex) (m : List (Int × Int)) (op n : Int) (u : ByteArray) (ks : List Ex) : Prop
 | const : op = 1 -> ks = [] -> u = tT -> Shape c m op n u ks
 | fact : op = 2 -> ks = [] -> 0 <= n /\ n < c.facts.length -> zkc c n = true -> Shape c m op n u ks
 | neg (k : Ex) : op = 5 -> ks = [k] -> zep c m k -> k.unit = tT -> Shape c m op n u ks
 | conn (k l : Ex) : op = 6 \/ op = 7 -> ks = [k, l] -> zep c m k -> zep c m l -> k.unit = tT -> l.unit = tT -> Shape c m op n u ks
 | cmp (k l : Ex) : op = 8 \/ op = 9 \/ op = 10 -> ks = [k, l] -> zep c m k -> zep c m l -> Shape c m op n u ks
 | other : op ≠ 1 -> op ≠ 2 -> op ≠ 5 -> ¬(op = 6 \/ op = 7) -> ¬(op = 8 \/ op = 9 \/ op = 10) -> Shape c m op n u ks
theorem zzi {c : Codex} {m : List (Int × Int)} {op n : Int} {u : ByteArray} {den : Int} {ps : List Piece} {ks : List Ex} (h : qm c m op n u den ps ks = true) (h2 : op = 2) : zkc c n = decide (u = tT) := by
 have hl := (zcz h (by omega)).2
 unfold zar at hl
 rw [if_neg (by omega), if_pos h2] at hl
 simp only [Bool.and_eq_true, decide_eq_true_eq] at hl
 have h3 := hl.2
 unfold zcs at h3
 unfold zkc
 cases hg : c.facts[n.toNat]? with
 | none => rw [hg] at h3; cases h3
 | some d =>
  rw [hg] at h3
  have h3 := of_decide_eq_true h3
  rw [h3]
theorem ztv {c : Codex} {m : List (Int × Int)} {op n : Int} {u : ByteArray} {den : Int} {ps : List Piece} {ks : List Ex} (h : qm c m op n u den ps ks = true) (h2 : op = 1) : 0 <= n /\ n <= 999999999999 := by
 have hl := (zcz h (by omega)).2
 unfold zar at hl
 rw [if_pos h2] at hl
 simp only [Bool.and_eq_true, decide_eq_true_eq] at hl
 exact hl.1
theorem zjk {c : Codex} {m : List (Int × Int)} {op n : Int} {u : ByteArray} {den : Int} {ps : List Piece} {ks : List Ex} (h : zep c m (.mk op n u den ps ks)) (hu : u = tT) : Shape c m op n u ks := by
 unfold zep at h
 obtain ⟨hn, hk⟩ := h
 by_cases h1 : op = 1
 ·exact .const h1 (zcz hn (by omega)).1 hu
 by_cases h2 : op = 2
 ·exact .fact h2 (zcz hn (by omega)).1 (zda hn h2) (by rw [zzi hn h2]; simpa using hu)
 by_cases h5 : op = 5
 ·obtain ⟨k, rfl⟩ := zwb hn h5
  obtain ⟨_, f, l, hf, hl, g⟩ := zwa hn (by omega)
  simp only [List.head?_cons, Option.some.injEq] at hf
  subst hf
  unfold zaf at g
  rw [if_pos h5] at g
  simp only [Bool.and_eq_true, decide_eq_true_eq] at g
  exact .neg k h5 rfl (wy hk k (by simp)) g.2
 by_cases h6 : op = 6 \/ op = 7
 ·obtain ⟨k, l, rfl⟩ := zjg hn (by omega)
  obtain ⟨_, f, l', hf, hl, g⟩ := zwa hn (by omega)
  simp only [List.head?_cons, Option.some.injEq] at hf
  subst hf
  unfold zaf at g
  rw [if_neg h5, if_pos h6] at g
  simp only [Bool.and_eq_true, decide_eq_true_eq] at g
  have hs := g.1.2
  unfold zbn at hs
  simp only [List.all_cons, List.all_nil, Bool.and_eq_true, decide_eq_true_eq] at hs
  exact .conn k l h6 rfl (wy hk k (by simp)) (wy hk l (by simp)) g.2 (by rw [hs.2.1, g.2])
 by_cases h8 : op = 8 \/ op = 9 \/ op = 10
 ·obtain ⟨k, l, rfl⟩ := zjg hn (by omega)
  exact .cmp k l h8 rfl (wy hk k (by simp)) (wy hk l (by simp))
 exact .other h1 h2 h5 h6 h8
structure LeafE (c : Codex) (k : Ex) : Prop where
 no : k.kids = []
 k1 : k.op = 1 -> 0 <= k.n /\ k.n <= 999999999999
 k2 : k.op = 2 -> 0 <= k.n /\ k.n < c.facts.length /\ zkc c k.n = decide (k.unit = tT)
 k4 : k.op = 4 -> 1 <= k.n /\ k.n <= 4
theorem zek {c : Codex} {m : List (Int × Int)} {k : Ex} (h : zep c m k) (hp : k.op = 1 \/ k.op = 2 \/ k.op = 4) : LeafE c k := by
 obtain ⟨op, n, u, den, ps, ks⟩ := k
 unfold zep at h
 change op = 1 \/ op = 2 \/ op = 4 at hp
 exact ⟨(zcz h.1 (by omega)).1, fun e => ztv h.1 e, fun e => ⟨(zda h.1 e).1, (zda h.1 e).2, zzi h.1 e⟩, fun e => zrk h.1 e⟩
theorem zfc {e : Ex} (h : zfi e = true) : e.op = 1 \/ e.op = 2 \/ e.op = 4 := by
 unfold zfi at h
 simp only [Bool.or_eq_true, Bool.and_eq_true, decide_eq_true_eq] at h
 omega
theorem part_of {c : Codex} {m : List (Int × Int)} {e : Ex} (ha : zep c m e) : zfi e = (decide (e.op = 1) || decide (e.op = 2) || decide (e.op = 4)) := by
 unfold zfi
 by_cases h4 : e.op = 4
 ·have := (zek ha (.inr (.inr h4))).k4 h4
  simp [h4, this]
 ·simp [h4]
theorem zwd {c : Codex} {f x : Int} {k : Ex} (h : LeafE c k) : cE c f x k ↔ (k.op = 2 /\ k.n = f /\ (x = 0 \/ (zkc c f = true /\ x = 1))) := by
 obtain ⟨op, n, u, den, ps, ks⟩ := k
 have hk : ks = [] := h.no
 subst hk
 unfold cE
 simp [Ex.op, Ex.n]
def zdc (q : Sr) (f : Int) : List Int := (zt f q.cands).getD []
def zrp (q : Sr) : Prop := ∀ e ∈ q.cands, (0 : Int) ∈ e.2
theorem zld {x : Int} : ∀ (vs l : List Int), x ∈ vs.foldl wz l ↔ x ∈ l \/ (x ∈ vs /\ x <= 1000000000000)
 | [], l => by simp
 | v :: vs, l => by
  rw [List.foldl_cons, zld vs]
  unfold wz
  by_cases h : v <= 1000000000000
  ·rw [if_pos h]
   by_cases hm : v ∈ l
   ·rw [if_pos hm]
    constructor
    ·rintro (h1 | ⟨h1, h2⟩)
     ·exact .inl h1
     ·exact .inr ⟨by simp [h1], h2⟩
    ·rintro (h1 | ⟨h1, h2⟩)
     ·exact .inl h1
     ·rcases List.mem_cons.1 h1 with rfl | h1
      ·exact .inl hm
      ·exact .inr ⟨h1, h2⟩
   ·rw [if_neg hm]
    constructor
    ·rintro (h1 | ⟨h1, h2⟩)
     ·rcases List.mem_append.1 h1 with h1 | h1
      ·exact .inl h1
      ·simp at h1; subst h1; exact .inr ⟨by simp, h⟩
     ·exact .inr ⟨by simp [h1], h2⟩
    ·rintro (h1 | ⟨h1, h2⟩)
     ·exact .inl (by simp [h1])
     ·rcases List.mem_cons.1 h1 with rfl | h1
      ·exact .inl (by simp)
      ·exact .inr ⟨h1, h2⟩
  ·rw [if_neg h]
   constructor
   ·rintro (h1 | ⟨h1, h2⟩)
    ·exact .inl h1
    ·exact .inr ⟨by simp [h1], h2⟩
   ·rintro (h1 | ⟨h1, h2⟩)
    ·exact .inl h1
    ·rcases List.mem_cons.1 h1 with rfl | h1
     ·exact absurd h2 h
     ·exact .inr ⟨h1, h2⟩
theorem zwe {q : Sr} {f g x : Int} {vs : List Int} : x ∈ zdc (q.cand f vs) g ↔ x ∈ zdc q g \/ (g = f /\ x ∈ vs /\ x <= 1000000000000) := by
 have hlk : zt g (q.cand f vs).cands = if g == f then some (vs.foldl wz ((zt f q.cands).getD [])) else zt g q.cands := jk g f _ _
 unfold zdc
 rw [hlk]
 by_cases h : g = f
 ·subst h
  simp only [beq_self_eq_true, if_true, Option.getD_some]
  rw [zld]
  simp
 ·rw [if_neg (by simpa using h)]
  simp [h]
theorem zrq {q : Sr} (h : zrp q) (f : Int) {vs : List Int} (hv : (0 : Int) ∈ vs) : zrp (q.cand f vs) := fun e he => by
 rcases zjb he with rfl | he
 ·show (0 : Int) ∈ vs.foldl wz _
  rw [zld]
  exact .inr ⟨hv, by omega⟩
 ·exact h e he
theorem zmg (s : Sr) (a b : Ex) : (cmpCand s a b).dates = s.dates := by
 unfold cmpCand
 split
 ·rfl
 ·split <;> rfl
theorem zoo {s : Sr} (h : zrp s) (a b : Ex) : zrp (cmpCand s a b) := by
 unfold cmpCand
 split
 ·exact h
 ·split
  ·exact zrq h _ (by simp)
  ·exact zrq h _ (by simp)
theorem zrr {c : Codex} {s : Sr} {a b : Ex} {f x : Int} (ha : LeafE c a) (hb : LeafE c b) (h1 : a.op = 1 \/ b.op = 1) : x ∈ zdc (cmpCand s a b) f ↔ x ∈ zdc s f \/ (cE c f x a \/ cP c f x a b) := by
 rw [zwd ha]
 unfold cmpCand cP
 by_cases h2 : a.op = 2
 ·rw [if_neg (by simp [h2])]
  have hb1 : b.op = 1 := by omega
  have hbn := hb.k1 hb1
  have hu := (ha.k2 h2).2.2
  split
  ·rename_i e
   rw [e] at hu
   simp only [decide_true] at hu
   rw [zwe]
   constructor
   ·rintro (h | ⟨h3, h4, h5⟩)
    ·exact .inl h
    ·subst h3
     simp at h4
     exact .inr (.inl ⟨h2, rfl, h4.imp id fun h => ⟨hu, h⟩⟩)
   ·rintro (h | ⟨_, h3, h4⟩ | ⟨_, h3, _, h4, h5⟩)
    ·exact .inl h
    ·refine .inr ⟨h3.symm, ?_, ?_⟩
     ·rcases h4 with h4 | h4 <;> simp [h4]
     ·omega
    ·subst h3; rw [hu] at h4; cases h4
  ·rename_i e
   have hu : zkc c a.n = false := by rw [hu]; simpa using e
   rw [zwe]
   constructor
   ·rintro (h | ⟨h3, h4, h5⟩)
    ·exact .inl h
    ·subst h3
     simp at h4
     rcases h4 with h4 | h4
     ·exact .inr (.inl ⟨h2, rfl, .inl h4⟩)
     ·exact .inr (.inr ⟨h2, rfl, hb1, hu, h4⟩)
   ·rintro (h | ⟨_, h3, h4⟩ | ⟨_, h3, _, h4, h5⟩)
    ·exact .inl h
    ·subst h3
     rcases h4 with h4 | h4
     ·exact .inr ⟨rfl, by simp [h4], by omega⟩
     ·rw [hu] at h4; cases h4.1
    ·exact .inr ⟨h3.symm, by rcases h5 with h5 | h5 <;> simp [h5], by omega⟩
 ·rw [if_pos h2]
  constructor
  ·exact .inl
  ·rintro (h | ⟨h, _⟩ | ⟨h, _⟩)
   ·exact h
   ·exact absurd h h2
   ·exact absurd h h2
theorem zjl : ∀ (ks : List Ex) (q : Sr) (n : Int) (s1 : Sr) (k : Int), xt ks q n = (true, s1, k) -> q.dates.length = 5 -> (∀ e ∈ ks, e.op = 4 -> 1 <= e.n /\ e.n <= 4) ->
  s1.dates.length = 5 /\ (∀ j, q.dates.getD j false = true -> s1.dates.getD j false = true) /\ (∀ e ∈ ks, e.op = 4 -> s1.dates.getD e.n.toNat false = true) /\ s1.cands = q.cands
 | [], q, n, s1, k, h, h5, _ => by
  simp only [xt, Prod.mk.injEq] at h
  obtain ⟨_, rfl, _⟩ := h
  exact ⟨h5, fun _ h => h, fun _ h => (by cases h), rfl⟩
 | e :: r, q, n, s1, k, h, h5, hd => by
  simp only [xt] at h
  split at h
  ·rename_i h1
   obtain ⟨a1, a2, a3, a4⟩ := zjl r q _ s1 k h h5 fun x hx => hd x (by simp [hx])
   refine ⟨a1, a2, fun x hx h4 => ?_, a4⟩
   rcases List.mem_cons.1 hx with rfl | hx
   ·omega
   ·exact a3 x hx h4
  ·split at h
   ·rename_i h4
    have hr := hd e (by simp) h4
    obtain ⟨a1, a2, a3, a4⟩ := zjl r (q.date e.n) _ s1 k h (by simp [Sr.date, h5]) fun x hx => hd x (by simp [hx])
    have hset : ∀ j, (q.date e.n).dates.getD j false = if e.n.toNat = j /\ j < q.dates.length then true else q.dates.getD j false := fun j => zew _ _ _ _ _
    refine ⟨a1, fun j hj => a2 j (by rw [hset]; split; rfl; exact hj), fun x hx h4 => ?_, a4⟩
    rcases List.mem_cons.1 hx with rfl | hx
    ·exact a2 _ (by rw [hset, if_pos ⟨rfl, by omega⟩])
    ·exact a3 x hx h4
   ·split at h
    ·rename_i h2
     obtain ⟨a1, a2, a3, a4⟩ := zjl r q _ s1 k h h5 fun x hx => hd x (by simp [hx])
     refine ⟨a1, a2, fun x hx h4 => ?_, a4⟩
     rcases List.mem_cons.1 hx with rfl | hx
     ·omega
     ·exact a3 x hx h4
    ·cases h
theorem ysk (l r : Ex) (q : Sr) : ((xt [l, r] q 0).1 && !decide ((xt [l, r] q 0).2.2 = 0)) = ((decide (l.op = 1) || decide (l.op = 2) || decide (l.op = 4)) && (decide (r.op = 1) || decide (r.op = 2) || decide (r.op = 4)) && (decide (l.op = 1) || decide (r.op = 1))) := by
 simp only [xt]
 by_cases l1 : l.op = 1
 ·by_cases r1 : r.op = 1
  ·simp [l1, r1]
  ·by_cases r4 : r.op = 4
   ·simp [l1, r4]
   ·by_cases r2 : r.op = 2
    ·simp [l1, r2]
    ·simp [l1, r1, r2, r4]
 ·by_cases l4 : l.op = 4
  ·by_cases r1 : r.op = 1
   ·simp [l4, r1]
   ·by_cases r4 : r.op = 4
    ·simp [l4, r4]
    ·by_cases r2 : r.op = 2
     ·simp [l4, r2]
     ·simp [l4, r1, r2, r4]
  ·by_cases l2 : l.op = 2
   ·by_cases r1 : r.op = 1
    ·simp [l2, r1]
    ·by_cases r4 : r.op = 4
     ·simp [l2, r4]
     ·by_cases r2 : r.op = 2
      ·simp [l2, r2]
      ·simp [l2, r1, r2, r4]
   ·simp [l1, l2, l4]
structure SimpR (c : Codex) (q : Sr) (e : Ex) (x : Cond) (q' : Sr) : Prop where
 tru : ∀ p vs, x.tru p vs = holdsE p vs e
 mem : ∀ f x, x ∈ zdc q' f ↔ x ∈ zdc q f \/ cE c f x e
 zero : zrp q -> zrp q'
 len : q'.dates.length = 5
 dates : x.dateIn q'.dates
 dgrow : ∀ j, q.dates.getD j false = true -> q'.dates.getD j false = true
theorem Cond.dateIn_mono {d d' : List Bool} (h : ∀ j, d.getD j false = true -> d'.getD j false = true) : ∀ c : Cond, c.dateIn d -> c.dateIn d'
 | .none, _ => trivial
 | .plain _, hc => fun e => ⟨(hc e).1, (hc e).2.1, h _ (hc e).2.2⟩
 | .cmp _ _ _, hc => ⟨fun e => ⟨(hc.1 e).1, (hc.1 e).2.1, h _ (hc.1 e).2.2⟩, fun e => ⟨(hc.2 e).1, (hc.2 e).2.1, h _ (hc.2 e).2.2⟩⟩
 | .neg c, hc => Cond.dateIn_mono h c hc
 | .conn _ l r, hc => ⟨Cond.dateIn_mono h l hc.1, Cond.dateIn_mono h r hc.2⟩
theorem znq {op : Int} (h : op = 8 \/ op = 9 \/ op = 10) (n : Int) (u : ByteArray) (den : Int) (ps : List Piece) (k l : Ex) (p : zer) (vs : List Int) :
  holdsE p vs (.mk op n u den ps [k, l]) = zsc op (zdb p vs k) (zdb p vs l) := by
 unfold holdsE
 rw [if_neg (by omega), if_neg (by omega), if_neg (by omega), if_neg (by omega)]
theorem zfv {op : Int} (h : op = 8 \/ op = 9 \/ op = 10) (c : Codex) (n : Int) (u : ByteArray) (den : Int) (ps : List Piece) (k l : Ex) :
  simpE c (.mk op n u den ps [k, l]) = (zfi k && zfi l && (decide (k.op = 1) || decide (l.op = 1))) := by
 have hc : zhg op = true := by unfold zhg; rcases h with rfl | rfl | rfl <;> rfl
 unfold simpE
 rw [if_neg (by omega), if_neg (by omega), if_neg (by omega), if_neg (by omega)]
 simp only [hc, Bool.true_and]
theorem ysl {c : Codex} {m : List (Int × Int)} {op : Int} (hop : op = 8 \/ op = 9 \/ op = 10) (n : Int) (u : ByteArray) (den : Int) (ps : List Piece) {l r : Ex} (hl : zep c m l) (hr : zep c m r) (q : Sr) (h5 : q.dates.length = 5) :
  (cmpOf q op [l, r]).2.1 = simpE c (.mk op n u den ps [l, r]) /\ ((cmpOf q op [l, r]).2.1 = true -> SimpR c q (.mk op n u den ps [l, r]) (cmpOf q op [l, r]).1 (cmpOf q op [l, r]).2.2) := by
 have hok := ysk l r q
 rw [zfv hop, part_of hl, part_of hr, <- hok]
 have hc : zhg op = true := by unfold zhg; rcases hop with rfl | rfl | rfl <;> rfl
 unfold cmpOf
 cases hz : xt [l, r] q 0 with
 | mk b z =>
  obtain ⟨s1, k⟩ := z
  cases b with
  | false => exact ⟨rfl, fun h => by cases h⟩
  | true =>
   simp only
   by_cases hn : k = 0
   ·rw [if_pos hn]; exact ⟨by simp [hn], fun h => by cases h⟩
   ·rw [if_neg hn]
    obtain ⟨t1, t2, t3⟩ := yes hz hn
    have hll := zek hl (by omega)
    have hlr := zek hr (by omega)
    obtain ⟨d1, d2, d3, d4⟩ := zjl _ _ _ _ _ hz h5 (fun e he h4 => by
     rcases List.mem_cons.1 he with rfl | he
     ·exact hll.k4 h4
     ·simp at he; subst he; exact hlr.k4 h4)
    have hcd : (cmpCand (cmpCand s1 l r) r l).dates = s1.dates := by rw [zmg, zmg]
    have hcl : ∀ f, zdc s1 f = zdc q f := fun f => by unfold zdc; rw [d4]
    have hmem : ∀ f x, x ∈ zdc (cmpCand (cmpCand s1 l r) r l) f ↔ x ∈ zdc q f \/ cE c f x (.mk op n u den ps [l, r]) := fun f x => by
     rw [zrr hlr hll (by omega), zrr hll hlr (by omega), hcl]
     rw [cE.eq_def c f x (.mk op n u den ps [l, r])]
     simp only [hc, true_and]
     constructor
     ·rintro ((h | h | h) | h | h)
      ·exact .inl h
      ·exact .inr (.inr (.inl h))
      ·exact .inr (.inr (.inr (.inr (.inl h))))
      ·exact .inr (.inr (.inr (.inl h)))
      ·exact .inr (.inr (.inr (.inr (.inr h))))
     ·rintro (h | h | h | h | h | h)
      ·exact .inl (.inl h)
      ·omega
      ·exact .inl (.inr (.inl h))
      ·exact .inr (.inl h)
      ·exact .inl (.inr (.inr h))
      ·exact .inr (.inr h)
    have hz1 : zrp q -> zrp (cmpCand (cmpCand s1 l r) r l) := fun h => zoo (zoo (by unfold zrp; rw [d4]; exact h) _ _) _ _
    have hdi : Cond.dateIn s1.dates (.cmp op ⟨l.op, l.n⟩ ⟨r.op, r.n⟩) := ⟨fun e => ⟨(hll.k4 e).1, (hll.k4 e).2, d3 l (by simp) e⟩, fun e => ⟨(hlr.k4 e).1, (hlr.k4 e).2, d3 r (by simp) e⟩⟩
    refine ⟨by simp [hn], fun _ => ?_⟩
    have htru : ∀ p vs, Cond.tru p vs (.cmp op ⟨l.op, l.n⟩ ⟨r.op, r.n⟩) = holdsE p vs (.mk op n u den ps [l, r]) := fun p vs => by rw [znq hop]; rfl
    split
    ·exact ⟨htru, hmem, hz1, by show (cmpCand (cmpCand s1 l r) r l).dates.length = 5; rw [hcd]; exact d1, by show Cond.dateIn (cmpCand (cmpCand s1 l r) r l).dates _; rw [hcd]; exact hdi, fun j hj => by show (cmpCand (cmpCand s1 l r) r l).dates.getD j false = true; rw [hcd]; exact d2 j hj⟩
    ·exact ⟨htru, hmem, hz1, by rw [hcd]; exact d1, by rw [hcd]; exact hdi, fun j hj => by rw [hcd]; exact d2 j hj⟩
theorem zjm {c : Codex} {m : List (Int × Int)} : ∀ (N : Nat) (e : Ex) (q : Sr), SizeOf.sizeOf e < N -> zep c m e -> e.unit = tT -> q.dates.length = 5 ->
  (simpleOf e q).2.1 = simpE c e /\ ((simpleOf e q).2.1 = true -> SimpR c q e (simpleOf e q).1 (simpleOf e q).2.2)
 | 0, _, _, h, _, _, _ => by omega
 | N + 1, .mk op n u den ps ks, q, hN, h, hu, h5 => by
  simp only [Ex.mk.sizeOf_spec] at hN
  have hu : u = tT := hu
  rw [zid]
  cases zjk h hu with
  | const h1 hk hu' =>
   subst h1 hk
   rw [if_pos rfl]
   refine ⟨by unfold simpE; rw [if_pos rfl]; exact (decide_eq_true hu').symm, fun _ => ⟨fun p vs => ?_, fun f x => ?_, fun h => h, h5, fun e => ?_, fun _ h => h⟩⟩
   ·unfold holdsE; rfl
   ·unfold cE; simp
   ·exact absurd e (show ¬ (1 : Int) = 4 by decide)
  | fact h1 hk hr ht =>
   subst h1 hk
   rw [if_neg (by decide), if_pos rfl]
   refine ⟨by unfold simpE; rw [if_neg (by decide), if_pos rfl]; exact ht.symm, fun _ => ⟨fun p vs => ?_, fun f x => ?_, fun h => zrq h _ (by simp), h5, fun e => ?_, fun _ h => h⟩⟩
   ·unfold holdsE; rfl
   ·rw [zwe]
    unfold cE
    simp only [true_and, or_false]
    constructor
    ·rintro (h | ⟨h1, h2, h3⟩)
     ·exact .inl h
     ·subst h1
      simp at h2
      exact .inr ⟨rfl, h2.imp id fun h => ⟨ht, h⟩⟩
    ·rintro (h | ⟨h1, h2⟩)
     ·exact .inl h
     ·exact .inr ⟨h1.symm, by rcases h2 with h2 | h2 <;> simp [h2], by omega⟩
   ·exact absurd e (show ¬ (2 : Int) = 4 by decide)
  | neg k h1 hk hka hku =>
   subst h1 hk
   rw [if_neg (by decide), if_neg (by decide), if_neg (by decide), if_pos rfl]
   simp only [List.cons.sizeOf_spec] at hN
   obtain ⟨a, b⟩ := zjm N k q (by omega) hka hku h5
   refine ⟨by rw [simpE.eq_def]; simp only [show ¬ (5 : Int) = 1 by decide, show ¬ (5 : Int) = 2 by decide, if_false, if_true]; exact a, fun hs => ?_⟩
   have b := b hs
   refine ⟨fun p vs => ?_, fun f x => ?_, b.zero, b.len, b.dates, b.dgrow⟩
   ·rw [holdsE.eq_def]
    simp only [if_true, Cond.tru]
    rw [b.tru]
   ·rw [cE.eq_def]
    simp only [show ¬ (5 : Int) = 2 by decide, false_and, false_or]
    exact b.mem f x
  | conn k l h1 hk hka hla hku hlu =>
   subst hk
   rw [if_neg (by omega), if_neg (by omega), if_neg (by omega), if_neg (by omega), if_pos h1]
   simp only [List.cons.sizeOf_spec] at hN
   obtain ⟨a, b⟩ := zjm N k q (by omega) hka hku h5
   have hsE : simpE c (.mk op n u den ps [k, l]) = (simpE c k && simpE c l) := by
    rw [simpE.eq_def]
    simp only
    rw [if_neg (by omega), if_neg (by omega), if_neg (by omega), if_pos h1]
   simp only
   rw [hsE]
   by_cases hk : (simpleOf k q).2.1 = true
   ·have b := b hk
    obtain ⟨a', b'⟩ := zjm N l (simpleOf k q).2.2 (by omega) hla hlu b.len
    refine ⟨by rw [<- a, hk, a']; try rfl, fun hs => ?_⟩
    rw [hk, Bool.true_and] at hs
    have b' := b' hs
    refine ⟨fun p vs => ?_, fun f x => ?_, fun h => b'.zero (b.zero h), b'.len, ⟨Cond.dateIn_mono b'.dgrow _ b.dates, b'.dates⟩, fun j hj => b'.dgrow j (b.dgrow j hj)⟩
    ·rw [holdsE.eq_def]
     simp only [Cond.tru]
     rw [b.tru, b'.tru]
     rcases h1 with rfl | rfl
     ·rfl
     ·rfl
    ·have hc : zhg op = false := by unfold zhg; rcases h1 with rfl | rfl <;> rfl
     rw [b'.mem, b.mem, cE.eq_def c f x (.mk op n u den ps [k, l])]
     simp only [hc]
     constructor
     ·rintro ((h | h) | h)
      ·exact .inl h
      ·exact .inr (.inr (.inl h))
      ·exact .inr (.inr (.inr (.inl h)))
     ·rintro (h | h | h | h | h)
      ·exact .inl (.inl h)
      ·omega
      ·exact .inl (.inr h)
      ·exact .inr h
      ·cases h.1
   ·have hk : (simpleOf k q).2.1 = false := by simpa using hk
    rw [<- a, hk]
    exact ⟨by simp, fun h => by simp at h⟩
  | cmp k l h1 hk hka hla =>
   subst hk
   rw [if_neg (by omega), if_neg (by omega), if_pos h1]
   exact ysl h1 n u den ps hka hla q h5
  | other h1 h2 h3 h4 h5' =>
   rw [if_neg h1, if_neg h2, if_neg h5', if_neg h3, if_neg h4]
   refine ⟨?_, fun h => by cases h⟩
   unfold simpE
   rw [if_neg h1, if_neg h2, if_neg h3, if_neg h4]
   have hc : zhg op = false := by unfold zhg; simp; omega
   split
   ·simp [hc]
   ·rfl
structure RefOK (c : Codex) (q : Sr) (es : List Ex) : Prop where
 len : q.dates.length = 5
 zero : zrp q
 mem : ∀ f x, x ∈ zdc q f ↔ ∃ e ∈ es, cE c f x e
 sat : ∀ p vs, yot q.conds p vs ↔ ∀ e ∈ es, holdsE p vs e = true
 dates : ∀ x ∈ q.conds, x.dateIn q.dates
def zzj (c : Codex) (m : List (Int × Int)) (e : Ex) : Prop := zep c m e /\ e.unit = tT
theorem yet {c : Codex} {m : List (Int × Int)} (hm : zol m) (hF : c.facts.length <= 12) : ∀ (es done : List Ex) (q : Sr), (∀ e ∈ es, zzj c m e) -> RefOK c q done ->
  (zdj es q).isSome = es.all (simpE c) /\ ∀ q', zdj es q = some q' -> RefOK c q' (done ++ es)
 | [], done, q, _, hq => ⟨rfl, fun q' h => by simp only [zdj, Option.some.injEq] at h; subst h; simpa using hq⟩
 | e :: r, done, q, he, hq => by
  obtain ⟨hea, heu⟩ := he e (by simp)
  have h1 := zjm _ e q (Nat.lt_succ_self _) hea heu hq.len
  have h4 := zav _ e q (Nat.lt_succ_self _) (zno hm (by omega) _ e (Nat.lt_succ_self _) hea)
  rw [zdj, List.all_cons]
  generalize simpleOf e q = z at h1 h4
  obtain ⟨cd, b, q1⟩ := z
  simp only at h1 h4 ⊢
  cases b with
  | false => rw [<- h1.1]; exact ⟨rfl, fun _ h => by cases h⟩
  | true =>
   obtain ⟨h1, h2⟩ := h1
   have h2 := h2 rfl
   have hn : RefOK c { q1 with conds := q1.conds ++ [cd] } (done ++ [e]) := by
    refine ⟨h2.len, h2.zero hq.zero, fun f x => ?_, fun p vs => ?_, fun x hx => ?_⟩
    ·show x ∈ zdc q1 f ↔ _
     rw [h2.mem, hq.mem]
     simp [or_and_right, exists_or]
    ·have := hq.sat p vs
     unfold yot at this ⊢
     simp only [h4, List.mem_append, List.mem_singleton, or_imp, forall_and, forall_eq]
     rw [this, h2.tru]
    ·show x.dateIn q1.dates
     simp only [h4, List.mem_append, List.mem_singleton] at hx
     rcases hx with hx | rfl
     ·exact Cond.dateIn_mono h2.dgrow _ (hq.dates x hx)
     ·exact h2.dates
   obtain ⟨g1, g2⟩ := yet hm hF r (done ++ [e]) _ (fun x hx => he x (by simp [hx])) hn
   rw [<- h1, Bool.true_and]
   exact ⟨g1, fun q' h => by have := g2 q' h; simpa using this⟩
theorem yeu {c : Codex} {m : List (Int × Int)} (hm : zol m) (hF : c.facts.length <= 12) (ha : ∀ a ∈ c.arts, ∀ e ∈ a.when_, zzj c m e) : ∀ (vs : List Int) (done : List Ex) (q : Sr), (∀ v ∈ vs, 0 <= v /\ v < c.arts.length) -> RefOK c q done ->
  (zag c vs q).isSome = (yg c vs).all (simpE c) /\ ∀ q', zag c vs q = some q' -> RefOK c q' (done ++ yg c vs)
 | [], done, q, _, hq => ⟨rfl, fun q' h => by simp only [zag, Option.some.injEq] at h; subst h; simpa [yg] using hq⟩
 | v :: r, done, q, hv, hq => by
  have hc : yg c (v :: r) = zkb c v ++ yg c r := rfl
  rw [zag, hc, List.all_append]
  have hvr := hv v (by simp)
  cases hav : qn c v with
  | none =>
   exfalso
   unfold qn at hav
   simp at hav
   omega
  | some a =>
   have hw : zkb c v = a.when_ := by unfold zkb; rw [hav]
   obtain ⟨g1, g2⟩ := yet hm hF a.when_ done q (ha a (zfs hav)) hq
   rw [hw]
   simp only
   cases hwn : zdj a.when_ q with
   | none =>
    rw [hwn] at g1
    simp only
    rw [<- g1]
    exact ⟨rfl, fun _ h => by cases h⟩
   | some q1 =>
    rw [hwn] at g1
    simp only
    rw [<- g1]
    obtain ⟨f1, f2⟩ := yeu hm hF ha r (done ++ a.when_) q1 (fun x hx => hv x (by simp [hx])) (g2 q1 hwn)
    exact ⟨by simpa using f1, fun q' h => by have := f2 q' h; simpa using this⟩
theorem ywj (c : Codex) : RefOK c sr0 [] := ⟨rfl, fun e he => by simp [sr0] at he, fun f x => by simp [zdc, sr0, zt], fun p vs => by simp [yot, sr0], fun x hx => by simp [sr0] at hx⟩
def zmh (v : Int) (l : List Int) (r : Int) : Int := l.foldl (fun r x => if x <= v /\ r < x then x else r) r
theorem zel (v : Int) : ∀ (l : List Int) (r : Int), r <= v -> r <= zmh v l r /\ zmh v l r <= v /\ (zmh v l r = r \/ zmh v l r ∈ l) /\ ∀ x ∈ l, x <= v -> x <= zmh v l r
 | [], r, h => ⟨Int.le_refl _, h, .inl rfl, fun x hx => by cases hx⟩
 | y :: l, r, h => by
  have e : zmh v (y :: l) r = zmh v l (if y <= v /\ r < y then y else r) := rfl
  rw [e]
  by_cases hy : y <= v /\ r < y
  ·rw [if_pos hy]
   obtain ⟨a, b, d, g⟩ := zel v l y hy.1
   refine ⟨by omega, b, .inr ?_, fun x hx hv => ?_⟩
   ·rcases d with d | d
    ·rw [d]; simp
    ·simp [d]
   ·rcases List.mem_cons.1 hx with rfl | hx
    ·exact a
    ·exact g x hx hv
  ·rw [if_neg hy]
   obtain ⟨a, b, d, g⟩ := zel v l r h
   refine ⟨a, b, d.imp id fun d => by simp [d], fun x hx hv => ?_⟩
   rcases List.mem_cons.1 hx with rfl | hx
   ·omega
   ·exact g x hx hv
def ynn (nf : Nat) (q : Sr) (v : List Int) : List Int := (List.range nf).map fun (i : Nat) => zmh (v.getD i 0) (zdc q i) 0
theorem zpm (nf : Nat) (q : Sr) (v : List Int) (i : Nat) : (ynn nf q v).getD i 0 = if i < nf then zmh (v.getD i 0) (zdc q i) 0 else 0 := by
 unfold ynn
 rw [List.getD_eq_getElem?_getD, List.getElem?_map]
 by_cases h : i < nf
 ·rw [if_pos h, List.getElem?_range h]; rfl
 ·rw [if_neg h, List.getElem?_eq_none (by simp; omega)]; rfl
theorem ysm {op v v' n : Int} (h : v' <= v) (h1 : n <= v -> n <= v') (h2 : n + 1 <= v -> n + 1 <= v') : zsc op v' n = zsc op v n /\ zsc op n v' = zsc op n v := by
 unfold zsc
 constructor
 ·split
  ·rw [decide_eq_decide]; omega
  ·split
   ·rw [decide_eq_decide]; omega
   ·rw [decide_eq_decide]; omega
 ·split
  ·rw [decide_eq_decide]; omega
  ·split
   ·rw [decide_eq_decide]; omega
   ·rw [decide_eq_decide]; omega
theorem ztw {p : zer} {vs : List Int} {e : Ex} (h : e.op = 2) : zdb p vs e = vs.getD e.n.toNat 0 := by unfold zdb; rw [if_pos h]
theorem zrs {p : zer} {vs : List Int} {e : Ex} (h : e.op = 1) : zdb p vs e = e.n := by unfold zdb; rw [if_neg (by omega), if_neg (by omega)]
theorem ztx {p : zer} {vs vs' : List Int} {e : Ex} (h : e.op ≠ 2) : zdb p vs e = zdb p vs' e := by unfold zdb; rw [if_neg h, if_neg h]
theorem zgu {c : Codex} {m : List (Int × Int)} {p : zer} {vs vs' : List Int} (h0 : ∀ i : Nat, 0 <= vs'.getD i 0 /\ vs'.getD i 0 <= vs.getD i 0) (hT : ∀ i : Nat, zkc c i = true -> vs.getD i 0 <= 1) :
  ∀ (N : Nat) (e : Ex), SizeOf.sizeOf e < N -> zep c m e -> e.unit = tT -> simpE c e = true -> (∀ (f : Nat) x, cE c f x e -> x <= vs.getD f 0 -> x <= vs'.getD f 0) -> holdsE p vs' e = holdsE p vs e
 | 0, _, h, _, _, _, _ => by omega
 | N + 1, .mk op n u den ps ks, hN, h, hu, hs, hc => by
  simp only [Ex.mk.sizeOf_spec] at hN
  have hu : u = tT := hu
  cases zjk h hu with
  | const h1 hk hu =>
   subst h1 hk
   unfold holdsE
   rfl
  | fact h1 hk hr ht =>
   subst h1 hk
   obtain ⟨i, rfl⟩ : ∃ i : Nat, n = i := ⟨n.toNat, by omega⟩
   have h3 := hc i 1 (by unfold cE; exact .inl ⟨rfl, rfl, .inr ⟨ht, rfl⟩⟩)
   have h4 := h0 i
   have e1 : ∀ w : List Int, holdsE p w (.mk 2 (i : Int) u den ps []) = !decide (w.getD i 0 = 0) := fun w => by unfold holdsE; rfl
   rw [e1, e1]
   congr 1
   rw [decide_eq_decide]
   omega
  | neg k h1 hk hka hku =>
   subst h1 hk
   simp only [List.cons.sizeOf_spec] at hN
   have hsk : simpE c k = true := by
    rw [simpE.eq_def] at hs
    simpa only [show ¬ (5 : Int) = 1 by decide, show ¬ (5 : Int) = 2 by decide, if_false, if_true] using hs
   have := zgu (p := p) h0 hT N k (by omega) hka hku hsk (fun f x hx => hc f x (by rw [cE.eq_def]; exact .inr hx))
   rw [holdsE.eq_def, holdsE.eq_def p vs]
   simp only [if_true]
   rw [this]
  | conn k l h1 hk hka hla hku hlu =>
   subst hk
   simp only [List.cons.sizeOf_spec] at hN
   have hsE : simpE c (.mk op n u den ps [k, l]) = (simpE c k && simpE c l) := by
    rw [simpE.eq_def]
    simp only
    rw [if_neg (by omega), if_neg (by omega), if_neg (by omega), if_pos h1]
   rw [hsE, Bool.and_eq_true] at hs
   have g1 := zgu (p := p) h0 hT N k (by omega) hka hku hs.1 (fun f x hx => hc f x (by rw [cE.eq_def]; exact .inr (.inl hx)))
   have g2 := zgu (p := p) h0 hT N l (by omega) hla hlu hs.2 (fun f x hx => hc f x (by rw [cE.eq_def]; exact .inr (.inr (.inl hx))))
   rw [holdsE.eq_def, holdsE.eq_def p vs]
   simp only
   rw [g1, g2]
   rcases h1 with rfl | rfl <;> rfl
  | cmp k l h1 hk hka hla =>
   subst hk
   rw [zfv h1] at hs
   simp only [Bool.and_eq_true, Bool.or_eq_true, decide_eq_true_eq] at hs
   have hlk := zek hka (zfc hs.1.1)
   have hll := zek hla (zfc hs.1.2)
   have hce : zhg op = true := by unfold zhg; rcases h1 with rfl | rfl | rfl <;> rfl
   rw [znq h1, znq h1]
   have key : ∀ a b : Ex, LeafE c a -> a.op = 2 -> b.op = 1 -> (∀ (f : Nat) x, cE c f x a -> x <= vs.getD f 0 -> x <= vs'.getD f 0) -> (∀ (f : Nat) x, cP c f x a b -> x <= vs.getD f 0 -> x <= vs'.getD f 0) ->
     zsc op (zdb p vs' a) (zdb p vs' b) = zsc op (zdb p vs a) (zdb p vs b) /\ zsc op (zdb p vs' b) (zdb p vs' a) = zsc op (zdb p vs b) (zdb p vs a) := by
    intro a b ha ha2 hb1 hx hy
    rw [ztw ha2, ztw ha2, zrs hb1, zrs hb1]
    obtain ⟨i, hi⟩ : ∃ i : Nat, a.n = i := ⟨a.n.toNat, by have := ha.k2 ha2; omega⟩
    rw [show a.n.toNat = i by omega]
    have h3 := h0 i
    cases ht : zkc c i with
    | true =>
     have h4 := hT i ht
     have h5 := hx i 1 ((zwd ha).2 ⟨ha2, hi, .inr ⟨ht, rfl⟩⟩)
     rw [show vs'.getD i 0 = vs.getD i 0 by omega]
     exact ⟨rfl, rfl⟩
    | false =>
     exact ysm h3.2 (hy i _ ⟨ha2, hi, hb1, ht, .inl rfl⟩) (hy i _ ⟨ha2, hi, hb1, ht, .inr rfl⟩)
   by_cases hk2 : k.op = 2
   ·exact (key k l hlk hk2 (by omega) (fun f x hx => hc f x (by rw [cE.eq_def]; exact .inr (.inl hx))) (fun f x hx => hc f x (by rw [cE.eq_def]; exact .inr (.inr (.inr ⟨hce, .inl hx⟩))))).1
   ·by_cases hl2 : l.op = 2
    ·exact (key l k hll hl2 (by omega) (fun f x hx => hc f x (by rw [cE.eq_def]; exact .inr (.inr (.inl hx)))) (fun f x hx => hc f x (by rw [cE.eq_def]; exact .inr (.inr (.inr ⟨hce, .inr hx⟩))))).2
    ·rw [ztx (vs' := vs) hk2, ztx (vs' := vs) hl2]
  | other h1 h2 h3 h4 h5 =>
   exfalso
   unfold simpE at hs
   rw [if_neg h1, if_neg h2, if_neg h3, if_neg h4] at hs
   have hce : zhg op = false := by unfold zhg; simp; omega
   split at hs
   ·simp [hce] at hs
   ·cases hs
theorem zzk {v v' w : List Int} (h : ∀ i : Nat, v'.getD i 0 <= v.getD i 0) : ∀ fs : List Int, znj fs v w = true -> znj fs v' w = true
 | [], hl => by cases hl
 | f :: r, hl => by
  simp only [znj] at hl ⊢
  have := h f.toNat
  by_cases e : v.getD f.toNat 0 = w.getD f.toNat 0
  ·rw [if_neg (by omega)] at hl
   by_cases e' : v'.getD f.toNat 0 = w.getD f.toNat 0
   ·rw [if_neg (by omega)]; exact zzk h r hl
   ·rw [if_pos e']; exact decide_eq_true (by omega)
  ·rw [if_pos e] at hl
   have := of_decide_eq_true hl
   rw [if_pos (by omega)]; exact decide_eq_true (by omega)
theorem zbl {c : Codex} (h : zw c = true) : ∃ m, zol m /\ ∀ a ∈ c.arts, ∀ e ∈ a.when_, zzj c m e := by
 unfold zw at h
 simp only [Bool.and_eq_true, decide_eq_true_eq] at h
 obtain ⟨_, h6⟩ := h
 cases hl : wt c.lines.length c.arts [] with
 | none => rw [hl] at h6; cases h6
 | some m =>
  rw [hl] at h6
  simp only [List.all_eq_true] at h6
  refine ⟨m, zif _ _ _ _ hl (fun k v h => by cases h), fun a ha e he => ?_⟩
  have := h6 a ha
  unfold zkp at this
  simp only [Bool.and_eq_true, List.all_eq_true] at this
  have hw := this.1.2 e he
  refine ⟨(zri hw).1, ?_⟩
  unfold qf at hw
  split at hw
  ·assumption
  ·cases hw
theorem zty {vs : List Int} {v : Int} (h : v ∈ zy vs) : v ∈ vs := (List.mergeSort_perm vs fun x y => decide (x <= y)).mem_iff.1 (zgq h)
theorem znr (c : Codex) : ∀ (vs : List Int) (r : Int × Int), r.1 <= (vs.foldl (zex c) r).1 /\ (vs.foldl (zex c) r).2 <= r.2
 | [], r => ⟨Int.le_refl _, Int.le_refl _⟩
 | v :: vs, r => by
  rw [List.foldl_cons]
  have := znr c vs (zex c r v)
  have h2 : r.1 <= (zex c r v).1 /\ (zex c r v).2 <= r.2 := by
   unfold zex
   split
   ·constructor <;> simp only <;> omega
   ·exact ⟨Int.le_refl _, Int.le_refl _⟩
  omega
theorem ztz {c : Codex} (h : zw c = true) (hF : c.facts.length <= 12) {vs : List Int} (hv : ∀ v ∈ vs, 0 <= v /\ v < c.arts.length) :
  (zag c (zy vs) sr0).isSome = (yg c (zy vs)).all (simpE c) /\ ∀ q, zag c (zy vs) sr0 = some q -> RefOK c q (yg c (zy vs)) := by
 obtain ⟨m, hm, hc⟩ := zbl h
 have := yeu hm hF hc (zy vs) [] sr0 (fun v hvv => hv v (zty hvv)) (ywj c)
 simpa using this
def yhp (c : Codex) (v : List Int) : Prop := ∀ i : Nat, 0 <= v.getD i 0 /\ (zkc c i = true -> v.getD i 0 <= 1)
theorem ymn {nf : Nat} {q : Sr} {k : Nat} (hq : CFull nf q k) (hz : zrp q) {v : List Int} (h0 : ∀ i : Nat, 0 <= v.getD i 0) : zgo q nf (ynn nf q v) := by
 refine ⟨by simp [ynn, st0], fun e he => ?_, fun i hi => ?_⟩
 ·obtain ⟨f, hf, rfl⟩ := List.mem_map.1 he
  obtain ⟨e, hee, rfl⟩ := List.mem_map.1 (zeh.1 hf)
  have hr := hq.inv.rng e hee
  have hl := zbj hq.inv.nd hee
  show (ynn nf q v).getD e.1.toNat 0 ∈ zdp ((zt e.1 q.cands).getD [])
  rw [zeh, hl, zpm, if_pos (by omega)]
  have hc : zdc q (e.1.toNat : Int) = e.2 := by unfold zdc; rw [Int.toNat_of_nonneg hr.1, hl]; rfl
  rw [hc]
  obtain ⟨_, _, d, _⟩ := zel (v.getD e.1.toNat 0) e.2 0 (h0 _)
  rcases d with d | d
  ·rw [d]; exact hz e hee
  ·exact d
 ·have hz' : (st0 nf 0).vs.getD i 0 = 0 := by
   simp only [st0, List.getD_eq_getElem?_getD, List.getElem?_replicate]
   split <;> rfl
  rw [hz', zpm]
  split
  ·have hn : zt (i : Int) q.cands = none := by
    cases hl : zt (i : Int) q.cands with
    | none => rfl
    | some w =>
     exfalso
     have hm := zcc hl
     refine hi (_, _) (List.mem_map.2 ⟨(i : Int), zeh.2 (List.mem_map.2 ⟨_, hm, rfl⟩), rfl⟩) ?_
     simp
   unfold zdc
   rw [hn]
   rfl
  ·rfl
theorem ymo {c : Codex} (h : zw c = true) (hF : c.facts.length <= 12) (hw : ∀ a ∈ c.arts, a.when_.length <= 41) {vs : List Int} (hv : ∀ v ∈ vs, 0 <= v /\ v < c.arts.length) {q : Sr} (hq : xm c vs = some q) :
  (∀ w, qw c (zy vs) q = some w -> (yi c (zy vs)).1 <= w.day /\ w.day < (yi c (zy vs)).2 /\ w.value.length = c.facts.length /\ w.has = ((List.range c.facts.length).map fun (i : Nat) => (zt (i : Int) q.cands).isSome) /\ w.arts = zy vs /\
   (∀ e ∈ yg c (zy vs), holdsE (yz w.day) w.value e = true) /\ zgo q c.facts.length w.value /\
   ∀ d v, (yi c (zy vs)).1 <= d -> d < (yi c (zy vs)).2 -> yhp c v -> (∀ e ∈ yg c (zy vs), holdsE (yz d) v e = true) -> w.day <= d /\ (w.day = d -> znj (zhz q) v w.value = false)) /\
  (qw c (zy vs) q = none -> ∀ d v, (yi c (zy vs)).1 <= d -> d < (yi c (zy vs)).2 -> yhp c v -> ¬ ∀ e ∈ yg c (zy vs), holdsE (yz d) v e = true) := by
 obtain ⟨hfull, hgo⟩ := zlc h hF hw hv hq
 obtain ⟨hs1, hs2⟩ := ztz h hF hv
 have hR := hs2 q hgo
 rw [hgo] at hs1
 have hsimp : ∀ e ∈ yg c (zy vs), simpE c e = true := List.all_eq_true.1 hs1.symm
 obtain ⟨m, hm, hc⟩ := zbl h
 have hN : ∀ e ∈ yg c (zy vs), zzj c m e := fun e he => by
  unfold yg at he
  obtain ⟨v, hvv, he⟩ := List.mem_flatMap.1 he
  unfold zkb at he
  cases ha : qn c v with
  | none => rw [ha] at he; cases he
  | some a => rw [ha] at he; exact hc a (zfs ha) e he
 have hfw := znr c (zy vs) (0, 36525)
 have hfr : (zy vs).foldl (zex c) (0, 36525) = yi c (zy vs) := rfl
 rw [hfr] at hfw
 simp only at hfw
 obtain ⟨w1, w2⟩ := ylf (yml hfull) hR.dates hfw.1 hfw.2
 have low : ∀ d v, yhp c v -> (∀ e ∈ yg c (zy vs), holdsE (yz d) v e = true) -> zgo q c.facts.length (ynn c.facts.length q v) /\ zwp q d (ynn c.facts.length q v) /\ ∀ i : Nat, (ynn c.facts.length q v).getD i 0 <= v.getD i 0 := by
  intro d v hg hh
  have hb : ∀ i : Nat, 0 <= (ynn c.facts.length q v).getD i 0 /\ (ynn c.facts.length q v).getD i 0 <= v.getD i 0 := fun i => by
   rw [zpm]
   have h0 := (hg i).1
   split
   ·obtain ⟨a, b, _, _⟩ := zel (v.getD i 0) (zdc q i) 0 h0
    exact ⟨a, b⟩
   ·exact ⟨Int.le_refl _, h0⟩
  refine ⟨ymn hfull hR.zero fun i => (hg i).1, (hR.sat _ _).2 fun e he => ?_, fun i => (hb i).2⟩
  have := zgu (p := yz d) (m := m) hb (fun i => (hg i).2) _ e (Nat.lt_succ_self _) (hN e he).1 (hN e he).2 (hsimp e he) (fun f x hx hxv => by
   rw [zpm]
   by_cases hf : f < c.facts.length
   ·rw [if_pos hf]
    obtain ⟨_, _, _, g⟩ := zel (v.getD f 0) (zdc q f) 0 (hg f).1
    exact g x ((hR.mem _ _).2 ⟨e, he, hx⟩) hxv
   ·exfalso
    have hm := (hR.mem f x).2 ⟨e, he, hx⟩
    unfold zdc at hm
    cases hl : zt (f : Int) q.cands with
    | none => rw [hl] at hm; cases hm
    | some l => have := hfull.inv.rng _ (zcc hl); simp only at this; omega)
  rw [this]
  exact hh e he
 unfold qw
 simp only
 constructor
 ·intro w hw
  cases hg : zca q c.facts.length (min (yi c (zy vs)).2 ((yi c (zy vs)).1 + yw q.dates) - (yi c (zy vs)).1).toNat (yi c (zy vs)).1 [] with
  | none => rw [hg] at hw; cases hw
  | some z =>
   obtain ⟨d, vals⟩ := z
   rw [hg] at hw
   simp only [Option.some.injEq] at hw
   subst hw
   obtain ⟨a1, a2, a3, a4, a5⟩ := w1 d vals hg
   refine ⟨a1, a2, by have := a3.len; simpa [st0] using this, rfl, rfl, (hR.sat _ _).1 a4, a3, fun d' v' b1 b2 b3 b4 => ?_⟩
   obtain ⟨l1, l2, l3⟩ := low d' v' b3 b4
   obtain ⟨g1, g2⟩ := a5 d' _ b1 b2 l1 l2
   refine ⟨g1, fun e => ?_⟩
   have := g2 e
   cases hless : znj (zhz q) v' vals with
   | false => rfl
   | true => rw [zzk l3 _ hless] at this; cases this
 ·intro hw
  cases hg : zca q c.facts.length (min (yi c (zy vs)).2 ((yi c (zy vs)).1 + yw q.dates) - (yi c (zy vs)).1).toNat (yi c (zy vs)).1 [] with
  | some z => obtain ⟨d, vals⟩ := z; rw [hg] at hw; cases hw
  | none =>
   intro d v b1 b2 b3 b4
   obtain ⟨l1, l2, _⟩ := low d v b3 b4
   exact w2 hg d _ b1 b2 l1 l2
def zua (n : Int) : List Int -> List Int
 | [] => [n]
 | x :: r => if n < x then n :: x :: r else x :: zua n r
def zmi (l : List Int) (n : Int) : List Int := if n < 0 \/ 1000000000000 < n \/ n ∈ l then l else zua n l
theorem zwf {x n : Int} : ∀ l : List Int, x ∈ zua n l ↔ x = n \/ x ∈ l
 | [] => by simp [zua]
 | y :: r => by
  unfold zua
  split
  ·simp
  ·simp only [List.mem_cons, zwf r]
   constructor
   ·rintro (h | h | h)
    ·exact .inr (.inl h)
    ·exact .inl h
    ·exact .inr (.inr h)
   ·rintro (h | h | h)
    ·exact .inr (.inl h)
    ·exact .inl h
    ·exact .inr (.inr h)
theorem yev {n : Int} : ∀ l : List Int, l.Pairwise (· < ·) -> n ∉ l -> (zua n l).Pairwise (· < ·)
 | [], _, _ => by simp [zua]
 | y :: r, h, hn => by
  simp only [List.pairwise_cons] at h
  simp only [List.mem_cons, not_or] at hn
  unfold zua
  split
  ·rename_i hlt
   simp only [List.pairwise_cons, List.mem_cons]
   refine ⟨fun a ha => ?_, h.1, h.2⟩
   rcases ha with rfl | ha
   ·exact hlt
   ·have := h.1 a ha; omega
  ·simp only [List.pairwise_cons]
   refine ⟨fun a ha => ?_, yev r h.2 hn.2⟩
   rcases (zwf r).1 ha with rfl | ha
   ·omega
   ·exact h.1 a ha
theorem yew (n : Int) : ∀ l : List Int, (zua n l).length = l.length + 1
 | [] => rfl
 | x :: r => by
  unfold zua
  split
  ·rfl
  ·simp [yew n r]
theorem zmj {x n : Int} {l : List Int} (h0 : 0 <= n) (h1 : n <= 1000000000000) : x ∈ zmi l n ↔ x ∈ l \/ x = n := by
 unfold zmi
 split
 ·rename_i h
  have h : n ∈ l := by
   rcases h with h | h | h
   ·omega
   ·omega
   ·exact h
  constructor
  ·exact .inl
  ·rintro (h2 | rfl)
   ·exact h2
   ·exact h
 ·rw [zwf]; exact Or.comm
theorem zmk {n : Int} {l : List Int} (h : l.Pairwise (· < ·)) : (zmi l n).Pairwise (· < ·) := by
 unfold zmi
 split
 ·exact h
 ·rename_i h1
  exact yev l h fun h2 => h1 (.inr (.inr h2))
theorem zjn (l : List Int) (n : Int) : (zmi l n).length <= l.length + 1 := by
 unfold zmi
 split
 ·omega
 ·rw [yew]; omega
theorem zwg : ∀ l l' : List Int, l.Pairwise (· < ·) -> l'.Pairwise (· < ·) -> (∀ x, x ∈ l ↔ x ∈ l') -> l = l'
 | [], [], _, _, _ => rfl
 | [], b :: r', _, _, h => by have := (h b).2 (by simp); cases this
 | a :: r, [], _, _, h => by have := (h a).1 (by simp); cases this
 | a :: r, b :: r', h1, h2, h => by
  simp only [List.pairwise_cons] at h1 h2
  have e : a = b := by
   rcases List.mem_cons.1 ((h a).1 (by simp)) with e | ha
   ·exact e
   ·rcases List.mem_cons.1 ((h b).2 (by simp)) with e | hb
    ·exact e.symm
    ·have := h1.1 b hb; have := h2.1 a ha; omega
  subst e
  refine congrArg _ (zwg r r' h1.2 h2.2 fun x => ?_)
  constructor
  ·intro hx
   rcases List.mem_cons.1 ((h x).1 (by simp [hx])) with rfl | hx'
   ·have := h1.1 x hx; omega
   ·exact hx'
  ·intro hx
   rcases List.mem_cons.1 ((h x).2 (by simp [hx])) with rfl | hx'
   ·have := h2.1 x hx; omega
   ·exact hx'
def zes (c : Codex) (f op : Int) (k o : Ex) (l : List Int) : List Int := if zhg op = true /\ k.op = 2 /\ k.n = f /\ o.op = 1 /\ zkc c f = false then zmi (zmi l o.n) (o.n + 1) else l
def zbo (c : Codex) (f op n : Int) (l : List Int) : List Int := if op = 2 /\ n = f then (if zkc c f = true then zmi (zmi l 0) 1 else zmi l 0) else l
def candE (c : Codex) (f : Int) : Ex -> List Int -> List Int
 | .mk op n _ _ _ ks, l => match ks with
  | [k] => candE c f k (zbo c f op n l)
  | [k, r] => zes c f op r k (candE c f r (zes c f op k r (candE c f k (zbo c f op n l))))
  | _ => zbo c f op n l
def yex (c : Codex) (f : Int) (es : List Ex) : List Int := es.foldl (fun l e => candE c f e l) []
theorem zem {c : Codex} {f op n x : Int} {l : List Int} : x ∈ zbo c f op n l ↔ x ∈ l \/ (op = 2 /\ n = f /\ (x = 0 \/ (zkc c f = true /\ x = 1))) := by
 unfold zbo
 by_cases h : op = 2 /\ n = f
 ·rw [if_pos h]
  cases ht : zkc c f with
  | true =>
   rw [if_pos rfl, zmj (by omega) (by omega), zmj (by omega) (by omega)]
   constructor
   ·rintro ((h1 | h1) | h1)
    ·exact .inl h1
    ·exact .inr ⟨h.1, h.2, .inl h1⟩
    ·exact .inr ⟨h.1, h.2, .inr ⟨rfl, h1⟩⟩
   ·rintro (h1 | ⟨_, _, h1 | ⟨_, h1⟩⟩)
    ·exact .inl (.inl h1)
    ·exact .inl (.inr h1)
    ·exact .inr h1
  | false =>
   rw [if_neg (by simp), zmj (by omega) (by omega)]
   constructor
   ·rintro (h1 | h1)
    ·exact .inl h1
    ·exact .inr ⟨h.1, h.2, .inl h1⟩
   ·rintro (h1 | ⟨_, _, h1 | ⟨h1, _⟩⟩)
    ·exact .inl h1
    ·exact .inr h1
    ·cases h1
 ·rw [if_neg h]
  constructor
  ·exact .inl
  ·rintro (h1 | ⟨h1, h2, _⟩)
   ·exact h1
   ·exact absurd ⟨h1, h2⟩ h
theorem zen {c : Codex} {f op n : Int} {l : List Int} (h : l.Pairwise (· < ·)) : (zbo c f op n l).Pairwise (· < ·) := by
 unfold zbo
 split
 ·split
  ·exact zmk (zmk h)
  ·exact zmk h
 ·exact h
theorem zzl {c : Codex} {f op x : Int} {k o : Ex} {l : List Int} (ho : LeafE c o) : x ∈ zes c f op k o l ↔ x ∈ l \/ (zhg op = true /\ cP c f x k o) := by
 unfold zes cP
 by_cases h : zhg op = true /\ k.op = 2 /\ k.n = f /\ o.op = 1 /\ zkc c f = false
 ·rw [if_pos h]
  obtain ⟨h1, h2, h3, h4, h5⟩ := h
  have := ho.k1 h4
  rw [zmj (by omega) (by omega), zmj (by omega) (by omega)]
  constructor
  ·rintro ((h | h) | h)
   ·exact .inl h
   ·exact .inr ⟨h1, h2, h3, h4, h5, .inl h⟩
   ·exact .inr ⟨h1, h2, h3, h4, h5, .inr h⟩
  ·rintro (h | ⟨_, _, _, _, _, h | h⟩)
   ·exact .inl (.inl h)
   ·exact .inl (.inr h)
   ·exact .inr h
 ·rw [if_neg h]
  constructor
  ·exact .inl
  ·rintro (h1 | ⟨h1, h2, h3, h4, h5, _⟩)
   ·exact h1
   ·exact absurd ⟨h1, h2, h3, h4, h5⟩ h
theorem zzm {c : Codex} {f op : Int} {k o : Ex} {l : List Int} (h : l.Pairwise (· < ·)) : (zes c f op k o l).Pairwise (· < ·) := by
 unfold zes
 split
 ·exact zmk (zmk h)
 ·exact h
theorem zwh {c : Codex} {f op : Int} (h : zhg op = false) (k o : Ex) (l : List Int) : zes c f op k o l = l := by
 unfold zes
 rw [if_neg (fun h2 => by rw [h] at h2; cases h2.1)]
theorem zub {c : Codex} {f : Int} {k : Ex} (h : LeafE c k) (l : List Int) : candE c f k l = zbo c f k.op k.n l := by
 obtain ⟨op, n, u, den, ps, ks⟩ := k
 have hk : ks = [] := h.no
 subst hk
 unfold candE
 rfl
theorem zjo {c : Codex} {m : List (Int × Int)} {f : Int} : ∀ (N : Nat) (e : Ex), SizeOf.sizeOf e < N -> zep c m e -> e.unit = tT -> simpE c e = true -> ∀ l : List Int, l.Pairwise (· < ·) -> (candE c f e l).Pairwise (· < ·) /\ ∀ x, x ∈ candE c f e l ↔ x ∈ l \/ cE c f x e
 | 0, _, h, _, _, _, _, _ => by omega
 | N + 1, .mk op n u den ps ks, hN, h, hu, hs, l, hl => by
  simp only [Ex.mk.sizeOf_spec] at hN
  have hu : u = tT := hu
  cases zjk h hu with
  | const h1 hk hu =>
   subst hk
   refine ⟨by unfold candE; exact zen hl, fun x => ?_⟩
   unfold candE
   rw [cE.eq_def]
   simp only [zem, or_false]
  | fact h1 hk hr ht =>
   subst hk
   refine ⟨by unfold candE; exact zen hl, fun x => ?_⟩
   unfold candE
   rw [cE.eq_def]
   simp only [zem, or_false]
  | neg k h1 hk hka hku =>
   subst h1 hk
   simp only [List.cons.sizeOf_spec] at hN
   have hsk : simpE c k = true := by
    rw [simpE.eq_def] at hs
    simpa only [show ¬ (5 : Int) = 1 by decide, show ¬ (5 : Int) = 2 by decide, if_false, if_true] using hs
   have := zjo (f := f) N k (by omega) hka hku hsk (zbo c f 5 n l) (zen hl)
   refine ⟨by rw [candE.eq_def]; exact this.1, fun x => ?_⟩
   rw [candE.eq_def, cE.eq_def]
   simp only
   rw [this.2, zem, or_assoc]
  | conn k r h1 hk hka hra hku hru =>
   subst hk
   simp only [List.cons.sizeOf_spec] at hN
   have hsE : simpE c (.mk op n u den ps [k, r]) = (simpE c k && simpE c r) := by
    rw [simpE.eq_def]
    simp only
    rw [if_neg (by omega), if_neg (by omega), if_neg (by omega), if_pos h1]
   rw [hsE, Bool.and_eq_true] at hs
   have hc : zhg op = false := by unfold zhg; rcases h1 with rfl | rfl <;> rfl
   have g1 := zjo (f := f) N k (by omega) hka hku hs.1 (zbo c f op n l) (zen hl)
   have g2 := zjo (f := f) N r (by omega) hra hru hs.2 _ g1.1
   have e : candE c f (.mk op n u den ps [k, r]) l = candE c f r (candE c f k (zbo c f op n l)) := by
    rw [candE.eq_def]
    simp only
    rw [zwh hc, zwh hc]
   rw [e]
   refine ⟨g2.1, fun x => ?_⟩
   rw [g2.2, g1.2, zem, cE.eq_def c f x (.mk op n u den ps [k, r])]
   simp only [hc]
   constructor
   ·rintro (((h | h) | h) | h)
    ·exact .inl h
    ·exact .inr (.inl h)
    ·exact .inr (.inr (.inl h))
    ·exact .inr (.inr (.inr (.inl h)))
   ·rintro (h | h | h | h | h)
    ·exact .inl (.inl (.inl h))
    ·exact .inl (.inl (.inr h))
    ·exact .inl (.inr h)
    ·exact .inr h
    ·cases h.1
  | cmp k r h1 hk hka hra =>
   subst hk
   rw [zfv h1] at hs
   simp only [Bool.and_eq_true, Bool.or_eq_true, decide_eq_true_eq] at hs
   have hlk := zek hka (zfc hs.1.1)
   have hlr := zek hra (zfc hs.1.2)
   have e : candE c f (.mk op n u den ps [k, r]) l = zes c f op r k (zbo c f r.op r.n (zes c f op k r (zbo c f k.op k.n (zbo c f op n l)))) := by
    rw [candE.eq_def]
    simp only
    rw [zub hlk, zub hlr]
   rw [e]
   refine ⟨zzm (zen (zzm (zen (zen hl)))), fun x => ?_⟩
   rw [zzl hlk, zem, zzl hlr, zem, zem, cE.eq_def, <- zwd hlk, <- zwd hlr]
   simp only
   constructor
   ·rintro (((((h | h) | h) | h) | h) | h)
    ·exact .inl h
    ·exact .inr (.inl h)
    ·exact .inr (.inr (.inl h))
    ·exact .inr (.inr (.inr (.inr ⟨h.1, .inl h.2⟩)))
    ·exact .inr (.inr (.inr (.inl h)))
    ·exact .inr (.inr (.inr (.inr ⟨h.1, .inr h.2⟩)))
   ·rintro (h | h | h | h | ⟨h, h' | h'⟩)
    ·exact .inl (.inl (.inl (.inl (.inl h))))
    ·exact .inl (.inl (.inl (.inl (.inr h))))
    ·exact .inl (.inl (.inl (.inr h)))
    ·exact .inl (.inr h)
    ·exact .inl (.inl (.inr ⟨h, h'⟩))
    ·exact .inr ⟨h, h'⟩
  | other h1 h2 h3 h4 h5 =>
   exfalso
   unfold simpE at hs
   rw [if_neg h1, if_neg h2, if_neg h3, if_neg h4] at hs
   have hce : zhg op = false := by unfold zhg; simp; omega
   split at hs
   ·simp [hce] at hs
   ·cases hs
theorem zuc {c : Codex} {m : List (Int × Int)} {f : Int} : ∀ (es : List Ex), (∀ e ∈ es, zzj c m e /\ simpE c e = true) -> ∀ l : List Int, l.Pairwise (· < ·) -> (es.foldl (fun l e => candE c f e l) l).Pairwise (· < ·) /\ ∀ x, x ∈ es.foldl (fun l e => candE c f e l) l ↔ x ∈ l \/ ∃ e ∈ es, cE c f x e
 | [], _, l, hl => ⟨hl, fun x => by simp⟩
 | e :: r, h, l, hl => by
  obtain ⟨⟨h1, h2⟩, h3⟩ := h e (by simp)
  have g := zjo (f := f) _ e (Nat.lt_succ_self _) h1 h2 h3 l hl
  have g2 := zuc (f := f) r (fun x hx => h x (by simp [hx])) _ g.1
  rw [List.foldl_cons]
  refine ⟨g2.1, fun x => ?_⟩
  rw [g2.2, g.2, or_assoc]
  simp
theorem ysn {c : Codex} {m : List (Int × Int)} {q : Sr} {nf k : Nat} {es : List Ex} (hf : CFull nf q k) (hR : RefOK c q es) (he : ∀ e ∈ es, zzj c m e /\ simpE c e = true) (f : Int) : yex c f es = zdp (zdc q f) := by
 obtain ⟨g1, g2⟩ := zuc (f := f) es he [] .nil
 refine zwg _ _ g1 (zrn ?_) fun x => ?_
 ·unfold zdc
  cases hl : zt f q.cands with
  | none => simp
  | some w => exact hf.inv.ndv _ (zcc hl)
 ·rw [zeh, hR.mem]
  have := g2 x
  simpa [yex] using this
def zeo (ns : List Int) : Int := ns.foldr (· * ·) 1
def ymp (B : Int) (ns : List Int) (p : Int) : Int := ns.foldl (fun p n => min (p * n) B) p
theorem zns {B : Int} (hB : 1 <= B) : ∀ (ns : List Int) (p : Int), 1 <= p -> (∀ n ∈ ns, 1 <= n) -> ymp B ns (min p B) = min (p * zeo ns) B
 | [], p, _, _ => by simp [ymp, zeo]
 | n :: r, p, hp, h => by
  have h1 := h n (by simp)
  have hpn : p <= p * n := by
   have := Int.mul_le_mul_of_nonneg_left h1 (show 0 <= p by omega)
   omega
  have hBn : B <= B * n := by
   have := Int.mul_le_mul_of_nonneg_left h1 (show 0 <= B by omega)
   omega
  have e : min (min p B * n) B = min (p * n) B := by
   by_cases hb : p <= B
   ·rw [Int.min_eq_left hb]
   ·rw [Int.min_eq_right (by omega : B <= p), Int.min_eq_right hBn, Int.min_eq_right (by omega : B <= p * n)]
  show ymp B r (min (min p B * n) B) = _
  rw [e, zns hB r (p * n) (by omega) fun x hx => h x (by simp [hx])]
  show min (p * n * zeo r) B = min (p * (n * zeo r)) B
  rw [Int.mul_assoc]
theorem zfd : ∀ a b : List Int, zeo (a ++ b) = zeo a * zeo b
 | [], b => by simp [zeo]
 | n :: a, b => by
  show n * zeo (a ++ b) = n * zeo a * zeo b
  rw [zfd a b, Int.mul_assoc]
theorem yey (g g' : Nat -> Int) (k : Nat) (h1 : g' k = 1) (h : ∀ i, i ≠ k -> g i = g' i) : ∀ n, zeo ((List.range n).map g) = (if k < n then g k else 1) * zeo ((List.range n).map g')
 | 0 => by simp [zeo]
 | n + 1 => by
  rw [List.range_succ, List.map_append, List.map_append, zfd, zfd, yey g g' k h1 h n]
  show _ * zeo [g n] = _ * (_ * zeo [g' n])
  have e1 : ∀ y : Int, zeo [y] = y := fun y => by simp [zeo]
  rw [e1, e1]
  by_cases hk : k = n
  ·subst hk
   rw [if_neg (by omega), if_pos (by omega), h1, Int.one_mul, Int.mul_one, Int.mul_comm]
  ·rw [h n (by omega)]
   by_cases hn : k < n
   ·rw [if_pos hn, if_pos (by omega), Int.mul_assoc]
   ·rw [if_neg hn, if_neg (by omega), Int.one_mul, Int.one_mul]
theorem zud (nf : Nat) : ∀ m : List (Int × List Int), (m.map (·.1)).Nodup -> (∀ e ∈ m, 0 <= e.1 /\ e.1 < nf) -> (∀ e ∈ m, 1 <= e.2.length) ->
  zeo (m.map fun e => (e.2.length : Int)) = zeo ((List.range nf).map fun (i : Nat) => max 1 ((((zt (i : Int) m).getD []).length : Nat) : Int))
 | [], _, _, _ => by
  have : ∀ n, zeo ((List.range n).map fun (i : Nat) => max 1 ((((zt (i : Int) ([] : List (Int × List Int))).getD []).length : Nat) : Int)) = 1 := by
   intro n
   induction n with
   | zero => rfl
   | succ n ih => rw [List.range_succ, List.map_append, zfd, ih]; rfl
  rw [this]
  rfl
 | (k, l) :: r, hn, hr, hl => by
  simp only [List.map_cons, List.nodup_cons] at hn
  obtain ⟨j, hj⟩ : ∃ j : Nat, k = j := ⟨k.toNat, by have := hr (k, l) (by simp); simp only at this; omega⟩
  have hkr := hr (k, l) (by simp)
  simp only at hkr
  have hnone : zt k r = none := by
   have := zcw (k := k) (l := r)
   rw [decide_eq_false hn.1] at this
   simpa using this
  rw [yey _ (fun (i : Nat) => max 1 ((((zt (i : Int) r).getD []).length : Nat) : Int)) j]
  ·rw [if_pos (by omega), <- zud nf r hn.2 (fun e he => hr e (by simp [he])) fun e he => hl e (by simp [he])]
   have h1 := hl (k, l) (by simp)
   simp only at h1
   have e : (zt (j : Int) ((k, l) :: r)) = some l := by rw [<- hj]; simp [zt]
   rw [e]
   show (l.length : Int) * _ = max 1 (l.length : Int) * _
   rw [Int.max_eq_right (by omega)]
   rfl
  ·rw [<- hj, hnone]; rfl
  ·intro i hi
   have : zt (i : Int) ((k, l) :: r) = zt (i : Int) r := by
    simp only [zt]
    rw [if_neg]
    simp
    omega
   rw [this]
def zhi (ls : List (List Int)) : Int := ls.foldl (fun p l => min (p * max 1 (l.length : Int)) 1000000) 1
def ybw (c : Codex) (es : List Ex) : List (List Int) := (List.range c.facts.length).map fun (i : Nat) => yex c i es
def zkd (c : Codex) (vs : List Int) : Bool := (yg c vs).all (simpE c) && decide (zhi (ybw c (yg c vs)) <= 4096)
theorem zwi {α β γ : Type} (f : γ -> β -> γ) (g : α -> β) : ∀ (l : List α) (p : γ), l.foldl (fun p a => f p (g a)) p = (l.map g).foldl f p
 | [], _ => rfl
 | a :: l, p => zwi f g l _
theorem zgv {c : Codex} {P : Ex -> Prop} (h : ∀ a ∈ c.arts, ∀ e ∈ a.when_, P e) {vs : List Int} : ∀ e ∈ yg c vs, P e := fun e he => by
 unfold yg at he
 obtain ⟨v, hvv, he⟩ := List.mem_flatMap.1 he
 unfold zkb at he
 cases ha : qn c v with
 | none => rw [ha] at he; cases he
 | some a => rw [ha] at he; exact h a (zfs ha) e he
theorem ybx {c : Codex} (h : zw c = true) (hF : c.facts.length <= 12) (hw : ∀ a ∈ c.arts, a.when_.length <= 41) {vs : List Int} (hv : ∀ v ∈ vs, 0 <= v /\ v < c.arts.length) :
  (xm c vs).isSome = zkd c (zy vs) /\ ∀ q, xm c vs = some q -> ∀ f, yex c f (yg c (zy vs)) = zdp (zdc q f) := by
 obtain ⟨m, hm, hc⟩ := zbl h
 have hN := zgv (c := c) hc (vs := zy vs)
 obtain ⟨hs1, hs2⟩ := ztz h hF hv
 unfold zkd xm
 cases hg : zag c (zy vs) sr0 with
 | none =>
  rw [hg] at hs1
  rw [<- hs1]
  exact ⟨rfl, fun q hq => by cases hq⟩
 | some q =>
  rw [hg] at hs1
  rw [<- hs1]
  have hR := hs2 q hg
  have hsimp : ∀ e ∈ yg c (zy vs), simpE c e = true := List.all_eq_true.1 hs1.symm
  obtain ⟨_, h60, m', hm', h4⟩ := jg h
  have hl := zji hv
  have hfull := (zrm hm' rfl hF (fun a ha => ⟨hw a ha, (h4 a ha).2.2.1⟩) _ sr0 q 0 (yua _) hg).up (k' := 2460) (by omega)
  have hLe := ysn hfull hR fun e he => ⟨hN e he, hsimp e he⟩
  have hone : ∀ e ∈ q.cands, 1 <= e.2.length := fun e he => by
   have := hR.zero e he
   cases hh : e.2 with
   | nil => rw [hh] at this; cases this
   | cons a l => simp
  have hp1 : zfp q.cands = min (zeo (q.cands.map fun e => (e.2.length : Int))) 4097 := by
   have := zns (B := 4097) (by omega) (q.cands.map fun e => (e.2.length : Int)) 1 (by omega) (fun n hn => by
    obtain ⟨e, he, rfl⟩ := List.mem_map.1 hn
    have := hone e he
    omega)
   rw [Int.one_mul] at this
   rw [<- this]
   unfold zfp ymp
   exact zwi (fun p n => min (p * n) 4097) (fun e : Int × List Int => (e.2.length : Int)) q.cands 1
  have hp2 : zhi (ybw c (yg c (zy vs))) = min (zeo ((List.range c.facts.length).map fun (i : Nat) => max 1 ((((zt (i : Int) q.cands).getD []).length : Nat) : Int))) 1000000 := by
   have := zns (B := 1000000) (by omega) ((List.range c.facts.length).map fun (i : Nat) => max 1 ((((zt (i : Int) q.cands).getD []).length : Nat) : Int)) 1 (by omega) (fun n hn => by
    obtain ⟨e, he, rfl⟩ := List.mem_map.1 hn
    omega)
   rw [Int.one_mul] at this
   rw [<- this]
   unfold zhi ybw ymp
   rw [zwi (fun p n => min (p * n) 1000000) (fun l : List Int => max 1 (l.length : Int)), List.map_map]
   show List.foldl _ 1 _ = _
   congr 1
   refine List.map_congr_left fun i hi => ?_
   show max 1 ((yex c i (yg c (zy vs))).length : Int) = _
   rw [hLe, (List.mergeSort_perm _ _).length_eq]
   rfl
  have hpe := zud c.facts.length q.cands hfull.inv.nd hfull.inv.rng hone
  rw [<- hpe] at hp2
  simp only
  have hle : zfp q.cands <= 4096 ↔ zhi (ybw c (yg c (zy vs))) <= 4096 := by
   rw [hp1, hp2]
   omega
  refine ⟨?_, fun q' hq' f => ?_⟩
  ·by_cases h0 : zfp q.cands <= 4096
   ·rw [if_pos h0, decide_eq_true (hle.1 h0)]; rfl
   ·rw [if_neg h0, decide_eq_false (fun h1 => h0 (hle.2 h1))]; rfl
  ·split at hq'
   ·cases hq'; exact hLe f
   ·cases hq'
def yby (c : Codex) : SObj := .cells [.imm (zk c.facts), .imm (zk c.lines), .imm (ym c.arts)]
def isDead (c : Codex) (i : Int) : Bool := (xm c [i]).isSome && (yx c [i]).isNone
theorem zjp {c : Codex} (hok : zw c = true) {vs : List Int} (hv : ∀ v ∈ vs, 0 <= v /\ v < c.arts.length) : yx c vs = match xm c vs with | some s => qw c (zy vs) s | none => none := by
 have hall : vs.all (fun v => decide (0 <= v) && decide (v < c.arts.length)) = true := List.all_eq_true.2 fun v h => by
  have := hv v h
  simp only [Bool.and_eq_true, decide_eq_true_eq]
  exact this
 unfold yx
 rw [hok, hall, Bool.true_and, if_pos rfl]
 try rfl
theorem ymq {c : Codex} (hok : zw c = true) : zof c = ((List.range c.arts.length).map fun (i : Nat) => (i : Int)).filter (isDead c) := by
 unfold zof
 rw [if_pos hok]
 rfl
theorem yub (c : Codex) (hfit : Codex.fit c) (hS : zw c = true -> SearchC c) (hz : c.arts.length <= 1000000) :
  zx Tryz.prog G0 17 [c.sv] (if zw c = true then .imm (zj (zof c)) else zdk) := by
 have hal : (c.arts.map Article.cells).length = c.arts.length := by simp
 have hV := jt G0 c hfit
 refine zc Tryz.func17 rfl (by rw [Tryz.ntmps17]; simp) rfl (by split <;> rfl) ?_
 intro E hH hK
 have hdo := @ymq c
 have hwi := @zjp c
 generalize hz2 : zw c = z at hV hS hK hdo hwi
 rw [show c.sv = .agg [.imm (zk c.facts), .imm (zk c.lines), .imm (ym c.arts)] from rfl]
 (refine zg ?_; conv => whnf)
 refine ze rfl  hV ?_
 cases z <;> ((refine za ?_; conv => whnf))
 ·exact hK _
 have hS := hS rfl
 rw [if_pos rfl, hdo rfl] at hK
 refine zqe (n := 3) (kk := 1) rfl ?_
 refine zf [1, 3, 13, 14, 15] ?_
 change SW E _ [(1, .ptr 0 0), (3, .asl 1 1 []), (13, .imm (ym c.arts)), (14, sI (c.arts.map Article.cells).length), (15, sI 0)] [yby c, .tok 1 0]
 refine zp c.arts (fun i (l : List Int) => [(1, .ptr 0 0), (3, .asl 1 1 (l.map fun n => [dI n])), (13, .imm (ym c.arts)), (14, sI (c.arts.map Article.cells).length), (15, sI i)]) (fun _ l => [yby c, .tok 1 (l.map fun n => [dI n]).length])
  (fun done rest l => l = ((List.range done.length).map fun (i : Nat) => (i : Int)).filter (isDead c) /\ l.length <= done.length) [] ⟨rfl, by simp⟩ ?_ ?_
 ·rintro l ⟨h2, _⟩
  rw [<- h2] at hK
  refine zci ?_
  change SW E _ [(1, .ptr 0 0), (3, .imm (zj l)), (13, .imm (ym c.arts)), (14, sI (c.arts.map Article.cells).length), (15, sI c.arts.length)] _
  (refine zg ?_; conv => whnf)
  repeat' ((with_reducible refine way ?_ ?_) <;> (intro h; conv => whnf))
  all_goals try (exfalso; omega)
  exact hK _
 ·rintro done x rest l hda hdl ⟨h2, h3⟩ ih
  have hw := zm (n := done.length) (by omega)
  have hi : ∀ v ∈ [(done.length : Int)], 0 <= v /\ v < c.arts.length := fun v hv => by simp at hv; subst hv; omega
  have hN := zie c hS [(done.length : Int)] hi (by simp) [yby c, .tok 1 (l.map fun n => [dI n]).length]
  have hwi2 := hwi rfl hi
  have hsn : ∀ b, isDead c (done.length : Int) = b -> ((List.range (done.length + 1)).map fun (i : Nat) => (i : Int)).filter (isDead c) = l ++ (if b = true then [(done.length : Int)] else []) := fun b hb => by
   rw [List.range_succ, List.map_append, List.filter_append, <- h2]
   simp only [List.map_cons, List.map_nil, List.filter_cons, hb, List.filter_nil]
  have hnx : ∀ b, isDead c (done.length : Int) = b -> b = false -> SW E _ _ _ := fun b hb hf => by
   subst hf
   have e := hsn _ hb
   simp only [Bool.false_eq_true, if_false, List.append_nil] at e
   exact ih l ⟨by rw [List.length_append]; exact e.symm, by simp only [List.length_append, List.length_cons, List.length_nil]; omega⟩
  (refine zg ?_; conv => whnf)
  repeat' ((with_reducible refine way ?_ ?_) <;> (intro h; conv => whnf))
  all_goals try (exfalso; omega)
  refine wh (argv := [c.sv, .imm (zj [(done.length : Int)])]) rfl rfl rfl rfl rfl rfl (hN.mono ?_)
  intro r H' hK1
  have hkc : ∀ m, ([yby c, SObj.tok 1 m]).all (SObj.under 2) = true := fun _ => rfl
  cases hq : xm c [(done.length : Int)] with
  | none =>
   rw [hq] at hK1
   have hdd : isDead c (done.length : Int) = false := by unfold isDead; rw [hq]; rfl
   obtain ⟨p, H1, hp, rfl, rfl⟩ := hK1
   refine ⟨Nat.le_add_left 2 _, ?_⟩
   refine Eq.mpr (congrArg (fun h => SWr E _ _ _ _ h) (show _ = yby c :: .tok 1 (l.map fun n => [dI n]).length :: H1 from rfl)) ?_
   rcases hp with rfl | rfl <;> ((refine za ?_; conv => whnf)) <;> rw [hw]
   all_goals exact ys [1, 3, 13, 14, 15] 2 (by rw [hH]; exact Nat.zero_le 2) (Nat.succ_le_succ (Nat.succ_le_succ (Nat.zero_le _))) rfl (hkc _) (hnx _ hdd rfl)
  | some q =>
   have hWt := znn c hS [(done.length : Int)] hi (by simp) q hq [yby c, .tok 1 (l.map fun n => [dI n]).length]
   rw [hq] at hK1 hwi2
   simp only at hwi2
   obtain ⟨rfl, rfl⟩ := hK1
   refine ⟨by rw [List.length_append]; exact Nat.le_add_right _ _, ?_⟩
   (refine za ?_; conv => whnf)
   refine wh rfl rfl rfl rfl rfl rfl (hWt.mono ?_)
   rintro r H' ⟨rfl, ⟨H1, rfl⟩, hl⟩
   refine ⟨hl, ?_⟩
   rw [<- hwi2]
   have hdd : isDead c (done.length : Int) = (yx c [(done.length : Int)]).isNone := by unfold isDead; rw [hq]; rfl
   refine je (t' := [(1, .ptr 0 0), (3, .asl 1 1 (l.map fun n => [dI n])), (4, sI done.length), (13, .imm (ym c.arts)), (14, sI (c.arts.map Article.cells).length), (15, sI done.length), (29, zmd (yx c [(done.length : Int)]))]) (H' := [yby c, .tok 1 (l.map fun n => [dI n]).length])
    (fun k h => zf [1, 3, 4, 13, 14, 15, 29] (ydb 2 (by rw [hH]; exact Nat.zero_le 2) (Nat.succ_le_succ (Nat.succ_le_succ (Nat.zero_le _))) (by cases yx c [(done.length : Int)] <;> rfl) (hkc _) h)) ?_
   generalize yx c [(done.length : Int)] = o at hdd ⊢
   cases o with
   | none =>
    have e := hsn _ hdd
    simp only [Option.isNone_none, if_true] at e
    (refine za ?_; conv => whnf)
    refine xz (b := 1) (kk := 1) (rows := l.map fun n => [dI n]) (new := [[dI done.length]]) rfl ⟨by decide, rfl⟩ rfl (by rw [List.length_map]; simp only [List.length_cons, List.length_nil]; omega) ?_
    have e5 : (l.map fun n => [dI n]) ++ [[dI done.length]] = (l ++ [(done.length : Int)]).map fun n => [dI n] := by simp
    have e6 : (l.map fun n => [dI n]).length + [[dI done.length]].length = ((l ++ [(done.length : Int)]).map fun n => [dI n]).length := by simp
    refine Eq.mpr (congrArg (fun v => SWr E _ _ _ (wq _ _ (.asl 1 1 v)) _) e5) ?_
    refine Eq.mpr (congrArg (fun v => SWr E _ _ _ _ (List.set _ 1 (.tok 1 v))) e6) ?_
    (refine za ?_; conv => whnf)
    rw [hw]
    refine ys [1, 3, 13, 14, 15] 2 (by rw [hH]; exact Nat.zero_le 2) (Nat.succ_le_succ (Nat.succ_le_succ (Nat.zero_le _))) rfl (hkc _) ?_
    refine ih (l ++ [(done.length : Int)]) ⟨?_, ?_⟩
    ·rw [List.length_append]; exact e.symm
    ·simp only [List.length_append, List.length_cons, List.length_nil]; omega
   | some v =>
    (refine za ?_; conv => whnf)
    rw [hw]
    exact ys [1, 3, 13, 14, 15] 2 (by rw [hH]; exact Nat.zero_le 2) (Nat.succ_le_succ (Nat.succ_le_succ (Nat.zero_le _))) rfl (hkc _) (hnx _ hdd rfl)
theorem yhq (c : Codex) (hfit : Codex.fit c) (hS : zw c = true -> SearchC c) (hz : c.arts.length <= 1000000) :
  zx Tryz.prog G0 17 [c.sv] (.imm (zj (zof c))) := by
 have h := yub c hfit hS hz
 split at h
 ·exact h
 ·rename_i hn
  rw [show zof c = [] by unfold zof; rw [if_neg hn]]
  exact zcj h (SV.Is.nil 1)
theorem ybz {l : List Int} {v : Int} (h : v ∈ l) : v ∈ Go.Lib.compact l := by
 obtain ⟨j, hj, rfl⟩ := List.mem_iff_getElem.1 h
 have key : ∀ j, ∃ k, k <= j /\ Go.Lib.keeps l.toArray k = true /\ l.toArray[k]! = l.toArray[j]! := by
  intro j
  induction j with
  | zero => exact ⟨0, Nat.le_refl _, Go.Lib.keeps_lt_one _ 0 (by omega), rfl⟩
  | succ j ih =>
   by_cases e : l.toArray[j + 1]! = l.toArray[j + 1 - 1]!
   ·obtain ⟨k, h1, h2, h3⟩ := ih
    exact ⟨k, by omega, h2, by rw [h3, e, Nat.add_sub_cancel]⟩
   ·exact ⟨j + 1, Nat.le_refl _, Go.Lib.keeps_pos e, rfl⟩
 obtain ⟨k, h1, h2, h3⟩ := key j
 unfold Go.Lib.compact Go.Lib.compactUpTo
 refine List.mem_map.2 ⟨k, List.mem_filter.2 ⟨List.mem_range.2 (by omega), h2⟩, ?_⟩
 show l.toArray[k]! = _
 rw [h3]
 simp [hj]
theorem yhr {vs : List Int} {v : Int} : v ∈ zy vs ↔ v ∈ vs := ⟨zty, fun h => ybz ((List.mergeSort_perm vs fun x y => decide (x <= y)).mem_iff.2 h)⟩
def zjs (c : Codex) (vs : List Int) : List Int := ((List.range c.arts.length).map fun (i : Nat) => (i : Int)).filter fun i => decide (i ∈ vs)
theorem ymr (c : Codex) (vs : List Int) : (zjs c vs).Pairwise (· < ·) := by
 refine List.Pairwise.filter _ ?_
 rw [List.pairwise_map]
 exact List.pairwise_lt_range.imp fun h => by omega
theorem yms {c : Codex} {vs : List Int} : ∀ v ∈ zjs c vs, 0 <= v /\ v < c.arts.length := fun v hv => by
 obtain ⟨i, hi, rfl⟩ := List.mem_map.1 (List.mem_filter.1 hv).1
 have := List.mem_range.1 hi
 omega
theorem ypf {c : Codex} {vs : List Int} (hv : ∀ v ∈ vs, 0 <= v /\ v < c.arts.length) : zjs c vs = zy vs := zwg _ _ (ymr c vs) (ztt vs) fun x => by
 rw [yhr]
 unfold zjs
 simp only [List.mem_filter, decide_eq_true_eq]
 constructor
 ·exact fun h => h.2
 ·intro h
  have := hv x h
  exact ⟨List.mem_map.2 ⟨x.toNat, List.mem_range.2 (by omega), by omega⟩, h⟩
theorem ypg {c : Codex} (vs : List Int) : 0 <= (yi c vs).1 /\ (yi c vs).2 <= 36525 := by
 have := znr c vs (0, 36525)
 exact this
theorem yhs {c : Codex} (h : zw c = true) (hF : c.facts.length <= 12) (hw : ∀ a ∈ c.arts, a.when_.length <= 41) {vs : List Int} (hv : ∀ v ∈ vs, 0 <= v /\ v < c.arts.length) :
  (zkd c (zy vs) = false -> yx c vs = none) /\
  (zkd c (zy vs) = true -> yx c vs = none -> ∀ d v, (yi c (zy vs)).1 <= d -> d < (yi c (zy vs)).2 -> yhp c v -> (yg c (zy vs)).all (holdsE (yz d) v) = false) /\
  (∀ w, yx c vs = some w -> zkd c (zy vs) = true /\ (yi c (zy vs)).1 <= w.day /\ w.day < (yi c (zy vs)).2 /\ w.value.length = c.facts.length /\ w.has.length = c.facts.length /\ w.arts = zy vs /\
   (yg c (zy vs)).all (holdsE (yz w.day) w.value) = true) := by
 have hsc := (ybx h hF hw hv).1
 rw [zjp h hv]
 cases hq : xm c vs with
 | none =>
  rw [hq] at hsc
  refine ⟨fun _ => rfl, fun h1 => ?_, fun w hw => by cases hw⟩
  rw [<- hsc] at h1
  cases h1
 | some q =>
  rw [hq] at hsc
  obtain ⟨w1, w2⟩ := ymo h hF hw hv hq
  refine ⟨fun h1 => ?_, fun _ hn d v h1 h2 h3 => ?_, fun w hw => ?_⟩
  ·rw [<- hsc] at h1
   cases h1
  ·cases ha : (yg c (zy vs)).all (holdsE (yz d) v) with
   | false => rfl
   | true => exact absurd (List.all_eq_true.1 ha) (w2 hn d v h1 h2 h3)
  ·obtain ⟨a1, a2, a3, a4, a5, a6, _, _⟩ := w1 w hw
   exact ⟨hsc.symm, a1, a2, a3, by rw [a4]; simp, a5, List.all_eq_true.2 a6⟩
variable (G : List (Nat × D))
theorem zdi (op : Int) : zx Tryz.prog G 75 [sI op] (sB (zhg op)) := by
 by_cases h8 : op = 8
 ·subst h8
  refine zc Tryz.func75 rfl (by rw [Tryz.ntmps75]; simp) rfl rfl ?_; intro E hH hK
  (refine zi ?_; conv => whnf)
  exact hK _
 by_cases h9 : op = 9
 ·subst h9
  refine zc Tryz.func75 rfl (by rw [Tryz.ntmps75]; simp) rfl rfl ?_; intro E hH hK
  (refine zi ?_; conv => whnf)
  exact hK _
 by_cases h10 : op = 10
 ·subst h10
  refine zc Tryz.func75 rfl (by rw [Tryz.ntmps75]; simp) rfl rfl ?_; intro E hH hK
  (refine zi ?_; conv => whnf)
  exact hK _
 have hc : zhg op = decide (op = 10) := by unfold zhg; simp [h8, h9]
 rw [hc]
 refine zc Tryz.func75 rfl (by rw [Tryz.ntmps75]; simp) rfl rfl ?_; intro E hH hK
 (refine zi ?_; conv => whnf)
 repeat' ((with_reducible refine way ?_ ?_) <;> (intro h; conv => whnf))
 all_goals try (exfalso; omega)
 exact hK _
theorem zrt (e : Ex) : zx Tryz.prog G 85 [e.sv] (sB (zfi e)) := by
 obtain ⟨op, n, u, den, ps, ks⟩ := e
 by_cases h1 : op = 1
 ·subst h1
  rw [show zfi (.mk 1 n u den ps ks) = true from rfl]
  refine zc Tryz.func85 rfl (by rw [Tryz.ntmps85]; simp) rfl rfl ?_; intro E hH hK
  (refine zi ?_; conv => whnf)
  exact hK _
 by_cases h2 : op = 2
 ·subst h2
  rw [show zfi (.mk 2 n u den ps ks) = true from rfl]
  refine zc Tryz.func85 rfl (by rw [Tryz.ntmps85]; simp) rfl rfl ?_; intro E hH hK
  (refine zi ?_; conv => whnf)
  exact hK _
 by_cases h4 : op = 4
 ·subst h4
  by_cases hn : 1 <= n
  ·rw [show zfi (.mk 4 n u den ps ks) = decide (n <= 4) by unfold zfi; simp [Ex.op, Ex.n, hn]; try rfl]
   refine zc Tryz.func85 rfl (by rw [Tryz.ntmps85]; simp) rfl rfl ?_; intro E hH hK
   (refine zi ?_; conv => whnf)
   repeat' ((with_reducible refine way ?_ ?_) <;> (intro h; conv => whnf))
   all_goals try (exfalso; omega)
   exact hK _
  ·rw [show zfi (.mk 4 n u den ps ks) = false by unfold zfi; simp [Ex.op, Ex.n, hn]]
   refine zc Tryz.func85 rfl (by rw [Tryz.ntmps85]; simp) rfl rfl ?_; intro E hH hK
   (refine zi ?_; conv => whnf)
   repeat' ((with_reducible refine way ?_ ?_) <;> (intro h; conv => whnf))
   all_goals try (exfalso; omega)
   exact hK _
 rw [show zfi (.mk op n u den ps ks) = false by unfold zfi; simp [Ex.op, h1, h2, h4]]
 refine zc Tryz.func85 rfl (by rw [Tryz.ntmps85]; simp) rfl rfl ?_; intro E hH hK
 (refine zi ?_; conv => whnf)
 repeat' ((with_reducible refine way ?_ ?_) <;> (intro h; conv => whnf))
 all_goals try (exfalso; omega)
 exact hK _
theorem zjq (l : List Int) (n : Int) (hz : l.length <= 100000000) : zx Tryz.prog G 86 [.imm (zj l), sI n] (.imm (zj (zmi l n))) := by
 have hvl : (l.map fun n => [dI n]).length = l.length := by simp
 have hin := zzg G l n (by omega)
 by_cases h1 : n < 0
 ·rw [show zmi l n = l from if_pos (.inl h1)]
  refine zc Tryz.func86 rfl (by rw [Tryz.ntmps86]; simp) rfl rfl ?_; intro E hH hK
  (refine zg ?_; conv => whnf)
  repeat' ((with_reducible refine way ?_ ?_) <;> (intro h; conv => whnf))
  all_goals try (exfalso; omega)
  exact hK _
 by_cases h2 : 1000000000000 < n
 ·rw [show zmi l n = l from if_pos (.inr (.inl h2))]
  refine zc Tryz.func86 rfl (by rw [Tryz.ntmps86]; simp) rfl rfl ?_; intro E hH hK
  (refine zg ?_; conv => whnf)
  repeat' ((with_reducible refine way ?_ ?_) <;> (intro h; conv => whnf))
  all_goals try (exfalso; omega)
  exact hK _
 by_cases h3 : n ∈ l
 ·rw [show zmi l n = l from if_pos (.inr (.inr h3))]
  rw [decide_eq_true h3] at hin
  refine zc Tryz.func86 rfl (by rw [Tryz.ntmps86]; simp) rfl rfl ?_; intro E hH hK
  (refine zg ?_; conv => whnf)
  repeat' ((with_reducible refine way ?_ ?_) <;> (intro h; conv => whnf))
  all_goals try (exfalso; omega)
  refine ze rfl  hin ?_
  (refine za ?_; conv => whnf)
  exact hK _
 rw [show zmi l n = zua n l from if_neg (by rintro (h | h | h); exact h1 h; exact h2 h; exact h3 h)]
 rw [decide_eq_false h3] at hin
 refine zc Tryz.func86 rfl (by rw [Tryz.ntmps86]; simp) rfl rfl ?_; intro E hH hK
 (refine zg ?_; conv => whnf)
 repeat' ((with_reducible refine way ?_ ?_) <;> (intro h; conv => whnf))
 all_goals try (exfalso; omega)
 refine ze rfl  hin ?_
 (refine za ?_; conv => whnf)
 refine zqe (n := 5) (kk := 1) rfl ?_
 refine zf [0, 1, 5, 6, 7] ?_
 change SW E _ [(0, .imm (zj l)), (1, sI n), (5, .asl 0 1 []), (6, sB false), (7, sI 0)] [.tok 1 0]
 refine zp l (fun i (s : List Int × Bool) => [(0, .imm (zj l)), (1, sI n), (5, .asl 0 1 (s.1.map fun n => [dI n])), (6, sB s.2), (7, sI i)]) (fun _ s => [.tok 1 (s.1.map fun n => [dI n]).length])
  (fun done rest s => zua n l = s.1 ++ (if s.2 = true then rest else zua n rest) /\ s.1.length <= 2 * done.length + 1) ([], false) ⟨rfl, by simp⟩ ?_ ?_
 ·rintro ⟨out, dn⟩ ⟨h4, h5⟩
  change zua n l = out ++ _ at h4
  change out.length <= _ at h5
  change SW E _ [(0, .imm (zj l)), (1, sI n), (5, .asl 0 1 (out.map fun n => [dI n])), (6, sB dn), (7, sI l.length)] [.tok 1 (out.map fun n => [dI n]).length]
  cases dn with
  | true =>
   simp only [if_true, List.append_nil] at h4
   rw [h4] at hK
   refine zci ?_
   change SW E _ [(0, .imm (zj l)), (1, sI n), (5, .imm (zj out)), (6, sB true), (7, sI l.length)] _
   (refine zg ?_; conv => whnf)
   repeat' ((with_reducible refine way ?_ ?_) <;> (intro h; conv => whnf))
   all_goals try (exfalso; omega)
   exact hK _
  | false =>
   simp only [Bool.false_eq_true, if_false, zua] at h4
   rw [h4] at hK
   (refine zg ?_; conv => whnf)
   repeat' ((with_reducible refine way ?_ ?_) <;> (intro h; conv => whnf))
   all_goals try (exfalso; omega)
   refine xz (b := 0) (kk := 1) (rows := out.map fun n => [dI n]) (new := [[dI n]]) rfl ⟨by decide, rfl⟩ rfl (by rw [List.length_map]; simp only [List.length_cons, List.length_nil]; omega) ?_
   have e5 : (out.map fun n => [dI n]) ++ [[dI n]] = (out ++ [n]).map fun n => [dI n] := by simp
   refine Eq.mpr (congrArg (fun v => SWr E _ _ _ (wq _ _ (.asl 0 1 v)) _) e5) ?_
   refine je (fun k => zci) ?_
   (refine za ?_; conv => whnf)
   exact hK _
 ·rintro done x rest ⟨out, dn⟩ hda hdl ⟨h4, h5⟩ ih
  change zua n l = out ++ _ at h4
  change out.length <= _ at h5
  have hw := zm (n := done.length) (by omega)
  have hrx : (l.map fun n => [dI n])[done.length]? = some [dI x] := by simp [hda]
  change SW E _ [(0, .imm (zj l)), (1, sI n), (5, .asl 0 1 (out.map fun n => [dI n])), (6, sB dn), (7, sI done.length)] [.tok 1 (out.map fun n => [dI n]).length]
  have fin : ∀ out' dn', zua n l = out' ++ (if dn' = true then rest else zua n rest) -> out'.length <= 2 * done.length + 3 -> SW E _ _ _ := fun out' dn' g1 g2 => ih (out', dn') ⟨g1, by simp only [List.length_append, List.length_cons, List.length_nil]; omega⟩
  cases dn with
  | true =>
   simp only [if_true] at h4
   (refine zg ?_; conv => whnf)
   repeat' ((with_reducible refine way ?_ ?_) <;> (intro h; conv => whnf))
   all_goals try (exfalso; omega)
   refine zh (i := done.length) (row := [dI x]) rfl rfl hrx ?_
   (refine za ?_; conv => whnf)
   refine xz (b := 0) (kk := 1) (rows := out.map fun n => [dI n]) (new := [[dI x]]) rfl ⟨by decide, rfl⟩ rfl (by rw [List.length_map]; simp only [List.length_cons, List.length_nil]; omega) ?_
   have e5 : (out.map fun n => [dI n]) ++ [[dI x]] = (out ++ [x]).map fun n => [dI n] := by simp
   have e6 : (out.map fun n => [dI n]).length + [[dI x]].length = ((out ++ [x]).map fun n => [dI n]).length := by simp
   refine Eq.mpr (congrArg (fun v => SWr E _ _ _ (wq _ _ (.asl 0 1 v)) _) e5) ?_
   refine Eq.mpr (congrArg (fun v => SWr E _ _ _ _ (List.set _ 0 (.tok 1 v))) e6) ?_
   (refine za ?_; conv => whnf)
   rw [hw]
   exact zf [0, 1, 5, 6, 7] (fin (out ++ [x]) true (by rw [h4]; simp) (by simp; omega))
  | false =>
   simp only [Bool.false_eq_true, if_false] at h4
   (refine zg ?_; conv => whnf)
   repeat' ((with_reducible refine way ?_ ?_) <;> (intro h; conv => whnf))
   all_goals try (exfalso; omega)
   refine zh (i := done.length) (row := [dI x]) rfl rfl hrx ?_
   (refine za ?_; conv => whnf)
   repeat' ((with_reducible refine way ?_ ?_) <;> (intro h; conv => whnf))
   ·refine xz (b := 0) (kk := 1) (rows := out.map fun n => [dI n]) (new := [[dI n]]) rfl ⟨by decide, rfl⟩ rfl (by rw [List.length_map]; simp only [List.length_cons, List.length_nil]; omega) ?_
    have e5 : (out.map fun n => [dI n]) ++ [[dI n]] = (out ++ [n]).map fun n => [dI n] := by simp
    have e6 : (out.map fun n => [dI n]).length + [[dI n]].length = ((out ++ [n]).map fun n => [dI n]).length := by simp
    refine Eq.mpr (congrArg (fun v => SWr E _ _ _ (wq _ _ (.asl 0 1 v)) _) e5) ?_
    refine Eq.mpr (congrArg (fun v => SWr E _ _ _ _ (List.set _ 0 (.tok 1 v))) e6) ?_
    (refine za ?_; conv => whnf)
    refine zh (i := done.length) (row := [dI x]) rfl rfl hrx ?_
    (refine za ?_; conv => whnf)
    refine xz (b := 0) (kk := 1) (rows := (out ++ [n]).map fun n => [dI n]) (new := [[dI x]]) rfl ⟨by decide, rfl⟩ rfl (by rw [List.length_map]; simp only [List.length_append, List.length_cons, List.length_nil]; omega) ?_
    have e7 : ((out ++ [n]).map fun n => [dI n]) ++ [[dI x]] = (out ++ [n] ++ [x]).map fun n => [dI n] := by simp
    have e8 : ((out ++ [n]).map fun n => [dI n]).length + [[dI x]].length = ((out ++ [n] ++ [x]).map fun n => [dI n]).length := by simp
    refine Eq.mpr (congrArg (fun v => SWr E _ _ _ (wq _ _ (.asl 0 1 v)) _) e7) ?_
    refine Eq.mpr (congrArg (fun v => SWr E _ _ _ _ (List.set _ 0 (.tok 1 v))) e8) ?_
    (refine za ?_; conv => whnf)
    rw [hw]
    exact zf [0, 1, 5, 6, 7] (fin (out ++ [n] ++ [x]) true (by rw [h4, zua, if_pos (by assumption)]; simp) (by simp; omega))
   ·refine zh (i := done.length) (row := [dI x]) rfl rfl hrx ?_
    (refine za ?_; conv => whnf)
    refine xz (b := 0) (kk := 1) (rows := out.map fun n => [dI n]) (new := [[dI x]]) rfl ⟨by decide, rfl⟩ rfl (by rw [List.length_map]; simp only [List.length_cons, List.length_nil]; omega) ?_
    have e5 : (out.map fun n => [dI n]) ++ [[dI x]] = (out ++ [x]).map fun n => [dI n] := by simp
    have e6 : (out.map fun n => [dI n]).length + [[dI x]].length = ((out ++ [x]).map fun n => [dI n]).length := by simp
    refine Eq.mpr (congrArg (fun v => SWr E _ _ _ (wq _ _ (.asl 0 1 v)) _) e5) ?_
    refine Eq.mpr (congrArg (fun v => SWr E _ _ _ _ (List.set _ 0 (.tok 1 v))) e6) ?_
    (refine za ?_; conv => whnf)
    rw [hw]
    exact zf [0, 1, 5, 6, 7] (fin (out ++ [x]) false (by rw [h4, zua, if_neg (by assumption)]; simp) (by simp; omega))
theorem yht (c : Codex) (n : Int) (u : ByteArray) (den : Int) (ps : List Piece) (k : Ex) (b1 : Bool) (h1 : zx Tryz.prog G 54 [c.sv, k.sv] (sB b1)) :
  zx Tryz.prog G 54 [c.sv, (Ex.mk 5 n u den ps [k]).sv] (sB b1) := by
 obtain ⟨kop, kn, ku, kden, kps, kks⟩ := k
 rw [show c.sv = .agg [.imm (zk c.facts), .imm (zk c.lines), .imm (ym c.arts)] from rfl] at h1 ⊢
 refine zc Tryz.func54 rfl (by rw [Tryz.ntmps54]; simp) rfl rfl ?_; intro E hH hK
 (refine zg ?_; conv => whnf)
 refine zf [2, 3, 4, 5] ?_
 (refine zu 0 mixed rfl ?_; refine zb [777] (nx := 2) ?_; conv => whnf)
 refine zq (i := 0) (row := [dI kop, dI kn, dS ku, dI kden, .isl 3 (kps.map Piece.cells), .isl 6 (zd kks)]) rfl (show 2 <= 2 by decide) rfl rfl ?_
 (refine zb [777] (nx := 2) ?_; conv => whnf)
 refine xb rfl (show 2 <= 2 by decide) h1 ?_
 (refine zb [777, 4] (nx := 2) ?_; conv => whnf)
 refine qj ⟨sB b1, [], none⟩ rfl rfl (show 2 <= 2 by decide) (fun _ _ _ => rfl) ?_
 refine jd (by kernel_rfl) ?_
 (refine zg ?_; conv => whnf)
 exact hK _
theorem yca (c : Codex) {op : Int} (hop : op = 6 \/ op = 7) (n : Int) (u : ByteArray) (den : Int) (ps : List Piece) (k l : Ex) (b1 b2 : Bool) (h1 : zx Tryz.prog G 54 [c.sv, k.sv] (sB b1))
  (h2 : zx Tryz.prog G 54 [c.sv, l.sv] (sB b2)) : zx Tryz.prog G 54 [c.sv, (Ex.mk op n u den ps [k, l]).sv] (sB (b1 && b2)) := by
 obtain ⟨kop, kn, ku, kden, kps, kks⟩ := k
 obtain ⟨lop, ln, lu, lden, lps, lks⟩ := l
 rw [show c.sv = .agg [.imm (zk c.facts), .imm (zk c.lines), .imm (ym c.arts)] from rfl] at h1 h2 ⊢
 refine zc Tryz.func54 rfl (by rw [Tryz.ntmps54]; simp) rfl rfl ?_; intro E hH hK
 rcases hop with rfl | rfl
 all_goals
  (refine zg ?_; conv => whnf)
  refine zf [2, 3, 4, 5] ?_
  (refine zu 0 mixed rfl ?_; refine zb [777] (nx := 2) ?_; conv => whnf)
  refine zq (i := 0) (row := [dI kop, dI kn, dS ku, dI kden, .isl 3 (kps.map Piece.cells), .isl 6 (zd kks)]) rfl (show 2 <= 2 by decide) rfl rfl ?_
  (refine zb [777] (nx := 2) ?_; conv => whnf)
  refine xb rfl (show 2 <= 2 by decide) h1 ?_
  cases b1 <;> (refine zb [777, 4] (nx := 2) ?_; conv => whnf)
  ·refine qj ⟨sB false, [], none⟩ rfl rfl (show 2 <= 2 by decide) (fun _ _ _ => rfl) ?_
   refine jd (by kernel_rfl) ?_
   (refine zg ?_; conv => whnf)
   exact hK _
  ·refine zq (i := 1) (row := [dI lop, dI ln, dS lu, dI lden, .isl 3 (lps.map Piece.cells), .isl 6 (zd lks)]) rfl (show 2 <= 2 by decide) rfl rfl ?_
   (refine zb [777] (nx := 2) ?_; conv => whnf)
   refine xb rfl (show 2 <= 2 by decide) h2 ?_
   (refine zb [777, 4] (nx := 2) ?_; conv => whnf)
   refine qj ⟨sB b2, [], none⟩ rfl rfl (show 2 <= 2 by decide) (fun _ _ _ => rfl) ?_
   refine jd (by kernel_rfl) ?_
   (refine zg ?_; conv => whnf)
   exact hK _
theorem yhu (c : Codex) {op : Int} (hop : op = 8 \/ op = 9 \/ op = 10) (n : Int) (u : ByteArray) (den : Int) (ps : List Piece) (k l : Ex) :
  zx Tryz.prog G 54 [c.sv, (Ex.mk op n u den ps [k, l]).sv] (sB (zfi k && zfi l && (decide (k.op = 1) || decide (l.op = 1)))) := by
 have hcmp := zdi G op
 rw [show zhg op = true by unfold zhg; rcases hop with rfl | rfl | rfl <;> rfl] at hcmp
 have hs1 := zrt G k
 have hs2 := zrt G l
 generalize zfi k = b1 at hs1
 generalize zfi l = b2 at hs2
 obtain ⟨kop, kn, ku, kden, kps, kks⟩ := k
 obtain ⟨lop, ln, lu, lden, lps, lks⟩ := l
 rw [show c.sv = .agg [.imm (zk c.facts), .imm (zk c.lines), .imm (ym c.arts)] from rfl]
 simp only [Ex.op]
 refine zc Tryz.func54 rfl (by rw [Tryz.ntmps54]; simp) rfl rfl ?_; intro E hH hK
 rcases hop with rfl | rfl | rfl
 all_goals
  (refine zg ?_; conv => whnf)
  refine ze rfl  hcmp ?_
  (refine za ?_; conv => whnf)
  refine zh (i := 0) (row := [dI kop, dI kn, dS ku, dI kden, .isl 3 (kps.map Piece.cells), .isl 6 (zd kks)]) rfl rfl rfl ?_
  (refine za ?_; conv => whnf)
  refine ze rfl  hs1 ?_
  cases b1 <;> ((refine za ?_; conv => whnf))
  ·exact hK _
  refine zh (i := 1) (row := [dI lop, dI ln, dS lu, dI lden, .isl 3 (lps.map Piece.cells), .isl 6 (zd lks)]) rfl rfl rfl ?_
  (refine za ?_; conv => whnf)
  refine ze rfl  hs2 ?_
  cases b2 <;> ((refine za ?_; conv => whnf))
  ·exact hK _
  refine zh (i := 0) (row := [dI kop, dI kn, dS ku, dI kden, .isl 3 (kps.map Piece.cells), .isl 6 (zd kks)]) rfl rfl rfl ?_
  (refine za ?_; conv => whnf)
  change ∀ H', E.K (sB (true && true && (decide (kop = 1) || decide (lop = 1)))) H' at hK
  cases h3 : decide (kop = 1) <;> (conv => whnf)
  case true =>
   rw [decide_eq_true (of_decide_eq_true h3)] at hK
   exact hK _
  ·rw [decide_eq_false (of_decide_eq_false h3)] at hK
   refine zh (i := 1) (row := [dI lop, dI ln, dS lu, dI lden, .isl 3 (lps.map Piece.cells), .isl 6 (zd lks)]) rfl rfl rfl ?_
   (refine za ?_; conv => whnf)
   exact hK _
theorem zbm (c : Codex) (m : List (Int × Int)) : ∀ (N : Nat) (e : Ex), SizeOf.sizeOf e < N -> zep c m e -> e.unit = tT -> zx Tryz.prog G 54 [c.sv, e.sv] (sB (simpE c e))
 | 0, _, h, _, _ => by omega
 | N + 1, .mk op n u den ps ks, hN, h, hu => by
  simp only [Ex.mk.sizeOf_spec] at hN
  have hu : u = tT := hu
  cases zjk h hu with
  | const h1 hk hu =>
   subst h1 hk
   rw [show simpE c (.mk 1 n u den ps []) = decide (u = tT) by unfold simpE; rfl]
   refine zc Tryz.func54 rfl (by rw [Tryz.ntmps54]; simp) rfl rfl ?_; intro E hH hK
   (refine zg ?_; conv => whnf)
   exact hK _
  | fact h1 hk hr ht =>
   subst h1 hk
   obtain ⟨d, hd⟩ : ∃ d, c.facts[n.toNat]? = some d := ⟨_, List.getElem?_eq_getElem (by omega)⟩
   have hrow : (c.facts.map Decl.cells)[n.toNat]? = some [dS d.name, dS d.unit, dI d.role] := by simp [hd, Decl.cells]
   rw [show simpE c (.mk 2 n u den ps []) = decide (d.unit = tT) by unfold simpE zkc; rw [if_neg (by decide), if_pos rfl, hd]]
   refine zc Tryz.func54 rfl (by rw [Tryz.ntmps54]; simp) rfl rfl ?_; intro E hH hK
   rw [show c.sv = .agg [.imm (zk c.facts), .imm (zk c.lines), .imm (ym c.arts)] from rfl]
   (refine zg ?_; conv => whnf)
   refine zh (i := n.toNat) rfl (by omega) hrow ?_
   (refine za ?_; conv => whnf)
   exact hK _
  | neg k h1 hk hka hku =>
   subst h1 hk
   simp only [List.cons.sizeOf_spec] at hN
   have h1 := zbm c m N k (by omega) hka hku
   rw [show simpE c (.mk 5 n u den ps [k]) = simpE c k by rw [simpE.eq_def]; simp only [show ¬ (5 : Int) = 1 by decide, show ¬ (5 : Int) = 2 by decide, if_false, if_true]]
   exact yht G c n u den ps k _ h1
  | conn k l h1 hk hka hla hku hlu =>
   subst hk
   simp only [List.cons.sizeOf_spec] at hN
   have hs1 := zbm c m N k (by omega) hka hku
   have hs2 := zbm c m N l (by omega) hla hlu
   rw [show simpE c (.mk op n u den ps [k, l]) = (simpE c k && simpE c l) by
    rw [simpE.eq_def]
    simp only
    rw [if_neg (by omega), if_neg (by omega), if_neg (by omega), if_pos h1]]
   exact yca G c h1 n u den ps k l _ _ hs1 hs2
  | cmp k l h1 hk hka hla =>
   subst hk
   rw [zfv h1]
   exact yhu G c h1 n u den ps k l
  | other h1 h2 h3 h4 h5 =>
   have hc : zhg op = false := by unfold zhg; simp; omega
   have hs : simpE c (.mk op n u den ps ks) = false := by
    unfold simpE
    rw [if_neg h1, if_neg h2, if_neg h3, if_neg h4]
    split
    ·simp [hc]
    ·rfl
   rw [hs]
   have hcmp := zdi G op
   rw [hc] at hcmp
   refine zc Tryz.func54 rfl (by rw [Tryz.ntmps54]; simp) rfl rfl ?_; intro E hH hK
   rw [show c.sv = .agg [.imm (zk c.facts), .imm (zk c.lines), .imm (ym c.arts)] from rfl]
   (refine zg ?_; conv => whnf)
   repeat' ((with_reducible refine way ?_ ?_) <;> (intro h; conv => whnf))
   all_goals try (exfalso; omega)
   refine ze rfl  hcmp ?_
   (refine za ?_; conv => whnf)
   exact hK _
theorem yph {P : Program} {G : List (Nat × D)} {fn : Func} {rd : Bool} {E : En P G fn rd} {α : Type} {T : α -> List (Nat × SV)} {H : List SObj} {x : α} {R : Prop} {k : List Item} (h1 : (∀ v, v = x -> SW E k (T v) H) -> R) (h2 : SW E k (T x) H) : R := h1 fun _ e => e ▸ h2
theorem zzn (c : Codex) (f op n : Int) (l : List Int) : (zbo c f op n l).length <= l.length + 2 := by
 unfold zbo
 have h1 := zjn l 0
 have h2 := zjn (zmi l 0) 1
 split
 ·split <;> omega
 ·omega
theorem zru (c : Codex) (f op : Int) (k o : Ex) (l : List Int) : (zes c f op k o l).length <= l.length + 2 := by
 unfold zes
 have h1 := zjn l o.n
 have h2 := zjn (zmi l o.n) (o.n + 1)
 split <;> omega
theorem zil (c : Codex) (f : Int) : ∀ (N : Nat) (e : Ex), SizeOf.sizeOf e < N -> ∀ l : List Int, (candE c f e l).length <= l.length + 8 * xg e
 | 0, _, h, _ => by omega
 | N + 1, .mk op n u den ps ks, hN, l => by
  simp only [Ex.mk.sizeOf_spec] at hN
  have hf := zzn c f op n l
  rw [candE.eq_def, xg]
  match ks, hN with
  | [], _ => simp only; omega
  | [k], hN =>
   simp only [List.cons.sizeOf_spec] at hN
   have := zil c f N k (by omega) (zbo c f op n l)
   simp only [ye]
   omega
  | [k, r], hN =>
   simp only [List.cons.sizeOf_spec] at hN
   have h1 := zil c f N k (by omega) (zbo c f op n l)
   have h2 := zru c f op k r (candE c f k (zbo c f op n l))
   have h3 := zil c f N r (by omega) (zes c f op k r (candE c f k (zbo c f op n l)))
   have h4 := zru c f op r k (candE c f r (zes c f op k r (candE c f k (zbo c f op n l))))
   simp only [ye]
   omega
  | _ :: _ :: _ :: _, _ => simp only; omega
def zzo (c : Codex) (f op : Int) : List Ex -> List Ex -> List Int -> List Int
 | k :: r, o :: os, l => zzo c f op r os (zes c f op k o (candE c f k l))
 | _, _, l => l
theorem zjr {c : Codex} {f op n : Int} {u : ByteArray} {den : Int} {ps : List Piece} {ks : List Ex} (h : ks = [] \/ (∃ k, ks = [k] /\ zhg op = false) \/ ∃ k r, ks = [k, r]) (l : List Int) :
  zzo c f op ks ks.reverse (zbo c f op n l) = candE c f (.mk op n u den ps ks) l := by
 rw [candE.eq_def]
 rcases h with rfl | ⟨k, rfl, hc⟩ | ⟨k, r, rfl⟩
 ·rfl
 ·show zes c f op k k (candE c f k (zbo c f op n l)) = _
  rw [zwh hc]
 ·rfl
theorem ymt {c : Codex} {f op : Int} {k o : Ex} {l : List Int} (h : ¬ (zhg op = true /\ k.op = 2 /\ k.n = f /\ o.op = 1 /\ zkc c f = false)) : zes c f op k o l = l := by unfold zes; rw [if_neg h]
theorem ypi {c : Codex} {f op : Int} {k o : Ex} {l : List Int} (h : zhg op = true /\ k.op = 2 /\ k.n = f /\ o.op = 1 /\ zkc c f = false) : zes c f op k o l = zmi (zmi l o.n) (o.n + 1) := by unfold zes; rw [if_pos h]
theorem ymu (c : Codex) (f op : Int) (os : List Ex) (l : List Int) : zzo c f op [] os l = l := by cases os <;> rfl
theorem zcf (c : Codex) {m : List (Int × Int)} {f : Int} (hf : 0 <= f /\ f < c.facts.length) (op n : Int) (u : ByteArray) (den : Int) (ps : List Piece) (ks : List Ex) (l : List Int) (hz : l.length + 10 * xg (.mk op n u den ps ks) <= 100000000)
  (ha : ∀ k ∈ ks, zep c m k) (hk : ∀ k ∈ ks, ∀ l' : List Int, l'.length + 10 * xg k <= 100000000 -> zx Tryz.prog G 55 [c.sv, k.sv, sI f, .imm (zj l')] (.imm (zj (candE c f k l')))) :
  zx Tryz.prog G 55 [c.sv, (Ex.mk op n u den ps ks).sv, sI f, .imm (zj l)] (.imm (zj (zzo c f op ks ks.reverse (zbo c f op n l)))) := by
 have hlen : (zd ks).length = ks.length := by rw [zr]; simp
 rw [xg] at hz
 have hle := zec ks
 obtain ⟨d, hd⟩ : ∃ d, c.facts[f.toNat]? = some d := ⟨_, List.getElem?_eq_getElem (by omega)⟩
 have hrow : (c.facts.map Decl.cells)[f.toNat]? = some [dS d.name, dS d.unit, dI d.role] := by simp [hd, Decl.cells]
 have hT : zkc c f = decide (d.unit = tT) := by unfold zkc; rw [hd]
 have hcmp := zdi G op
 have hfl := zzn c f op n l
 rw [show c.sv = .agg [.imm (zk c.facts), .imm (zk c.lines), .imm (ym c.arts)] from rfl] at hk ⊢
 obtain ⟨b, hb⟩ : ∃ b, b = zhg op := ⟨_, rfl⟩
 rw [<- hb] at hcmp
 obtain ⟨l1, hl1⟩ : ∃ l1, l1 = zbo c f op n l := ⟨_, rfl⟩
 rw [<- hl1] at hfl ⊢
 refine zc Tryz.func55 rfl (by rw [Tryz.ntmps55]; simp) rfl rfl ?_; intro E hH hK
 apply yph (T := fun v : List Int => [(2, sI f), (3, .imm (zj v)), (4, .ptr 0 0), (5, .ptr 1 0), (9, sB b), (10, sI 0)]) (H := [.cells [.imm (zk c.facts), .imm (zk c.lines), .imm (ym c.arts)], .cells [sI op, sI n, sS u, sI den, .imm (.isl 3 (ps.map Piece.cells)), .imm (.isl 6 (zd ks))]]) (x := l1)
 case h1 =>
  intro key
  by_cases hA : op = 2 /\ n = f
  ·have hp0 := zjq G l 0 (by omega)
   have hp1 := zjq G (zmi l 0) 1 (by have := zjn l 0; omega)
   (refine zg ?_; conv => whnf)
   repeat' ((with_reducible refine way ?_ ?_) <;> (intro h; conv => whnf))
   all_goals try (exfalso; omega)
   refine ze rfl  hp0 ?_
   (refine za ?_; conv => whnf)
   refine zh (i := f.toNat) rfl (by omega) hrow ?_
   (refine za ?_; conv => whnf)
   repeat' ((with_reducible refine way ?_ ?_) <;> (intro h; conv => whnf))
   ·have ht := h
    have e0 : zmi (zmi l 0) 1 = l1 := by rw [hl1]; unfold zbo; rw [if_pos hA, if_pos (hT.trans (decide_eq_true (p := d.unit = tT) ht))]
    refine ze rfl  hp1 ?_
    (refine za ?_; conv => whnf)
    refine ze rfl  hcmp ?_
    (refine za ?_; conv => whnf)
    refine zf [2, 3, 4, 5, 9, 10] ?_
    exact key _ e0
   ·have ht := h
    have e0 : zmi l 0 = l1 := by rw [hl1]; unfold zbo; rw [if_pos hA, if_neg (by rw [hT, decide_eq_false (p := d.unit = tT) ht]; simp)]
    refine ze rfl  hcmp ?_
    (refine za ?_; conv => whnf)
    refine zf [2, 3, 4, 5, 9, 10] ?_
    exact key _ e0
  ·have e0 : l = l1 := by rw [hl1]; unfold zbo; rw [if_neg hA]
   (refine zg ?_; conv => whnf)
   repeat' ((with_reducible refine way ?_ ?_) <;> (intro h; conv => whnf))
   all_goals try (exfalso; omega)
   all_goals refine ze rfl  hcmp ?_
   all_goals (refine za ?_; conv => whnf)
   all_goals refine zf [2, 3, 4, 5, 9, 10] ?_
   all_goals exact key _ e0
 case h2 =>
  refine zp ks (fun i (v : List Int) => [(2, sI f), (3, .imm (zj v)), (4, .ptr 0 0), (5, .ptr 1 0), (9, sB b), (10, sI i)]) (fun _ _ => [.cells [.imm (zk c.facts), .imm (zk c.lines), .imm (ym c.arts)], .cells [sI op, sI n, sS u, sI den, .imm (.isl 3 (ps.map Piece.cells)), .imm (.isl 6 (zd ks))]])
   (fun done rest v => zzo c f op ks ks.reverse l1 = zzo c f op rest (ks.reverse.drop done.length) v /\ v.length + 10 * ye rest <= 100000000) l1 ⟨rfl, by omega⟩ ?_ ?_
  ·rintro v ⟨h1, _⟩
   rw [h1, ymu] at hK
   (refine zg ?_; conv => whnf)
   repeat' ((with_reducible refine way ?_ ?_) <;> (intro h; conv => whnf))
   all_goals try (exfalso; omega)
   exact hK _
  ·rintro done x rest v hda hdl ⟨h1, h2⟩ ih
   have hw := zm (n := done.length) (by omega)
   obtain ⟨o, ho⟩ : ∃ o, ks.reverse[done.length]? = some o := ⟨_, List.getElem?_eq_getElem (by simp; omega)⟩
   have hoi : ks[ks.length - 1 - done.length]? = some o := by rw [<- ho, List.getElem?_reverse (by omega)]
   have hstep : zzo c f op ks ks.reverse l1 = zzo c f op rest (ks.reverse.drop (done ++ [x]).length) (zes c f op x o (candE c f x v)) := by
    obtain ⟨hlt, hoe⟩ := List.getElem?_eq_some_iff.1 ho
    rw [h1, List.drop_eq_getElem_cons hlt, hoe, List.length_append]
    rfl
   rw [ye] at h2
   have hx1 := zte x
   have hcl := zil c f _ x (Nat.lt_succ_self _) v
   have hsl := zru c f op x o (candE c f x v)
   have hcall := hk x (by rw [hda]; simp) v (by omega)
   have hao := ha o (List.mem_of_getElem? hoi)
   have hrx : (zd ks)[done.length]? = some x.cells := by rw [zr]; simp [hda]
   have hro : (zd ks)[ks.length - 1 - done.length]? = some o.cells := by rw [zr]; simp [hoi]
   generalize hV : candE c f x v = v2 at hcall hcl hsl hstep
   have fin : ∀ v3, v3 = zes c f op x o v2 -> SW E _ _ _ := fun v3 h3 => ih v3 ⟨by rw [h3]; exact hstep, by rw [h3]; omega⟩
   obtain ⟨xop, xn, xu, xden, xps, xks⟩ := x
   obtain ⟨oop, on, ou, oden, ops, oks⟩ := o
   have fin2 : ¬ (zhg op = true /\ xop = 2 /\ xn = f /\ oop = 1 /\ zkc c f = false) -> SW E _ _ _ := fun hn => fin v2 (ymt hn).symm
   (refine zg ?_; conv => whnf)
   repeat' ((with_reducible refine way ?_ ?_) <;> (intro h; conv => whnf))
   all_goals try (exfalso; omega)
   (refine zu 0 mixed rfl ?_; refine zb [777] (nx := 2) ?_; conv => whnf)
   refine zq (i := done.length) (row := [dI xop, dI xn, dS xu, dI xden, .isl 3 (xps.map Piece.cells), .isl 6 (zd xks)]) rfl (show 2 <= 2 by decide) rfl hrx ?_
   (refine zb [777] (nx := 2) ?_; conv => whnf)
   refine xb rfl (show 2 <= 2 by decide) hcall ?_
   (refine zb [777, 3] (nx := 2) ?_; conv => whnf)
   refine qj ⟨.imm (zj v2), [], none⟩ rfl rfl (show 2 <= 2 by decide) (fun _ _ _ => rfl) ?_
   refine jd (by kernel_rfl) ?_
   (refine zg ?_; conv => whnf)
   refine zh (i := ks.length - 1 - done.length) (row := [dI oop, dI on, dS ou, dI oden, .isl 3 (ops.map Piece.cells), .isl 6 (zd oks)]) rfl (by rw [hlen, yv (c := (ks.length : Int) - 1) (by omega) (by omega), yv (c := (ks.length : Int) - 1 - (done.length : Int)) (by omega) (by omega)]; omega) hro ?_
   (refine za ?_; conv => whnf)
   cases b <;> (conv => whnf)
   ·rw [hw]
    exact ys [2, 3, 4, 5, 9, 10] 2 (by rw [hH]; exact Nat.zero_le 2) (Nat.succ_le_succ (Nat.succ_le_succ (Nat.zero_le _))) rfl rfl (fin2 fun hh => by rw [<- hb] at hh; cases hh.1)
   refine zh (i := done.length) (row := [dI xop, dI xn, dS xu, dI xden, .isl 3 (xps.map Piece.cells), .isl 6 (zd xks)]) rfl rfl hrx ?_
   (refine za ?_; conv => whnf)
   repeat' ((with_reducible refine way ?_ ?_) <;> (intro h; conv => whnf))
   ·have g2 := h
    refine zh (i := done.length) (row := [dI xop, dI xn, dS xu, dI xden, .isl 3 (xps.map Piece.cells), .isl 6 (zd xks)]) rfl rfl hrx ?_
    (refine za ?_; conv => whnf)
    repeat' ((with_reducible refine way ?_ ?_) <;> (intro h; conv => whnf))
    ·have g3 : xn = f := by assumption
     have g4 : oop = 1 := by assumption
     refine zh (i := f.toNat) rfl (by omega) hrow ?_
     (refine za ?_; conv => whnf)
     repeat' ((with_reducible refine way ?_ ?_) <;> (intro h; conv => whnf))
     ·have g5 : ¬ d.unit = tT := h
      have hon : 0 <= on /\ on <= 999999999999 := by
       unfold zep at hao
       exact ztv hao.1 g4
      have hwon : IntKind.i64.wrap (on + 1) = on + 1 := yv (by omega) (by omega)
      have hq1 := zjq G v2 on (by omega)
      have hq2 := zjq G (zmi v2 on) (on + 1) (by have := zjn v2 on; omega)
      rw [<- hwon] at hq2
      have fin3 := fin (zmi (zmi v2 on) (IntKind.i64.wrap (on + 1))) (by
       rw [hwon]
       exact (ypi (k := .mk xop xn xu xden xps xks) (o := .mk oop on ou oden ops oks) ⟨hb.symm, g2, g3, g4, by rw [hT]; exact decide_eq_false g5⟩).symm)
      (refine zu 0 mixed rfl ?_; refine zb [777] (nx := 3) ?_; conv => whnf)
      refine xb rfl (show 3 <= 3 by decide) hq1 ?_
      (refine zb [777] (nx := 3) ?_; conv => whnf)
      refine xb rfl (show 3 <= 3 by decide) hq2 ?_
      (refine zb [777, 3] (nx := 3) ?_; conv => whnf)
      refine qj ⟨.imm (zj (zmi (zmi v2 on) (IntKind.i64.wrap (on + 1)))), [], none⟩ rfl rfl (show 3 <= 3 by decide) (fun _ _ _ => rfl) ?_
      refine jd (by kernel_rfl) ?_
      (refine zg ?_; conv => whnf)
      rw [hw]
      exact ys [2, 3, 4, 5, 9, 10] 2 (by rw [hH]; exact Nat.zero_le 2) (Nat.succ_le_succ (Nat.succ_le_succ (Nat.zero_le _))) rfl rfl fin3
     ·have g5 : d.unit = tT := h
      rw [hw]
      exact ys [2, 3, 4, 5, 9, 10] 2 (by rw [hH]; exact Nat.zero_le 2) (Nat.succ_le_succ (Nat.succ_le_succ (Nat.zero_le _))) rfl rfl (fin2 fun hh => by have := hh.2.2.2.2; rw [hT, decide_eq_true g5] at this; cases this)
    ·rw [hw]
     exact ys [2, 3, 4, 5, 9, 10] 2 (by rw [hH]; exact Nat.zero_le 2) (Nat.succ_le_succ (Nat.succ_le_succ (Nat.zero_le _))) rfl rfl (fin2 fun hh => absurd hh.2.2.2.1 h)
    ·rw [hw]
     exact ys [2, 3, 4, 5, 9, 10] 2 (by rw [hH]; exact Nat.zero_le 2) (Nat.succ_le_succ (Nat.succ_le_succ (Nat.zero_le _))) rfl rfl (fin2 fun hh => absurd hh.2.2.1 h)
   ·rw [hw]
    exact ys [2, 3, 4, 5, 9, 10] 2 (by rw [hH]; exact Nat.zero_le 2) (Nat.succ_le_succ (Nat.succ_le_succ (Nat.zero_le _))) rfl rfl (fin2 fun hh => absurd hh.2.1 h)
theorem zrv (c : Codex) {m : List (Int × Int)} {f : Int} (hf : 0 <= f /\ f < c.facts.length) (k : Ex) (hk : LeafE c k) (l : List Int) (hz : l.length + 10 * xg k <= 100000000) :
  zx Tryz.prog G 55 [c.sv, k.sv, sI f, .imm (zj l)] (.imm (zj (candE c f k l))) := by
 obtain ⟨op, n, u, den, ps, ks⟩ := k
 have hks : ks = [] := hk.no
 subst hks
 rw [<- zjr (.inl rfl)]
 exact zcf G c (m := m) hf op n u den ps [] l hz (fun k h => by cases h) (fun k h => by cases h)
theorem zgw (c : Codex) {m : List (Int × Int)} {f : Int} (hf : 0 <= f /\ f < c.facts.length) : ∀ (N : Nat) (e : Ex), SizeOf.sizeOf e < N -> zep c m e -> e.unit = tT -> simpE c e = true -> ∀ l : List Int, l.length + 10 * xg e <= 100000000 ->
  zx Tryz.prog G 55 [c.sv, e.sv, sI f, .imm (zj l)] (.imm (zj (candE c f e l)))
 | 0, _, h, _, _, _, _, _ => by omega
 | N + 1, .mk op n u den ps ks, hN, h, hu, hs, l, hz => by
  simp only [Ex.mk.sizeOf_spec] at hN
  have hu : u = tT := hu
  have hks : ∀ k ∈ ks, zep c m k := by unfold zep at h; exact wy h.2
  cases zjk h hu with
  | const h1 hk hu' =>
   subst hk
   rw [<- zjr (.inl rfl)]
   exact zcf G c hf op n u den ps [] l hz hks (fun k h => by cases h)
  | fact h1 hk hr ht =>
   subst hk
   rw [<- zjr (.inl rfl)]
   exact zcf G c hf op n u den ps [] l hz hks (fun k h => by cases h)
  | neg k h1 hk hka hku =>
   subst h1 hk
   simp only [List.cons.sizeOf_spec] at hN
   have hsk : simpE c k = true := by
    rw [simpE.eq_def] at hs
    simpa only [show ¬ (5 : Int) = 1 by decide, show ¬ (5 : Int) = 2 by decide, if_false, if_true] using hs
   rw [<- zjr (.inr (.inl ⟨k, rfl, rfl⟩))]
   refine zcf G c hf 5 n u den ps [k] l hz hks fun x hx l' hl' => ?_
   simp only [List.mem_singleton] at hx
   subst hx
   exact zgw c hf N x (by omega) hka hku hsk l' hl'
  | conn k r h1 hk hka hra hku hru =>
   subst hk
   simp only [List.cons.sizeOf_spec] at hN
   have hsE : simpE c (.mk op n u den ps [k, r]) = (simpE c k && simpE c r) := by
    rw [simpE.eq_def]
    simp only
    rw [if_neg (by omega), if_neg (by omega), if_neg (by omega), if_pos h1]
   rw [hsE, Bool.and_eq_true] at hs
   rw [<- zjr (.inr (.inr ⟨k, r, rfl⟩))]
   refine zcf G c hf op n u den ps [k, r] l hz hks fun x hx l' hl' => ?_
   simp only [List.mem_cons, List.not_mem_nil, or_false] at hx
   rcases hx with rfl | rfl
   ·exact zgw c hf N x (by omega) hka hku hs.1 l' hl'
   ·exact zgw c hf N x (by omega) hra hru hs.2 l' hl'
  | cmp k r h1 hk hka hra =>
   subst hk
   rw [zfv h1] at hs
   simp only [Bool.and_eq_true, Bool.or_eq_true, decide_eq_true_eq] at hs
   have hlk := zek hka (zfc hs.1.1)
   have hlr := zek hra (zfc hs.1.2)
   rw [<- zjr (.inr (.inr ⟨k, r, rfl⟩))]
   refine zcf G c hf op n u den ps [k, r] l hz hks fun x hx l' hl' => ?_
   simp only [List.mem_cons, List.not_mem_nil, or_false] at hx
   rcases hx with rfl | rfl
   ·exact zrv G c (m := m) hf x hlk l' hl'
   ·exact zrv G c (m := m) hf x hlr l' hl'
  | other h1 h2 h3 h4 h5 =>
   exfalso
   unfold simpE at hs
   rw [if_neg h1, if_neg h2, if_neg h3, if_neg h4] at hs
   have hce : zhg op = false := by unfold zhg; simp; omega
   split at hs
   ·simp [hce] at hs
   ·cases hs
def ymv (ls : List (List Int)) : D := .isl 1 (ls.map fun l => [zj l])
theorem yhv (ls : List (List Int)) (l : List Int) : zhi (ls ++ [l]) = min (zhi ls * max 1 (l.length : Int)) 1000000 := by
 unfold zhi
 rw [List.foldl_append]
 rfl
theorem ymw (ls : List (List Int)) : 1 <= zhi ls /\ zhi ls <= 1000000 := by
 have : ∀ (ls : List (List Int)) (p : Int), 1 <= p /\ p <= 1000000 -> 1 <= ls.foldl (fun p l => min (p * max 1 (l.length : Int)) 1000000) p /\ ls.foldl (fun p l => min (p * max 1 (l.length : Int)) 1000000) p <= 1000000 := by
  intro ls
  induction ls with
  | nil => exact fun p h => h
  | cons l r ih =>
   intro p h
   refine ih _ ?_
   have h1 : p <= p * max 1 (l.length : Int) := by
    have := Int.mul_le_mul_of_nonneg_left (show (1 : Int) <= max 1 (l.length : Int) by omega) (show 0 <= p by omega)
    omega
   show 1 <= min (p * max 1 (l.length : Int)) 1000000 /\ min (p * max 1 (l.length : Int)) 1000000 <= 1000000
   omega
 exact this ls 1 (by omega)
theorem zrw (c : Codex) (f : Int) : ∀ (es : List Ex), (∀ e ∈ es, xg e <= 400) -> ∀ l : List Int, (es.foldl (fun l e => candE c f e l) l).length <= l.length + 3200 * es.length
 | [], _, l => by simp
 | e :: r, h, l => by
  have h1 := zil c f _ e (Nat.lt_succ_self _) l
  have h2 := zrw c f r (fun x hx => h x (by simp [hx])) (candE c f e l)
  have h3 := h e (by simp)
  rw [List.foldl_cons, List.length_cons]
  omega
theorem ymx (c : Codex) (f : Int) (es : List Ex) (e : Ex) : yex c f (es ++ [e]) = candE c f e (yex c f es) := by
 unfold yex
 rw [List.foldl_append]
 rfl
theorem yhw (c : Codex) {m : List (Int × Int)} (vs : List Int) (hz : vs.length <= 1000) (hv : ∀ v ∈ vs, 0 <= v /\ v < c.arts.length) (hwh : ∀ a ∈ c.arts, a.when_.length <= 100) (hc : ∀ e ∈ yg c vs, zzj c m e)
  (hb : (yg c vs).all (simpE c) = false) : zx Tryz.prog G 23 [c.sv, .imm (zj vs)] (.tup [zdk, sB false]) := by
 have h1 := zik G c vs (by omega) hv hwh
 have hl := zej hwh vs
 generalize yg c vs = es at h1 hl hc hb
 have hel : (es.map Ex.cells).length = es.length := by simp
 have hS := fun e => zbm G c m _ e (Nat.lt_succ_self _)
 rw [show c.sv = .agg [.imm (zk c.facts), .imm (zk c.lines), .imm (ym c.arts)] from rfl] at h1 hS ⊢
 refine zc Tryz.func23 rfl (by rw [Tryz.ntmps23]; simp) rfl rfl ?_; intro E hH hK
 (refine zg ?_; conv => whnf)
 refine ze rfl  h1 ?_
 (refine za ?_; conv => whnf)
 refine zf [2, 6, 7, 8, 9] ?_
 change SW E _ [(2, .ptr 0 0), (6, .imm (yq es)), (7, zdk), (8, sI 1), (9, sI 0)] [.cells [.imm (zk c.facts), .imm (zk c.lines), .imm (ym c.arts)]]
 refine zp es (fun i (_ : Unit) => [(2, .ptr 0 0), (6, .imm (yq es)), (7, zdk), (8, sI 1), (9, sI i)]) (fun _ _ => [.cells [.imm (zk c.facts), .imm (zk c.lines), .imm (ym c.arts)]])
  (fun done _ _ => done.all (simpE c) = true) () rfl ?_ ?_
 ·rintro _ h2
  rw [h2] at hb
  cases hb
 ·rintro done x rest _ hda hdl h2 ih
  have hw := zm (n := done.length) (by omega)
  have hx := hS x (hc x (by rw [hda]; simp)).1 (hc x (by rw [hda]; simp)).2
  have hsn : (done ++ [x]).all (simpE c) = simpE c x := by rw [List.all_append, h2]; simp
  have hrow : (es.map Ex.cells)[done.length]? = some x.cells := by simp [hda]
  rw [hsn] at ih
  generalize simpE c x = b1 at hx ih
  obtain ⟨kop, kn, ku, kden, kps, kks⟩ := x
  (refine zg ?_; conv => whnf)
  repeat' ((with_reducible refine way ?_ ?_) <;> (intro h; conv => whnf))
  all_goals try (exfalso; omega)
  (refine zu 0 mixed rfl ?_; refine zb [777] (nx := 1) ?_; conv => whnf)
  refine zq (i := done.length) (row := [dI kop, dI kn, dS ku, dI kden, .isl 3 (kps.map Piece.cells), .isl 6 (zd kks)]) rfl (show 1 <= 1 by decide) rfl hrow ?_
  (refine zb [777] (nx := 1) ?_; conv => whnf)
  refine xb rfl (show 1 <= 1 by decide) hx ?_
  (refine zb [777, 10] (nx := 1) ?_; conv => whnf)
  refine qj ⟨sB b1, [], none⟩ rfl rfl (show 1 <= 1 by decide) (fun _ _ _ => rfl) ?_
  refine jd (by kernel_rfl) ?_
  (refine zg ?_; conv => whnf)
  cases b1 <;> (conv => whnf)
  ·exact hK _
  ·rw [hw]
   exact zf [2, 6, 7, 8, 9] (ih () rfl)
theorem ycb (c : Codex) {m : List (Int × Int)} (vs : List Int) (hz : vs.length <= 100) (hv : ∀ v ∈ vs, 0 <= v /\ v < c.arts.length) (hwh : ∀ a ∈ c.arts, a.when_.length <= 100) (hc : ∀ e ∈ yg c vs, zzj c m e /\ xg e <= 400)
  (hF : c.facts.length <= 1000) (hb : (yg c vs).all (simpE c) = true) : zx Tryz.prog G 23 [c.sv, .imm (zj vs)] (.tup [.imm (ymv (ybw c (yg c vs))), sB (decide (zhi (ybw c (yg c vs)) <= 4096))]) := by
 have h1 := zik G c vs (by omega) hv hwh
 have hl := zej hwh vs
 generalize yg c vs = es at h1 hl hc hb
 have hel : (es.map Ex.cells).length = es.length := by simp
 have hfl : (c.facts.map Decl.cells).length = c.facts.length := by simp
 have hse : ∀ e ∈ es, simpE c e = true := List.all_eq_true.1 hb
 have hS := fun e => zbm G c m _ e (Nat.lt_succ_self _)
 have hC := fun (f : Int) (hf : 0 <= f /\ f < c.facts.length) (e : Ex) => zgw G c (m := m) hf _ e (Nat.lt_succ_self _)
 rw [show c.sv = .agg [.imm (zk c.facts), .imm (zk c.lines), .imm (ym c.arts)] from rfl] at h1 hS hC ⊢
 refine zc Tryz.func23 rfl (by rw [Tryz.ntmps23]; simp) rfl rfl ?_; intro E hH hK
 (refine zg ?_; conv => whnf)
 refine ze rfl  h1 ?_
 (refine za ?_; conv => whnf)
 refine zf [2, 6, 7, 8, 9] ?_
 change SW E _ [(2, .ptr 0 0), (6, .imm (yq es)), (7, zdk), (8, sI 1), (9, sI 0)] [.cells [.imm (zk c.facts), .imm (zk c.lines), .imm (ym c.arts)]]
 refine zp es (fun i (_ : Unit) => [(2, .ptr 0 0), (6, .imm (yq es)), (7, zdk), (8, sI 1), (9, sI i)]) (fun _ _ => [.cells [.imm (zk c.facts), .imm (zk c.lines), .imm (ym c.arts)]])
  (fun done _ _ => True) () trivial ?_ ?_
 ·rintro _ _
  (refine zg ?_; conv => whnf)
  repeat' ((with_reducible refine way ?_ ?_) <;> (intro h; conv => whnf))
  all_goals try (exfalso; omega)
  refine zqe (n := 7) (kk := 1) rfl ?_
  refine zf [2, 6, 7, 8, 11] ?_
  change SW E _ [(2, .ptr 0 0), (6, .imm (yq es)), (7, .asl 1 1 []), (8, sI 1), (11, sI 0)] [.cells [.imm (zk c.facts), .imm (zk c.lines), .imm (ym c.arts)], .tok 1 0]
  refine zp c.facts (fun i (ls : List (List Int)) => [(2, .ptr 0 0), (6, .imm (yq es)), (7, .asl 1 1 (ls.map fun l => [zj l])), (8, sI (zhi ls)), (11, sI i)])
   (fun _ ls => [.cells [.imm (zk c.facts), .imm (zk c.lines), .imm (ym c.arts)], .tok 1 (ls.map fun l => [zj l]).length])
   (fun done _ ls => ls = (List.range done.length).map fun (i : Nat) => yex c i es) [] rfl ?_ ?_
  ·rintro ls h2
   have h3 : ybw c es = ls := h2.symm
   rw [h3] at hK
   refine zci ?_
   change SW E _ [(2, .ptr 0 0), (6, .imm (yq es)), (7, .imm (ymv ls)), (8, sI (zhi ls)), (11, sI c.facts.length)] _
   (refine zg ?_; conv => whnf)
   repeat' ((with_reducible refine way ?_ ?_) <;> (intro h; conv => whnf))
   all_goals try (exfalso; omega)
   all_goals exact hK _
  ·rintro done x rest ls hda hdl h2 ih
   have hw := zm (n := done.length) (by omega)
   have hfr : 0 <= (done.length : Int) /\ (done.length : Int) < c.facts.length := by omega
   have hsn : ∀ l, l = yex c done.length es -> ls ++ [l] = (List.range (done ++ [x]).length).map fun (i : Nat) => yex c i es := fun l h3 => by
    rw [List.length_append, List.length_cons, List.length_nil, List.range_succ, List.map_append, <- h2, h3]
    rfl
   have hlsl : ls.length = done.length := by rw [h2]; simp
   have hpr := ymw ls
   (refine zg ?_; conv => whnf)
   repeat' ((with_reducible refine way ?_ ?_) <;> (intro h; conv => whnf))
   all_goals try (exfalso; omega)
   refine yqy 12 (x := zdk) (y := .imm (zj [])) rfl (SV.Is.nil 1) ?_
   refine zf [2, 6, 7, 8, 11, 12, 13] ?_
   change SW E _ [(2, .ptr 0 0), (6, .imm (yq es)), (7, .asl 1 1 (ls.map fun l => [zj l])), (8, sI (zhi ls)), (11, sI done.length), (12, .imm (zj [])), (13, sI 0)] [.cells [.imm (zk c.facts), .imm (zk c.lines), .imm (ym c.arts)], .tok 1 (ls.map fun l => [zj l]).length]
   refine zp es (fun i (l : List Int) => [(2, .ptr 0 0), (6, .imm (yq es)), (7, .asl 1 1 (ls.map fun l => [zj l])), (8, sI (zhi ls)), (11, sI done.length), (12, .imm (zj l)), (13, sI i)])
    (fun _ _ => [.cells [.imm (zk c.facts), .imm (zk c.lines), .imm (ym c.arts)], .tok 1 (ls.map fun l => [zj l]).length])
    (fun dn _ l => l = yex c done.length dn) [] rfl ?_ ?_
   ·rintro l h3
    have hll := zrw c done.length es (fun e he => (hc e he).2) []
    have hll : l.length <= 3200 * es.length := by rw [h3]; simpa [yex] using hll
    have hli : (l.map fun n => [dI n]).length = l.length := by simp
    have hm0 : 1 <= max 1 (l.length : Int) /\ max 1 (l.length : Int) <= 32000000 := by omega
    have e1 : (if 1000000 < IntKind.i64.wrap (zhi ls * (if 1 < (l.length : Int) then (l.length : Int) else 1)) then 1000000 else IntKind.i64.wrap (zhi ls * (if 1 < (l.length : Int) then (l.length : Int) else 1))) = zhi (ls ++ [l]) := by
     rw [yhv, show (if 1 < (l.length : Int) then (l.length : Int) else 1) = max 1 (l.length : Int) by omega]
     have hb1 := Int.mul_le_mul_of_nonneg_right hpr.2 (show 0 <= max 1 (l.length : Int) by omega)
     have hb2 := Int.mul_nonneg (show 0 <= zhi ls by omega) (show 0 <= max 1 (l.length : Int) by omega)
     rw [yv (by omega) (by omega)]
     omega
    have hsl := hsn l h3
    have hend := ih (ls ++ [l]) hsl
    rw [<- e1, <- hli] at hend
    (refine zg ?_; conv => whnf)
    repeat' ((with_reducible refine way ?_ ?_) <;> (intro h; conv => whnf))
    all_goals try (exfalso; omega)
    refine xz (b := 1) (kk := 1) (rows := ls.map fun l => [zj l]) (new := [[zj l]]) rfl ⟨by decide, rfl⟩ rfl (by rw [List.length_map]; simp only [List.length_cons, List.length_nil]; omega) ?_
    have e5 : (ls.map fun l => [zj l]) ++ [[zj l]] = (ls ++ [l]).map fun l => [zj l] := by simp
    have e6 : (ls.map fun l => [zj l]).length + [[zj l]].length = ((ls ++ [l]).map fun l => [zj l]).length := by simp
    refine Eq.mpr (congrArg (fun v => SWr E _ _ _ (wq _ _ (.asl 1 1 v)) _) e5) ?_
    refine Eq.mpr (congrArg (fun v => SWr E _ _ _ _ (List.set _ 1 (.tok 1 v))) e6) ?_
    (refine za ?_; conv => whnf)
    rw [hw]
    exact zf [2, 6, 7, 8, 11] hend
   ·rintro dn y rs l hdy hdly h3 ihy
    have hwy := zm (n := dn.length) (by omega)
    have hym : y ∈ es := by rw [hdy]; simp
    have hll := zrw c done.length dn (fun e he => (hc e (by rw [hdy]; simp [he])).2) []
    have hll : l.length <= 3200 * dn.length := by rw [h3]; simpa [yex] using hll
    have hcall := hC done.length hfr y (hc y hym).1.1 (hc y hym).1.2 (hse y hym) l (by have := (hc y hym).2; omega)
    have hsy := ymx c done.length dn y
    rw [<- h3] at hsy
    generalize candE c done.length y l = l2 at hcall hsy
    have hrow : (es.map Ex.cells)[dn.length]? = some y.cells := by simp [hdy]
    obtain ⟨kop, kn, ku, kden, kps, kks⟩ := y
    (refine zg ?_; conv => whnf)
    repeat' ((with_reducible refine way ?_ ?_) <;> (intro h; conv => whnf))
    all_goals try (exfalso; omega)
    (refine zu 0 mixed rfl ?_; refine zb [777] (nx := 2) ?_; conv => whnf)
    refine zq (i := dn.length) (row := [dI kop, dI kn, dS ku, dI kden, .isl 3 (kps.map Piece.cells), .isl 6 (zd kks)]) rfl (show 2 <= 2 by decide) rfl hrow ?_
    (refine zb [777] (nx := 2) ?_; conv => whnf)
    refine xb rfl (show 2 <= 2 by decide) hcall ?_
    (refine zb [777, 12] (nx := 2) ?_; conv => whnf)
    refine qj ⟨.imm (zj l2), [], none⟩ rfl rfl (show 2 <= 2 by decide) (fun _ _ _ => rfl) ?_
    refine jd (by kernel_rfl) ?_
    (refine zg ?_; conv => whnf)
    rw [hwy]
    exact zf [2, 6, 7, 8, 11, 12, 13] (ihy l2 hsy.symm)
 ·rintro done x rest _ hda hdl _ ih
  have hw := zm (n := done.length) (by omega)
  have hxm : x ∈ es := by rw [hda]; simp
  have hx := hS x (hc x hxm).1.1 (hc x hxm).1.2
  rw [hse x hxm] at hx
  have hrow : (es.map Ex.cells)[done.length]? = some x.cells := by simp [hda]
  obtain ⟨kop, kn, ku, kden, kps, kks⟩ := x
  (refine zg ?_; conv => whnf)
  repeat' ((with_reducible refine way ?_ ?_) <;> (intro h; conv => whnf))
  all_goals try (exfalso; omega)
  (refine zu 0 mixed rfl ?_; refine zb [777] (nx := 1) ?_; conv => whnf)
  refine zq (i := done.length) (row := [dI kop, dI kn, dS ku, dI kden, .isl 3 (kps.map Piece.cells), .isl 6 (zd kks)]) rfl (show 1 <= 1 by decide) rfl hrow ?_
  (refine zb [777] (nx := 1) ?_; conv => whnf)
  refine xb rfl (show 1 <= 1 by decide) hx ?_
  (refine zb [777, 10] (nx := 1) ?_; conv => whnf)
  refine qj ⟨sB true, [], none⟩ rfl rfl (show 1 <= 1 by decide) (fun _ _ _ => rfl) ?_
  refine jd (by kernel_rfl) ?_
  (refine zg ?_; conv => whnf)
  rw [hw]
  exact zf [2, 6, 7, 8, 9] (ih () trivial)
abbrev zao : D := .val (.slice none 0 0)
def znt : ByteArray := ⟨#[69, 85, 82]⟩
def yhx (op n : Int) (u : ByteArray) (ks : D) : SV := .agg [sI op, sI n, sS u, sI 0, .imm zao, .imm ks]
theorem ypj (op n : Int) (u : ByteArray) (ks : List Ex) : (yhx op n u (.isl 6 (ks.map Ex.cells))).Is (Ex.mk op n u 0 [] ks).sv := by
 rw [Ex.sv, Ex.cells, zr]
 exact SIs.agg (.cons (SV.Is.refl _) (.cons (SV.Is.refl _) (.cons (SV.Is.refl _) (.cons (SV.Is.refl _) (.cons (SV.Is.nil 3) (.cons (SV.Is.refl _) .nil))))))
theorem zrx (op n : Int) (u : ByteArray) : (yhx op n u zao).Is (Ex.mk op n u 0 [] []).sv := by
 rw [Ex.sv, Ex.cells, zr]
 exact SIs.agg (.cons (SV.Is.refl _) (.cons (SV.Is.refl _) (.cons (SV.Is.refl _) (.cons (SV.Is.refl _) (.cons (SV.Is.nil 3) (.cons (SV.Is.nil 6) .nil))))))
theorem znu (n : Int) (u : ByteArray) : zx Tryz.prog G 36 [sI n, sS u] (Ex.mk 1 n u 0 [] []).sv := by
 refine zcj (r := yhx 1 n u zao) ?_ (zrx _ _ _)
 refine zc Tryz.func36 rfl (by rw [Tryz.ntmps36]; simp) rfl rfl ?_; intro E hH hK
 (refine zg ?_; conv => whnf)
 exact hK _
theorem ymy (n : Int) (u : ByteArray) : zx Tryz.prog G 37 [sI n, sS u] (Ex.mk 2 n u 0 [] []).sv := by
 refine zcj (r := yhx 2 n u zao) ?_ (zrx _ _ _)
 refine zc Tryz.func37 rfl (by rw [Tryz.ntmps37]; simp) rfl rfl ?_; intro E hH hK
 (refine zg ?_; conv => whnf)
 exact hK _
theorem yhy (op : Int) (a b : Ex) : zx Tryz.prog G 35 [sI op, a.sv, b.sv] (Ex.mk op 0 tT 0 [] [a, b]).sv := by
 refine zcj (r := yhx op 0 tT (.isl 6 ([a, b].map Ex.cells))) ?_ (ypj _ _ _ _)
 obtain ⟨o1, n1, u1, d1, p1, k1⟩ := a
 obtain ⟨o2, n2, u2, d2, p2, k2⟩ := b
 refine zc Tryz.func35 rfl (by rw [Tryz.ntmps35]; simp) rfl rfl ?_; intro E hH hK
 (refine zg ?_; conv => whnf)
 exact hK _
def zbq : List Decl := [⟨⟨#[104, 111, 117, 114, 115]⟩, ⟨#[109, 105, 110, 117, 116, 101, 115]⟩, 0⟩, ⟨⟨#[109, 97, 114, 114, 105, 101, 100]⟩, ⟨#[116, 114, 117, 116, 104]⟩, 0⟩, ⟨⟨#[97, 103, 101]⟩, ⟨#[110, 117, 109, 98, 101, 114]⟩, 0⟩]
def zbr : List Decl := [⟨⟨#[98, 97, 115, 105, 99]⟩, znt, 1⟩]
def ypk (i : Nat) (es : List Ex) : Article := ⟨i + 1, 0, 1, 8766, 36525, 8766, es, [], .mk 1 100 znt 0 [] []⟩
def yhz (w : List (List Ex)) : Codex := ⟨zbq, zbr, w.mapIdx ypk⟩
def ycc (i : Nat) (es : List Ex) : List D := [dI ((i : Int) + 1), dI 0, dI 1, dI 8766, dI 36525, dI 8766, yq es, zao, dI 1, dI 100, dS znt, dI 0, .isl 3 [], .isl 6 []]
theorem zzp (w : List (List Ex)) (hw : w.length <= 1000) : zx Tryz.prog G 38 [.imm (.isl 1 (w.map fun es => [yq es]))] (yhz w).sv := by
 refine zcj (r := .agg [.imm (zk zbq), .imm (zk zbr), .imm (.isl 14 (w.mapIdx ycc))]) ?_ ?_
 rotate_left
 ·refine SIs.agg (.cons (SV.Is.refl _) (.cons (SV.Is.refl _) (.cons (D.Is.imm (DIss.isl (k := 14) ?_)) .nil)))
  show DIss (w.mapIdx ycc) ((w.mapIdx ypk).map Article.cells)
  have em : (w.mapIdx ypk).map Article.cells = w.mapIdx (fun i es => (ypk i es).cells) := by
   apply List.ext_getElem?
   intro i
   rw [List.getElem?_map, List.getElem?_mapIdx, List.getElem?_mapIdx, Option.map_map]
   rfl
  rw [em]
  have : ∀ (l : List (List Ex)) (f g : Nat -> List Ex -> List D), (∀ i e, DIs (f i e) (g i e)) -> DIss (l.mapIdx f) (l.mapIdx g) := by
   intro l
   induction l with
   | nil => intro f g _; exact .nil
   | cons e l ih =>
    intro f g h
    rw [List.mapIdx_cons, List.mapIdx_cons]
    exact .cons (h 0 e) (ih _ _ fun i e => h (i + 1) e)
  refine this w _ _ fun i e => ?_
  exact .cons (D.Is.refl _) (.cons (D.Is.refl _) (.cons (D.Is.refl _) (.cons (D.Is.refl _) (.cons (D.Is.refl _) (.cons (D.Is.refl _) (.cons (D.Is.refl _) (.cons (D.Is.nil 1) (.cons (D.Is.refl _) (.cons (D.Is.refl _) (.cons (D.Is.refl _) (.cons (D.Is.refl _) (.cons (D.Is.refl _) (.cons (D.Is.refl _) .nil)))))))))))))
 have hla : (w.map fun es => [yq es]).length = w.length := by simp
 have hk := znu G 100 znt
 refine zc Tryz.func38 rfl (by rw [Tryz.ntmps38]; simp) rfl rfl ?_; intro E hH hK
 (refine zg ?_; conv => whnf)
 refine zf [0, 2, 3, 4] ?_
 change SW E _ [(0, .imm (.isl 1 (w.map fun es => [yq es]))), (2, .ptr 0 0), (3, .ptr 1 0), (4, sI 0)] [.cells [.imm zao, .imm zao, .imm zao], .cells [.imm (zk zbq), .imm (zk zbr), .imm zao]]
 refine zne 1 2 14 (cs := [.imm (zk zbq), .imm (zk zbr), .imm zao]) rfl rfl ?_
 change SW E _ [(0, .imm (.isl 1 (w.map fun es => [yq es]))), (2, .ptr 0 0), (3, .ptr 1 0), (4, sI 0)] [.cells [.imm zao, .imm zao, .imm zao], .cells [.imm (zk zbq), .imm (zk zbr), .asl 2 14 []], .tok 14 0]
 refine zp w (fun i (_ : List (List D)) => [(0, .imm (.isl 1 (w.map fun es => [yq es]))), (2, .ptr 0 0), (3, .ptr 1 0), (4, sI i)]) (fun _ L => [.cells [.imm zao, .imm zao, .imm zao], .cells [.imm (zk zbq), .imm (zk zbr), .asl 2 14 L], .tok 14 L.length])
  (fun done _ L => L = done.mapIdx ycc) [] rfl ?_ ?_
 ·rintro L h1
  rw [<- h1] at hK
  refine zci ?_
  change SW E _ [(0, .imm (.isl 1 (w.map fun es => [yq es]))), (2, .ptr 0 0), (3, .ptr 1 0), (4, sI w.length)] [.cells [.imm zao, .imm zao, .imm zao], .cells [.imm (zk zbq), .imm (zk zbr), .imm (.isl 14 L)], _]
  (refine zg ?_; conv => whnf)
  repeat' ((with_reducible refine way ?_ ?_) <;> (intro h; conv => whnf))
  all_goals try (exfalso; omega)
  exact hK _
 ·rintro done x rest L hda hdl h1 ih
  have hw2 := zm (n := done.length) (by omega)
  have hrx : (w.map fun es => [yq es])[done.length]? = some [yq x] := by simp [hda]
  have hLl : L.length = done.length := by rw [h1]; simp
  have hsn : (done ++ [x]).mapIdx ycc = L ++ [ycc done.length x] := by rw [List.mapIdx_concat, <- h1]
  (refine zg ?_; conv => whnf)
  repeat' ((with_reducible refine way ?_ ?_) <;> (intro h; conv => whnf))
  all_goals try (exfalso; omega)
  (refine zu 0 mixed rfl ?_; refine zb [777] (nx := 3) ?_; conv => whnf)
  refine zq (i := done.length) (row := [yq x]) rfl (show 3 <= 3 by decide) rfl hrx ?_
  (refine zb [777] (nx := 3) ?_; conv => whnf)
  refine xb rfl (show 3 <= 3 by decide) hk ?_
  (refine zb [777] (nx := 3) ?_; conv => whnf)
  rw [show IntKind.i64.wrap ((done.length : Int) + 1) = (done.length : Int) + 1 from yv (by omega) (by omega)]
  refine ziv (b := 2) (kk := 14) (rows := L) (new := [ycc done.length x]) rfl rfl rfl rfl rfl rfl rfl rfl rfl rfl ⟨by decide, rfl⟩ (show 3 <= 3 by decide) rfl (by simp only [List.length_cons, List.length_nil]; omega) ?_
  (refine zb [777] (nx := 3) ?_; conv => whnf)
  (refine zg ?_; conv => whnf)
  rw [hw2]
  refine zf [0, 2, 3, 4] ?_
  exact ih (L ++ [ycc done.length x]) hsn.symm
def zgx (i : Nat) (d : D) : List SV := [sI ((i : Int) + 1), sI 0, sI 1, sI 8766, sI 36525, sI 8766, .imm d, .imm zao, sI 1, sI 100, sS znt, sI 0, .imm (.isl 3 []), .imm (.isl 6 [])]
theorem zzq : ∀ (ds : List D) (f : Nat -> Nat), ((ds.mapIdx fun i d => zgx (f i) d).flatten).length = ds.length * 14
 | [], _ => rfl
 | d :: r, f => by
  rw [List.mapIdx_cons, List.flatten_cons, List.length_append, zzq r (fun i => f (i + 1))]
  simp only [List.length_cons, zgx, List.length_nil]
  omega
theorem ymz (ds : List D) (hw : ds.length <= 1000) (hds : ∀ d ∈ ds, d = zao) : SCall Tryz.prog G 38 [.imm (.isl 1 (ds.map fun d => [d]))] [] (fun r H' => r = .agg [.imm (zk zbq), .imm (zk zbr), .vec 2 ds.length] /\ ∃ x y, H' = [x, y, .vec 14 (ds.mapIdx zgx).flatten]) := by
 have hk := znu G 100 znt
 have hla : (ds.map fun d => [d]).length = ds.length := by simp
 refine xe Tryz.func38 rfl (by rw [Tryz.ntmps38]; simp) ?_
 intro E hH hK
 (refine zg ?_; conv => whnf)
 refine zf [0, 2, 3, 4] ?_
 change SW E _ [(0, .imm (.isl 1 (ds.map fun d => [d]))), (2, .ptr 0 0), (3, .ptr 1 0), (4, sI 0)] [.cells [.imm zao, .imm zao, .imm zao], .cells [.imm (zk zbq), .imm (zk zbr), .imm zao]]
 refine zmx 1 2 14 (cs := [.imm (zk zbq), .imm (zk zbr), .imm zao]) rfl rfl ?_
 change SW E _ [(0, .imm (.isl 1 (ds.map fun d => [d]))), (2, .ptr 0 0), (3, .ptr 1 0), (4, sI 0)] [.cells [.imm zao, .imm zao, .imm zao], .cells [.imm (zk zbq), .imm (zk zbr), .vec 2 0], .vec 14 []]
 refine zp ds (fun i (_ : List SV) => [(0, .imm (.isl 1 (ds.map fun d => [d]))), (2, .ptr 0 0), (3, .ptr 1 0), (4, sI i)]) (fun i L => [.cells [.imm zao, .imm zao, .imm zao], .cells [.imm (zk zbq), .imm (zk zbr), .vec 2 i], .vec 14 L])
  (fun done _ L => L = (done.mapIdx zgx).flatten) [] rfl ?_ ?_
 ·rintro L h1
  (refine zg ?_; conv => whnf)
  repeat' ((with_reducible refine way ?_ ?_) <;> (intro h; conv => whnf))
  all_goals try (exfalso; omega)
  rw [h1]
  exact hK _ _ ⟨rfl, _, _, rfl⟩
 ·rintro done x rest L hda hdl h1 ih
  have hw2 := zm (n := done.length) (by omega)
  have hrx : (ds.map fun d => [d])[done.length]? = some [x] := by simp [hda]
  have hLl : L.length = done.length * 14 := by rw [h1]; exact zzq done fun i => i
  have hx : x = zao := hds x (by rw [hda]; simp)
  subst hx
  have hsn : ((done ++ [zao]).mapIdx zgx).flatten = L ++ zgx done.length zao := by rw [List.mapIdx_concat, List.flatten_append, <- h1]; simp
  (refine zg ?_; conv => whnf)
  repeat' ((with_reducible refine way ?_ ?_) <;> (intro h; conv => whnf))
  all_goals try (exfalso; omega)
  (refine zu 0 mixed rfl ?_; refine zb [777] (nx := 3) ?_; conv => whnf)
  refine zq (i := done.length) (row := [zao]) rfl (show 3 <= 3 by decide) rfl hrx ?_
  (refine zb [777] (nx := 3) ?_; conv => whnf)
  refine xb rfl (show 3 <= 3 by decide) hk ?_
  (refine zb [777] (nx := 3) ?_; conv => whnf)
  rw [show IntKind.i64.wrap ((done.length : Int) + 1) = (done.length : Int) + 1 from yv (by omega) (by omega)]
  refine ybt (b := 2) (kk := 14) (n := done.length) (cs := L) (new := [[dI ((done.length : Int) + 1), dI 0, dI 1, dI 8766, dI 36525, dI 8766, zao, zao, dI 1, dI 100, dS znt, dI 0, .isl 3 [], .isl 6 []]]) rfl rfl rfl rfl rfl rfl rfl rfl rfl rfl ⟨by decide, rfl⟩ (show 3 <= 3 by decide) rfl hLl (by decide) (Nat.le_refl 1) (by simp only [List.length_cons, List.length_nil]; omega) ?_
  (refine zb [777] (nx := 3) ?_; conv => whnf)
  (refine zg ?_; conv => whnf)
  rw [hw2]
  refine zf [0, 2, 3, 4] ?_
  exact ih (L ++ zgx done.length zao) hsn.symm
def eK (n : Int) (u : ByteArray) : Ex := .mk 1 n u 0 [] []
def eF (n : Int) (u : ByteArray) : Ex := .mk 2 n u 0 [] []
def eT (op : Int) (a b : Ex) : Ex := .mk op 0 tT 0 [] [a, b]
def zwj : Ex := eT 9 (eK 480 tM) (eF 0 tM)
def zgy : Ex := eT 8 (.mk 4 1 tN 0 [] []) (eK 7 tN)
def zke : Ex := eT 9 (eF 2 tN) (eK 18 tN)
def zkf : Ex := eT 10 (eK 18 tN) (eF 2 tN)
def yit : Ex := eT 9 (eK 30 tN) (eF 2 tN)
def xC : Codex := yhz [[zwj, zgy], [eT 6 zke zkf], [eF 1 tT], [yit]]
def xD : Codex := yhz [[eF 1 tT], [yit]]
def xR : Codex := ⟨zbq, zbr, [⟨1, 0, 1, 8766, 36525, 8766, [], [], .mk 3 2 znt 0 [] []⟩, ⟨2, 0, 1, 8766, 36525, 8766, [], [], .mk 3 1 znt 0 [] []⟩]⟩
theorem yuc : zw xC = true := by kernel_rfl
theorem yvk : zw xD = true := by kernel_rfl
theorem yud : zw xR = true := by kernel_rfl
def ycd (x : Int) : List Int -> List Int
 | [] => [x]
 | y :: l => if x <= y then x :: y :: l else y :: ycd x l
def zzr : List Int -> List Int
 | [] => []
 | x :: l => ycd x (zzr l)
theorem znv (x : Int) : ∀ l, (ycd x l).Perm (x :: l)
 | [] => .refl _
 | y :: l => by
  rw [ycd]
  split
  ·exact .refl _
  ·exact ((znv x l).cons y).trans (.swap x y l)
theorem zue : ∀ l, (zzr l).Perm l
 | [] => .refl _
 | x :: l => (znv x _).trans ((zue l).cons x)
theorem zop (x : Int) : ∀ l, l.Pairwise (· <= ·) -> (ycd x l).Pairwise (· <= ·)
 | [], _ => by simp [ycd]
 | y :: l, h => by
  rw [List.pairwise_cons] at h
  rw [ycd]
  split
  ·rename_i hxy
   rw [List.pairwise_cons]
   refine ⟨fun z hz => ?_, List.pairwise_cons.2 h⟩
   rcases List.mem_cons.1 hz with rfl | hz
   ·exact hxy
   ·have := h.1 z hz; omega
  ·rename_i hxy
   rw [List.pairwise_cons]
   refine ⟨fun z hz => ?_, zop x l h.2⟩
   rcases List.mem_cons.1 ((znv x l).mem_iff.1 hz) with rfl | hz
   ·omega
   ·exact h.1 z hz
theorem zoq : ∀ l, (zzr l).Pairwise (· <= ·)
 | [] => .nil
 | x :: l => zop x _ (zoq l)
theorem zml : ∀ {a b : List Int}, a.Perm b -> a.Pairwise (· <= ·) -> b.Pairwise (· <= ·) -> a = b
 | [], b, h, _, _ => by rw [List.nil_perm.1 h]
 | x :: a, [], h, _, _ => by cases (List.perm_nil.1 h)
 | x :: a, y :: b, h, ha, hb => by
  rw [List.pairwise_cons] at ha hb
  have hxy : x = y := by
   have h1 : x ∈ y :: b := h.mem_iff.1 (by simp)
   have h2 : y ∈ x :: a := h.mem_iff.2 (by simp)
   rcases List.mem_cons.1 h1 with h1 | h1
   ·exact h1
   ·rcases List.mem_cons.1 h2 with h2 | h2
    ·exact h2.symm
    ·have := ha.1 y h2
     have := hb.1 x h1
     omega
  subst hxy
  rw [zml h.cons_inv ha.2 hb.2]
theorem zle (l : List Int) : zdp l = zzr l := by
 refine zml ((List.mergeSort_perm l fun x y => decide (x <= y)).trans (zue l).symm) ?_ (zoq l)
 have := List.pairwise_mergeSort (le := fun x y : Int => decide (x <= y)) (fun a b c h1 h2 => by simp at *; omega) (fun a b => by simp; omega) l
 exact this.imp fun h => by simpa using h
def zmm (m : List (Int × List Int)) : List (Int × List Int) := (zzr (m.map (·.1))).map fun f => (f, zzr ((zt f m).getD []))
theorem yce (m : List (Int × List Int)) : ya m = zmm m := by
 unfold ya zmm
 rw [zle]
 congr 1
 funext f
 rw [zle]
def ypl (vs : List Int) : List Int := Go.Lib.compact (zzr vs)
theorem yez (vs : List Int) : zy vs = ypl vs := by
 unfold zy ypl
 rw [show (vs.mergeSort fun x y => decide (x <= y)) = zzr vs from zle vs]
def ycf (c : Codex) (vs : List Int) : Option Sr :=
 match zag c (ypl vs) sr0 with
 | some s => if zfp s.cands <= 4096 then some s else none
 | none => none
theorem zuf (c : Codex) (vs : List Int) : xm c vs = ycf c vs := by unfold xm ycf; rw [yez]; try rfl
def zug (ch : List (Int × List Int)) (s : Sr) (nf : Nat) : Nat -> Int -> List ByteArray -> Option (Int × List Int)
 | 0, _, _ => none
 | n + 1, day, failed =>
  if zac s.conds (st0 nf day) = 0 then zug ch s nf n (day + 1) failed
  else if znd s.atoms (st0 nf day) ∈ failed then zug ch s nf n (day + 1) failed
  else match qa s.conds ch (st0 nf day) with
   | some vs => some (day, vs)
   | none => zug ch s nf n (day + 1) (failed ++ [znd s.atoms (st0 nf day)])
theorem zry (s : Sr) (nf : Nat) : ∀ (n : Nat) (day : Int) (failed : List ByteArray), zca s nf n day failed = zug (zmm s.cands) s nf n day failed
 | 0, _, _ => rfl
 | n + 1, day, failed => by
  rw [zca, zug, zry s nf n, yce]
  congr 2
  cases qa s.conds (zmm s.cands) (st0 nf day) with
  | some vs => rfl
  | none => simp only; exact zry s nf n _ _
def znw (c : Codex) (vers : List Int) (s : Sr) : Option View :=
 let fr := yi c vers
 let to := min fr.2 (fr.1 + yw s.dates)
 match zug (zmm s.cands) s c.facts.length (to - fr.1).toNat fr.1 [] with
 | some (day, vs) => some ⟨day, (List.range c.facts.length).map fun (i : Nat) => (zt (i : Int) s.cands).isSome, vs, vers⟩
 | none => none
theorem zwk (c : Codex) (vers : List Int) (s : Sr) : qw c vers s = znw c vers s := by unfold qw znw; simp only [zry]; try rfl
def yfa (c : Codex) (vs : List Int) : Option View :=
 if zw c && vs.all (fun v => decide (0 <= v) && decide (v < c.arts.length)) then
  match ycf c vs with
  | some s => znw c (ypl vs) s
  | none => none
 else none
theorem zgz (c : Codex) (vs : List Int) : yx c vs = yfa c vs := by
 unfold yx yfa
 rw [zuf, yez]
 simp only [zwk]
 try rfl
theorem yvl : yx xC [0] = some ⟨8772, [true, false, false], [481, 0, 0], [0]⟩ := by rw [zgz]; kernel_rfl
theorem yvm : yx xC [1] = none := by rw [zgz]; kernel_rfl
theorem ypm : zcb xD = some (0, 1, ⟨8766, [false, true, true], [0, 1, 31], [0, 1]⟩) := by
 unfold zcb
 simp only [zgz]
 kernel_rfl
theorem yso : zof xC = [1] := by
 unfold zof
 simp only [zgz, zuf]
 kernel_rfl
theorem ysp : zmf (yb xR) = [0, 1] := by kernel_rfl
theorem ysq : zmf (yb xC) = [] := by kernel_rfl
def zor (c : Codex) (p : Int × Int) : Option (Int × Int × View) := if zgi c p.1 p.2 then (yx c [p.1, p.2]).map fun v => (p.1, p.2, v) else none
def ypn (n i j : Nat) : List (Int × Int) := (List.range' j (n - j)).map fun (j : Nat) => ((i : Int), (j : Int))
def zrz (n i : Nat) : List (Int × Int) := (List.range' i (n - i)).flatMap fun i => ypn n i (i + 1)
theorem zmn : ∀ (k s i : Nat), s <= i + 1 -> (List.range' s k).filter (fun j => decide (i < j)) = List.range' (i + 1) (s + k - (i + 1))
 | 0, s, i, h => by
  have : s + 0 - (i + 1) = 0 := by omega
  rw [this]; rfl
 | k + 1, s, i, h => by
  rw [List.range'_succ, List.filter_cons]
  by_cases hs : i < s
  ·rw [if_pos (by simpa using hs)]
   have e : s = i + 1 := by omega
   subst e
   have h2 : ∀ (k s : Nat), i < s -> (List.range' s k).filter (fun j => decide (i < j)) = List.range' s k := fun k s hs => List.filter_eq_self.2 fun j hj => by
    have := (List.mem_range'_1.1 hj).1
    simp; omega
   rw [h2 k _ (by omega), show i + 1 + (k + 1) - (i + 1) = k + 1 by omega, List.range'_succ]
  ·rw [if_neg (by simpa using hs), zmn k (s + 1) i (by omega)]
   congr 1
   omega
theorem yia (n : Nat) : yau n = zrz n 0 := by
 unfold yau zrz ypn
 rw [List.range_eq_range', Nat.sub_zero]
 congr 1
 funext i
 rw [zmn n 0 i (by omega), Nat.zero_add]
theorem yib {n i : Nat} (h : i < n) : zrz n i = ypn n i (i + 1) ++ zrz n (i + 1) := by
 unfold zrz
 rw [show n - i = (n - (i + 1)) + 1 by omega, List.range'_succ, List.flatMap_cons]
theorem yna (n : Nat) : zrz n n = [] := by unfold zrz; simp
theorem ynb {n i j : Nat} (h : j < n) : ypn n i j = ((i : Int), (j : Int)) :: ypn n i (j + 1) := by
 unfold ypn
 rw [show n - j = (n - (j + 1)) + 1 by omega, List.range'_succ, List.map_cons]
theorem ypo {n i j : Nat} (h : n <= j) : ypn n i j = [] := by
 unfold ypn
 rw [show n - j = 0 by omega]; rfl
theorem yic {c : Codex} (hok : zw c = true) : zcb c = (zrz c.arts.length 0).findSome? (zor c) := by
 unfold zcb
 rw [if_pos hok, yia]
 rfl
def ync (o : Option (Int × Int × View)) : SV :=
 match o with
 | some (i, j, v) => .tup [sI i, sI j, .agg [sI v.day, .imm (ws v.has), .imm (zj v.value), .imm (zj v.arts)], sB true]
 | none => .tup [sI 0, sI 0, .agg zaj, sB false]
def yqk (o : Option (Int × Int × View)) : SV := .tup [sI ((o.map (·.1)).getD 0), sI ((o.map (·.2.1)).getD 0), View.sv ((o.map (·.2.2)).getD ygk), sB o.isSome]
theorem yid (o : Option (Int × Int × View)) : (ync o).Is (yqk o) := by
 cases o with
 | some v => exact SV.Is.refl _
 | none => exact SIs.tup (.cons (SV.Is.refl _) (.cons (SV.Is.refl _) (.cons (SIs.agg (.cons (SV.Is.refl _) (.cons (SV.Is.nil 1) (.cons (SV.Is.nil 1) (.cons (SV.Is.nil 1) .nil))))) (.cons (SV.Is.refl _) .nil))))
theorem ysr (c : Codex) (hfit : Codex.fit c) (hS : zw c = true -> SearchC c) (hz : c.arts.length <= 1000000) :
  zx Tryz.prog G0 13 [c.sv] (ync (zcb c)) := by
 have hal : (c.arts.map Article.cells).length = c.arts.length := by simp
 have hV := jt G0 c hfit
 refine zc Tryz.func13 rfl (by rw [Tryz.ntmps13]; simp) rfl (by cases zcb c <;> rfl) ?_
 intro E hH hK
 have hdo := @yic c
 have hwi := @zjp c
 have hno : zw c = false -> zcb c = none := fun h => by unfold zcb; rw [if_neg (by simp [h])]
 generalize hz2 : zw c = z at hV hS hdo hwi hno
 rw [show c.sv = .agg [.imm (zk c.facts), .imm (zk c.lines), .imm (ym c.arts)] from rfl]
 (refine zg ?_; conv => whnf)
 refine ze rfl  hV ?_
 cases z <;> ((refine za ?_; conv => whnf))
 ·rw [hno rfl] at hK
  exact hK _
 have hS := hS rfl
 have hdo := hdo rfl
 refine zf [1, 2, 3, 4, 5, 17, 18, 19] ?_
 change SW E _ [(1, .ptr 0 0), (2, sI 0), (3, sI 0), (4, .ptr 1 0), (5, sB false), (17, .imm (ym c.arts)), (18, sI (c.arts.map Article.cells).length), (19, sI 0)] [yby c, .cells zaj]
 refine zp c.arts (fun i (_ : Unit) => [(1, .ptr 0 0), (2, sI 0), (3, sI 0), (4, .ptr 1 0), (5, sB false), (17, .imm (ym c.arts)), (18, sI (c.arts.map Article.cells).length), (19, sI i)]) (fun _ _ => [yby c, .cells zaj])
  (fun done _ _ => zcb c = (zrz c.arts.length done.length).findSome? (zor c)) () hdo ?_ ?_
 ·rintro _ h1
  rw [yna] at h1
  rw [h1] at hK
  (refine zg ?_; conv => whnf)
  repeat' ((with_reducible refine way ?_ ?_) <;> (intro h; conv => whnf))
  all_goals try (exfalso; omega)
  exact hK _
 ·rintro done x rest _ hda hdl h1 ih
  have hw := zm (n := done.length) (by omega)
  rw [yib (by omega), List.findSome?_append] at h1
  have hnext : zcb c = (zrz c.arts.length (done.length + 1)).findSome? (zor c) -> SW E _ _ _ := fun h => ih () (by rw [List.length_append]; exact h)
  (refine zg ?_; conv => whnf)
  repeat' ((with_reducible refine way ?_ ?_) <;> (intro h; conv => whnf))
  all_goals try (exfalso; omega)
  rw [hw]
  refine zf [1, 2, 3, 4, 5, 6, 7, 17, 18, 19] ?_
  refine xy (σ := Nat) (fun j => [(1, .ptr 0 0), (2, sI 0), (3, sI 0), (4, .ptr 1 0), (5, sB false), (6, sI done.length), (7, sI j), (17, .imm (ym c.arts)), (18, sI (c.arts.map Article.cells).length), (19, sI done.length)]) (fun _ => [yby c, .cells zaj])
   (fun j => done.length + 1 <= j /\ j <= c.arts.length /\ zcb c = ((ypn c.arts.length done.length j).findSome? (zor c)).or ((zrz c.arts.length (done.length + 1)).findSome? (zor c))) (fun j => c.arts.length - j) ?_ (done.length + 1) ⟨Nat.le_refl _, by omega, h1⟩
  rintro j ⟨j1, j2, j3⟩ ih2
  have hwj := zm (n := j) (by omega)
  by_cases hj : j < c.arts.length
  ·rw [ynb hj, List.findSome?_cons] at j3
   have hi : ∀ v ∈ [(done.length : Int), (j : Int)], 0 <= v /\ v < c.arts.length := fun v hv => by
    rcases List.mem_cons.1 hv with rfl | hv
    ·omega
    ·simp at hv; subst hv; omega
   have hcon := zrh G0 c hS.need (done.length : Int) (j : Int) (by omega) (by omega) (by omega) (by omega)
   have hN := zie c hS [(done.length : Int), (j : Int)] hi (by simp) [yby c, .cells zaj]
   have hwi2 := hwi rfl hi
   have hgo : zor c ((done.length : Int), (j : Int)) = none -> SW E _ _ _ := fun h => by
    rw [h] at j3
    exact ih2 (j + 1) ⟨by omega, by omega, j3⟩ (by omega)
   have hst : ∀ v, zor c ((done.length : Int), (j : Int)) = some v -> zcb c = some v := fun v h => by
    rw [h] at j3
    exact j3
   have hcf : zor c ((done.length : Int), (j : Int)) = if zgi c done.length j then (yx c [(done.length : Int), (j : Int)]).map fun v => ((done.length : Int), (j : Int), v) else none := rfl
   generalize zgi c (done.length : Int) (j : Int) = b at hcon hcf
   (refine zg ?_; conv => whnf)
   repeat' ((with_reducible refine way ?_ ?_) <;> (intro h; conv => whnf))
   all_goals try (exfalso; omega)
   refine ze rfl  hcon ?_
   cases b <;> ((refine za ?_; conv => whnf))
   ·rw [hwj]
    refine zf [1, 2, 3, 4, 5, 6, 7, 17, 18, 19] ?_
    exact hgo hcf
   refine wh (argv := [c.sv, .imm (zj [(done.length : Int), (j : Int)])]) rfl rfl rfl rfl rfl rfl (hN.mono ?_)
   intro r H' hK1
   cases hq : xm c [(done.length : Int), (j : Int)] with
   | none =>
    rw [hq] at hK1 hwi2
    simp only at hwi2
    rw [hwi2] at hcf
    obtain ⟨p, H1, hp, rfl, rfl⟩ := hK1
    refine ⟨Nat.le_add_left 2 _, ?_⟩
    refine Eq.mpr (congrArg (fun h => SWr E _ _ _ _ h) (show _ = yby c :: .cells zaj :: H1 from rfl)) ?_
    rcases hp with rfl | rfl <;> ((refine za ?_; conv => whnf)) <;> rw [hwj]
    all_goals exact ys [1, 2, 3, 4, 5, 6, 7, 17, 18, 19] 2 (by rw [hH]; exact Nat.zero_le 2) (Nat.succ_le_succ (Nat.succ_le_succ (Nat.zero_le _))) rfl rfl (hgo hcf)
   | some q =>
    have hWt := znn c hS [(done.length : Int), (j : Int)] hi (by simp) q hq [yby c, .cells zaj]
    rw [hq] at hK1 hwi2
    simp only at hwi2
    obtain ⟨rfl, rfl⟩ := hK1
    refine ⟨by rw [List.length_append]; exact Nat.le_add_right _ _, ?_⟩
    (refine za ?_; conv => whnf)
    refine wh rfl rfl rfl rfl rfl rfl (hWt.mono ?_)
    rintro r H' ⟨rfl, ⟨H1, rfl⟩, hl⟩
    refine ⟨hl, ?_⟩
    rw [<- hwi2]
    refine je (t' := [(1, .ptr 0 0), (2, sI 0), (3, sI 0), (4, .ptr 1 0), (5, sB false), (6, sI done.length), (7, sI j), (17, .imm (ym c.arts)), (18, sI (c.arts.map Article.cells).length), (19, sI done.length), (48, zmd (yx c [(done.length : Int), (j : Int)]))]) (H' := [yby c, .cells zaj])
     (fun k h => zf [1, 2, 3, 4, 5, 6, 7, 17, 18, 19, 48] (ydb 2 (by rw [hH]; exact Nat.zero_le 2) (Nat.succ_le_succ (Nat.succ_le_succ (Nat.zero_le _))) (by cases yx c [(done.length : Int), (j : Int)] <;> rfl) rfl h)) ?_
    generalize yx c [(done.length : Int), (j : Int)] = o at hcf ⊢
    cases o with
    | none =>
     (refine za ?_; conv => whnf)
     rw [hwj]
     exact ys [1, 2, 3, 4, 5, 6, 7, 17, 18, 19] 2 (by rw [hH]; exact Nat.zero_le 2) (Nat.succ_le_succ (Nat.succ_le_succ (Nat.zero_le _))) rfl rfl (hgo hcf)
    | some v =>
     rw [hst _ hcf] at hK
     (refine za ?_; conv => whnf)
     refine zf [1, 2, 3, 4, 5, 6, 7, 10] ?_
     change SW E _ [(1, .ptr 0 0), (2, sI 0), (3, sI 0), (4, .ptr 1 0), (5, sB false), (6, sI done.length), (7, sI j), (10, .ptr 2 0)] [yby c, .cells zaj, .cells [sI v.day, .imm (ws v.has), .imm (zj v.value), .imm (zj v.arts)]]
     (refine zu 0 mixed rfl ?_; refine zb [777] (nx := 3) ?_; conv => whnf)
     (refine zg ?_; conv => whnf)
     exact hK _
  ·rw [ypo (by omega), List.findSome?_nil, Option.none_or] at j3
   have ej : j = c.arts.length := by omega
   (refine zg ?_; conv => whnf)
   repeat' ((with_reducible refine way ?_ ?_) <;> (intro h; conv => whnf))
   all_goals try (exfalso; omega)
   rw [hw]
   refine zf [1, 2, 3, 4, 5, 17, 18, 19] ?_
   exact hnext j3
theorem ycg (c : Codex) (hfit : Codex.fit c) (hS : zw c = true -> SearchC c) (hz : c.arts.length <= 1000000) :
  zx Tryz.prog G0 13 [c.sv] (yqk (zcb c)) := zcj (ysr c hfit hS hz) (yid _)
theorem yue (w : List (List Ex)) (h : ∀ es ∈ w, es.length <= 41) : Codex.fit (yhz w) /\ ∀ a ∈ (yhz w).arts, a.when_.length <= 41 /\ a.unless_.length <= 80 := by
 have hm : ∀ a ∈ (yhz w).arts, a.when_.length <= 41 /\ a.unless_.length <= 80 := fun a ha => by
  obtain ⟨i, hi, rfl⟩ := List.mem_mapIdx.1 ha
  exact ⟨h _ (List.getElem_mem hi), Nat.zero_le _⟩
 exact ⟨fun a ha => by have := hm a ha; omega, hm⟩
theorem zim : Codex.fit xC /\ SearchC xC /\ xC.arts.length <= 1000000 := by
 obtain ⟨h1, h2⟩ := yue [[zwj, zgy], [eT 6 zke zkf], [eF 1 tT], [yit]] (by simp)
 exact ⟨h1, znp yuc (by decide) h2, by decide⟩
theorem ynd : Codex.fit xD /\ SearchC xD /\ xD.arts.length <= 1000000 := by
 obtain ⟨h1, h2⟩ := yue [[eF 1 tT], [yit]] (by simp)
 exact ⟨h1, znp yvk (by decide) h2, by decide⟩
theorem yfb : Codex.fit xR /\ NeedC xR /\ xR.arts.length <= 60 := by
 have h : ∀ a ∈ xR.arts, a.when_.length <= 1000000 /\ a.unless_.length <= 1000000 := by simp [xR]
 exact ⟨fun a ha => by have := h a ha; omega, yeo yud h, by decide⟩
abbrev bx (x : Ex) : SObj := .cells (x.cells.map SV.imm)
abbrev bv (v : View) : SObj := .cells [sI v.day, .imm (ws v.has), .imm (zj v.value), .imm (zj v.arts)]
def yiu (i : Nat) (n : Int) : List D := [dI ((i : Int) + 1), dI 0, dI 1, dI 8766, dI 36525, dI 8766, zao, zao, dI 3, dI n, dS znt, dI 0, zao, zao]
abbrev yvn (x y z : SObj) (cs : List SV) : List SObj := [bx zwj, bx zgy, bx zke, bx zkf, bx yit, zdh xC, bv ⟨8772, [true, false, false], [481, 0, 0], [0]⟩, bv ygk, bv ⟨8766, [false, true, true], [0, 1, 31], [0, 1]⟩, x, y, z, .cells cs]
theorem yvo : (SV.agg [.imm (zk zbq), .imm (zk zbr), .imm (.isl 14 [yiu 0 2, yiu 1 1])]).Is xR.sv := by
 refine SIs.agg (.cons (SV.Is.refl _) (.cons (SV.Is.refl _) (.cons (D.Is.imm (DIss.isl (k := 14) (.cons ?_ (.cons ?_ .nil)))) .nil)))
 all_goals exact .cons (D.Is.refl _) (.cons (D.Is.refl _) (.cons (D.Is.refl _) (.cons (D.Is.refl _) (.cons (D.Is.refl _) (.cons (D.Is.refl _) (.cons (D.Is.nil 6) (.cons (D.Is.nil 1) (.cons (D.Is.refl _) (.cons (D.Is.refl _) (.cons (D.Is.refl _) (.cons (D.Is.refl _) (.cons (D.Is.nil 3) (.cons (D.Is.nil 6) .nil)))))))))))))
theorem yql : zx Tryz.prog G0 9 [] (sB true) := by
  have k480 := znu G0 480 tM
  have f0 := ymy G0 0 tM
  have tLong := yhy G0 9 (eK 480 tM) (eF 0 tM)
  have k7 := znu G0 7 tN
  have tSun := yhy G0 8 (.mk 4 1 tN 0 [] []) (eK 7 tN)
  have f2 := ymy G0 2 tN
  have k18 := znu G0 18 tN
  have tYoung := yhy G0 9 (eF 2 tN) (eK 18 tN)
  have tAdult := yhy G0 10 (eK 18 tN) (eF 2 tN)
  have k30 := znu G0 30 tN
  have tOld := yhy G0 9 (eK 30 tN) (eF 2 tN)
  have tAnd := yhy G0 6 zke zkf
  have f1 := ymy G0 1 tT
  have eC := zzp G0 [[zwj, zgy], [eT 6 zke zkf], [eF 1 tT], [yit]] (by decide)
  have eD := zzp G0 [[eF 1 tT], [yit]] (by decide)
  have w0 := zgs xC zim.1 (fun _ => zim.2.1) zim.2.2 [0] (by decide)
  have w1 := zgs xC zim.1 (fun _ => zim.2.1) zim.2.2 [1] (by decide)
  rw [yvl] at w0
  rw [yvm] at w1
  have cl := ycg xD ynd.1 (fun _ => ynd.2.1) ynd.2.2
  rw [ypm] at cl
  have s1 := zij G0 ⟨8772, [true, false, false], [481, 0, 0], [0]⟩ ⟨8772, [true, false, false], [481, 0, 0], [0]⟩ ⟨by decide, by decide, by decide⟩ ⟨by decide, by decide, by decide⟩ (by decide) (by decide)
  rw [show View.same' ⟨8772, [true, false, false], [481, 0, 0], [0]⟩ ⟨8772, [true, false, false], [481, 0, 0], [0]⟩ = true by decide] at s1
  have s2 := zij G0 ⟨8766, [false, true, true], [0, 1, 31], [0, 1]⟩ ⟨8766, [false, true, true], [0, 1, 31], [0, 1]⟩ ⟨by decide, by decide, by decide⟩ ⟨by decide, by decide, by decide⟩ (by decide) (by decide)
  rw [show View.same' ⟨8766, [false, true, true], [0, 1, 31], [0, 1]⟩ ⟨8766, [false, true, true], [0, 1, 31], [0, 1]⟩ = true by decide] at s2
  have dd := yhq xC zim.1 (fun _ => zim.2.1) zim.2.2
  rw [yso] at dd
  have s3 := zei G0 [1] [1] (by decide) (by decide)
  rw [show decide (([1] : List Int) = [1]) = true by decide] at s3
  have rr := zts G0 xR yfb.1 (fun _ => yfb.2.1) (fun _ => yfb.2.2) (fun _ => ymk yfb.2.2) (fun j => Nat.le_trans (zrl _ _) (by decide)) (by decide)
  rw [if_pos yud, ysp] at rr
  have s4 := zei G0 [0, 1] [0, 1] (by decide) (by decide)
  rw [show decide (([0, 1] : List Int) = [0, 1]) = true by decide] at s4
  have rc := zts G0 xC zim.1 (fun _ => zim.2.1.need) (fun _ => by decide) (fun _ => ymk (by decide)) (fun j => Nat.le_trans (zrl _ _) (by decide)) (by decide)
  rw [if_pos yuc, ysq] at rc
  refine zc Tryz.func9 rfl (by rw [Tryz.ntmps9]; simp) rfl rfl ?_; intro E hH hK
  (refine zg ?_; conv => whnf)
  refine ze rfl  k480 ?_
  (refine za ?_; conv => whnf)
  refine ze rfl  f0 ?_
  (refine za ?_; conv => whnf)
  refine ze rfl  tLong ?_
  (refine za ?_; conv => whnf)
  refine je (fun k h => yqy 20 rfl (zrx 4 1 tN) h) ?_
  (refine za ?_; conv => whnf)
  refine ze rfl  k7 ?_
  (refine za ?_; conv => whnf)
  refine ze rfl  tSun ?_
  (refine za ?_; conv => whnf)
  refine ze rfl  f2 ?_
  (refine za ?_; conv => whnf)
  refine ze rfl  k18 ?_
  (refine za ?_; conv => whnf)
  refine ze rfl  tYoung ?_
  (refine za ?_; conv => whnf)
  refine ze rfl  k18 ?_
  (refine za ?_; conv => whnf)
  refine ze rfl  f2 ?_
  (refine za ?_; conv => whnf)
  refine ze rfl  tAdult ?_
  (refine za ?_; conv => whnf)
  refine ze rfl  k30 ?_
  (refine za ?_; conv => whnf)
  refine ze rfl  f2 ?_
  (refine za ?_; conv => whnf)
  refine ze rfl  tOld ?_
  (refine za ?_; conv => whnf)
  refine zf [1, 2, 3, 4, 5] ?_
  change SW E _ [(1, .ptr 0 0), (2, .ptr 1 0), (3, .ptr 2 0), (4, .ptr 3 0), (5, .ptr 4 0)] [bx zwj, bx zgy, bx zke, bx zkf, bx yit]
  (refine zu 1 mixed rfl ?_; refine zb [777] (nx := 5) ?_; conv => whnf)
  refine xb rfl (show 5 <= 6 by decide) tAnd ?_
  (refine zb [777] (nx := 5) ?_; conv => whnf)
  refine xb rfl (show 5 <= 6 by decide) f1 ?_
  (refine zb [777] (nx := 5) ?_; conv => whnf)
  refine xb rfl (show 5 <= 6 by decide) eC ?_
  (refine zb [777] (nx := 5) ?_; conv => whnf)
  refine zf [5, 6] ?_
  change SW E _ [(5, .ptr 4 0), (6, .ptr 5 0)] [bx zwj, bx zgy, bx zke, bx zkf, bx yit, zdh xC]
  (refine zg ?_; conv => whnf)
  refine ze rfl  w0 ?_
  (refine za ?_; conv => whnf)
  refine ze rfl  w1 ?_
  (refine za ?_; conv => whnf)
  refine zf [5, 6, 7, 8, 10] ?_
  change SW E _ [(5, .ptr 4 0), (6, .ptr 5 0), (7, .ptr 6 0), (8, sB true), (10, sB false)] [bx zwj, bx zgy, bx zke, bx zkf, bx yit, zdh xC, bv ⟨8772, [true, false, false], [481, 0, 0], [0]⟩, bv ygk]
  (refine zu 1 mixed rfl ?_; refine zb [777] (nx := 8) ?_; conv => whnf)
  refine xb rfl (show 8 <= 9 by decide) f1 ?_
  (refine zb [777] (nx := 8) ?_; conv => whnf)
  refine xb rfl (show 8 <= 9 by decide) eD ?_
  (refine zb [777] (nx := 8) ?_; conv => whnf)
  refine xb rfl (show 8 <= 9 by decide) cl ?_
  (refine zb [777] (nx := 8) ?_; conv => whnf)
  refine zf [6, 7, 8, 10, 11, 12, 13, 14] ?_
  change SW E _ [(6, .ptr 5 0), (7, .ptr 6 0), (8, sB true), (10, sB false), (11, sI 0), (12, sI 1), (13, .ptr 8 0), (14, sB true)] [bx zwj, bx zgy, bx zke, bx zkf, bx yit, zdh xC, bv ⟨8772, [true, false, false], [481, 0, 0], [0]⟩, bv ygk, bv ⟨8766, [false, true, true], [0, 1, 31], [0, 1]⟩]
  have hV := zkr (ymz G0 [zao, zao] (by decide) (by simp)) [bx zwj, bx zgy, bx zke, bx zkf, bx yit, zdh xC, bv ⟨8772, [true, false, false], [481, 0, 0], [0]⟩, bv ygk, bv ⟨8766, [false, true, true], [0, 1, 31], [0, 1]⟩]
  (refine zg ?_; conv => whnf)
  refine wh (argv := [.imm (.isl 1 [[zao], [zao]])]) rfl rfl rfl rfl rfl rfl (hV.mono ?_)
  rintro r H' ⟨r1, H1, ⟨rfl, x, y, rfl⟩, rfl, rfl⟩
  refine ⟨by rw [List.length_append]; exact Nat.le_add_right _ _, ?_⟩
  (refine za ?_; conv => whnf)
  refine je (t' := [(6, .ptr 5 0), (7, .ptr 6 0), (8, sB true), (10, sB false), (11, sI 0), (12, sI 1), (13, .ptr 8 0), (14, sB true), (15, .ptr 12 0), (72, .vec 11 2), (73, yhx 3 2 znt zao)]) (H' := yvn (x.sh 9) (y.sh 9) (.vec 14 (zgx 0 zao ++ zgx 1 zao)) [.imm (zk zbq), .imm (zk zbr), .vec 11 2]) (fun k h => zf [6, 7, 8, 10, 11, 12, 13, 14, 15, 72, 73] h) ?_
  generalize x.sh 9 = x'
  generalize y.sh 9 = y'
  refine ydn (i := 0) (kk := 14) (n := 2) (b := 11) (cs := zgx 0 zao ++ zgx 1 zao) rfl rfl rfl rfl rfl rfl (by rfl) rfl rfl (by decide) rfl (by decide) ?_
  refine zsz (b := 11) (n := 2) (kk := 14) (cs := zgx 0 zao ++ zgx 1 zao) rfl rfl rfl rfl rfl rfl (sz := 5) (by rfl) rfl rfl (by decide) (by decide) ?_
  refine zro (b := 11) (n := 2) (off := 8) (ns := 6) (vcs := [sI 3, sI 2, sS znt, sI 0, .imm zao, .imm zao]) (kk := 14) (cs := zgx 0 zao ++ zgx 1 zao) rfl rfl rfl rfl rfl rfl (by rfl) rfl rfl rfl (by decide) (by decide) (by decide) ?_
  refine je (t' := [(6, .ptr 5 0), (7, .ptr 6 0), (8, sB true), (10, sB false), (11, sI 0), (12, sI 1), (13, .ptr 8 0), (14, sB true), (15, .ptr 12 0)]) (H' := yvn x' y' (.vec 14 ((yiu 0 2).map SV.imm ++ zgx 1 zao)) [.imm (zk zbq), .imm (zk zbr), .vec 11 2]) (fun k h => zf [6, 7, 8, 10, 11, 12, 13, 14, 15] h) ?_
  (refine za ?_; conv => whnf)
  refine ydn (i := 1) (kk := 14) (n := 2) (b := 11) (cs := (yiu 0 2).map SV.imm ++ zgx 1 zao) rfl rfl rfl rfl rfl rfl (by rfl) rfl rfl (by decide) rfl (by decide) ?_
  refine zsz (b := 11) (n := 2) (kk := 14) (cs := (yiu 0 2).map SV.imm ++ zgx 1 zao) rfl rfl rfl rfl rfl rfl (sz := 5) (by rfl) rfl rfl (by decide) (by decide) ?_
  refine zro (b := 11) (n := 2) (off := 22) (ns := 6) (vcs := [sI 3, sI 1, sS znt, sI 0, .imm zao, .imm zao]) (kk := 14) (cs := (yiu 0 2).map SV.imm ++ zgx 1 zao) rfl rfl rfl rfl rfl rfl (by rfl) rfl rfl rfl (by decide) (by decide) (by decide) ?_
  refine je (t' := [(6, .ptr 5 0), (7, .ptr 6 0), (8, sB true), (10, sB false), (11, sI 0), (12, sI 1), (13, .ptr 8 0), (14, sB true), (15, .ptr 12 0)]) (H' := yvn x' y' .dead [.imm (zk zbq), .imm (zk zbr), .imm (.isl 14 [yiu 0 2, yiu 1 1])]) (fun k h => zf [6, 7, 8, 10, 11, 12, 13, 14, 15]
    (zzf 12 2 11 2 14 (cs0 := [.imm (zk zbq), .imm (zk zbr), .vec 11 2]) (cs := (yiu 0 2 ++ yiu 1 1).map SV.imm) (ds := yiu 0 2 ++ yiu 1 1) rfl rfl rfl rfl rfl rfl (by decide) h)) ?_
  (refine za ?_; conv => whnf)
  refine ze rfl  s1 ?_
  (refine za ?_; conv => whnf)
  refine ze rfl  s2 ?_
  (refine za ?_; conv => whnf)
  refine ze rfl  dd ?_
  (refine za ?_; conv => whnf)
  refine ze rfl  s3 ?_
  (refine za ?_; conv => whnf)
  refine je (fun k h => yqy 122 rfl yvo h) ?_
  refine ze rfl  rr ?_
  (refine za ?_; conv => whnf)
  refine ze rfl  s4 ?_
  (refine za ?_; conv => whnf)
  refine ze rfl  rc ?_
  (refine za ?_; conv => whnf)
  exact hK _
def jj (n : Int) : List Article -> Nat -> Int
 | [], _ => -1
 | d :: r, i => if d.number = n then i else jj n r (i + 1)
theorem zha (c : Codex) (n : Int) (hsz : c.arts.length <= 9223372036854775807) : zx Tryz.prog G 52 [c.sv, sI n] (sI (jj n c.arts 0)) := by
 refine zc Tryz.func52 rfl (by rw [Tryz.ntmps52]; simp) rfl rfl ?_; intro E hH hK
 have hlen : (c.arts.map Article.cells).length = c.arts.length := by simp
 (refine zi ?_; conv => whnf)
 refine zf [1, 2, 5] ?_
 refine zp c.arts (fun i (_ : Unit) => [(1, sI n), (2, .ptr 0 0), (5, sI i)]) (fun _ _ => [.cells [.imm (zk c.facts), .imm (zk c.lines), .imm (ym c.arts)]])
  (fun done rest _ => jj n c.arts 0 = jj n rest done.length) () rfl ?_ ?_
 ·rintro _ h1
  (refine zi ?_; conv => whnf)
  repeat' ((with_reducible refine way ?_ ?_) <;> (intro h; conv => whnf))
  all_goals try (exfalso; omega)
  exact kI hK (by rw [h1]; rfl)
 ·rintro done d rest _ ha hl h1 ih
  have hw := zm (n := done.length) (by omega)
  simp only [jj] at h1
  (refine zi ?_; conv => whnf)
  repeat' ((with_reducible refine way ?_ ?_) <;> (intro h; conv => whnf))
  all_goals try (exfalso; omega)
  refine zh rfl rfl  (row := d.cells) (by simp [ha]) ?_
  (refine zl ?_; conv => whnf)
  repeat' ((with_reducible refine way ?_ ?_) <;> (intro h; conv => whnf))
  ·exact kI hK (by rw [h1, if_pos h])
  ·rw [hw]; exact ys [1, 2, 5] 1 (by simp [hH]) (by simp) rfl rfl (ih () (by rw [h1, if_neg h]; simp))
theorem zlf (n : Int) : ∀ (l : List Article) (i : Nat), jj n l i = -1 \/ ((i : Int) <= jj n l i /\ jj n l i < i + l.length /\ ∃ a, l[(jj n l i).toNat - i]? = some a /\ a.number = n)
 | [], i => .inl rfl
 | a :: r, i => by
  simp only [jj]
  split
  ·rename_i h
   right
   refine ⟨by omega, by simp; omega, a, by simp, h⟩
  ·rcases zlf n r (i + 1) with h | ⟨h1, h2, x, h3, h4⟩
   ·exact .inl h
   ·right
    refine ⟨by omega, by simp; omega, x, ?_, h4⟩
    rw [show (jj n r (i + 1)).toNat - i = ((jj n r (i + 1)).toNat - (i + 1)) + 1 by omega]
    simpa using h3
theorem znx (n : Int) : ∀ (l : List Article) (i : Nat), jj n l i = -1 ↔ ∀ a ∈ l, a.number ≠ n
 | [], i => by simp [jj]
 | a :: r, i => by
  simp only [jj]
  split
  ·rename_i h
   constructor
   ·intro h'; omega
   ·intro h'; exact absurd h (h' a (by simp))
  ·rename_i h
   rw [znx n r (i + 1)]
   simp [h]
def zin (L : Int) (a : Article) : Bool := decide (a.when_.length <= 40) && decide (a.unless_.length <= 80) && decide ((xg a.amount : Int) <= L) && a.when_.all (fun e => decide ((xg e : Int) <= L))
def zsp (c : Codex) (L : Int) : Bool := decide (c.facts.length <= 40) && decide (c.lines.length <= 40) && decide (c.arts.length <= 70) && c.arts.all (zin L)
theorem ypp (c : Codex) (L : Int) (h0 : 0 <= L) (h1 : L <= 999999) : zx Tryz.prog G 39 [c.sv, sI L] (sB (zsp c L)) := by
 refine zc Tryz.func39 rfl (by rw [Tryz.ntmps39]; simp) rfl rfl ?_; intro E hH hK
 have hlf : (c.facts.map Decl.cells).length = c.facts.length := by simp
 have hll : (c.lines.map Decl.cells).length = c.lines.length := by simp
 have hla : (c.arts.map Article.cells).length = c.arts.length := by simp
 (refine zi ?_; conv => whnf)
 repeat' ((with_reducible refine way ?_ ?_) <;> (intro h; conv => whnf))
 all_goals try exact kB hK (by simp [zsp]; intros; omega)
 have hsz : c.facts.length <= 40 /\ c.lines.length <= 40 /\ c.arts.length <= 70 := by omega
 have hok : zsp c L = c.arts.all (zin L) := by simp [zsp, hsz]
 refine zf [1, 2, 5] ?_
 refine zp c.arts (fun i (_ : Unit) => [(1, sI L), (2, .ptr 0 0), (5, sI i)]) (fun _ _ => [.cells [.imm (zk c.facts), .imm (zk c.lines), .imm (ym c.arts)]])
  (fun done rest _ => c.arts.all (zin L) = rest.all (zin L)) () rfl ?_ ?_
 ·rintro _ h1
  (refine zi ?_; conv => whnf)
  repeat' ((with_reducible refine way ?_ ?_) <;> (intro h; conv => whnf))
  all_goals try (exfalso; omega)
  exact kB hK (by rw [hok, h1]; rfl)
 ·rintro done a rest _ ha hl hinv ih
  have hw := zm (n := done.length) (by omega)
  simp only [List.all_cons] at hinv
  obtain ⟨op, n, u, den, ps, ks, ham⟩ : ∃ op n u den ps ks, a.amount = .mk op n u den ps ks := by cases h : a.amount; exact ⟨_, _, _, _, _, _, rfl⟩
  have hrow : (c.arts.map Article.cells)[((done.length : Nat) : Int).toNat]? = some [dI a.number, dI a.line, dI a.rank, dI a.lo, dI a.hi, dI a.known, yq a.when_, zj a.unless_, dI op, dI n, dS u, dI den, .isl 3 (ps.map Piece.cells), .isl 6 (zd ks)] := by
   simp [ha, Article.cells, ham, zr, Ex.op, Ex.n, Ex.unit, Ex.den, Ex.pieces, Ex.kids]
  have hwl : (a.when_.map Ex.cells).length = a.when_.length := by simp
  have hul : (a.unless_.map fun n => [dI n]).length = a.unless_.length := by simp
  have bad : zin L a = false -> zsp c L = false := fun h => by rw [hok, hinv, h]; rfl
  (refine zi ?_; conv => whnf)
  repeat' ((with_reducible refine way ?_ ?_) <;> (intro h; conv => whnf))
  all_goals try (exfalso; omega)
  refine zh rfl rfl  (row := [dI a.number, dI a.line, dI a.rank, dI a.lo, dI a.hi, dI a.known, yq a.when_, zj a.unless_, dI op, dI n, dS u, dI den, .isl 3 (ps.map Piece.cells), .isl 6 (zd ks)]) hrow ?_
  (refine zl ?_; conv => whnf)
  repeat' ((with_reducible refine way ?_ ?_) <;> (intro h; conv => whnf))
  all_goals try exact kB hK (bad (by simp [zin]; intros; omega))
  refine ze rfl  (znb G (.mk op n u den ps ks) L h0 h1) ?_
  (refine zl ?_; conv => whnf)
  repeat' ((with_reducible refine way ?_ ?_) <;> (intro h; conv => whnf))
  ·exact kB hK (bad (by simp [zin, ham]; intros; omega))
  have hgood : zin L a = a.when_.all (fun e => decide ((xg e : Int) <= L)) := by
   simp only [zin, ham]
   rw [decide_eq_true (by omega), decide_eq_true (by omega), decide_eq_true h]; rfl
  refine zf [1, 2, 5, 6, 7] ?_
  refine zp a.when_ (fun i (_ : Unit) => [(1, sI L), (2, .ptr 0 0), (5, sI done.length), (6, .ptr 1 0), (7, sI i)])
   (fun _ _ => [.cells [.imm (zk c.facts), .imm (zk c.lines), .imm (ym c.arts)], .cells (zkq a op n u den ps ks)])
   (fun done rest _ => a.when_.all (fun e => decide ((xg e : Int) <= L)) = rest.all (fun e => decide ((xg e : Int) <= L))) () rfl ?_ ?_
  ·rintro _ h2
   (refine zi ?_; conv => whnf)
   repeat' ((with_reducible refine way ?_ ?_) <;> (intro h; conv => whnf))
   all_goals try (exfalso; omega)
   rw [hw]
   exact ys [1, 2, 5] 1 (by simp [hH]) (by simp) rfl rfl (ih () (by rw [hinv, hgood, h2]; rfl))
  ·rintro d2 e r2 _ ha2 hl2 h2 ih2
   have hw2 := zm (n := d2.length) (by omega)
   simp only [List.all_cons] at h2
   obtain ⟨o1, n1, u1, d1, p1, q1⟩ := e
   (refine zi ?_; conv => whnf)
   repeat' ((with_reducible refine way ?_ ?_) <;> (intro h; conv => whnf))
   all_goals try (exfalso; omega)
   refine zh rfl rfl  (row := (Ex.mk o1 n1 u1 d1 p1 q1).cells) (by simp [ha2]) ?_
   (refine zl ?_; conv => whnf)
   refine ze rfl  (znb G (.mk o1 n1 u1 d1 p1 q1) L h0 h1) ?_
   (refine zl ?_; conv => whnf)
   repeat' ((with_reducible refine way ?_ ?_) <;> (intro h; conv => whnf))
   ·exact kB hK (bad (by rw [hgood, h2, decide_eq_false h]; rfl))
   ·rw [hw2]
    exact ys [1, 2, 5, 6, 7] 2 (by simp [hH]) (by simp) rfl rfl (ih2 () (by rw [h2, decide_eq_true h]; rfl))
section
variable {P : Program} {G : List (Nat × D)} {fn : Func} {rd : Bool} {E : En P G fn rd} {t : List (Nat × SV)} {H : List SObj} {k : List Item} {all : Array Oper} {rest : List Oper} {o : Oper}
theorem yne {ty ty' : Nat} {x y : Operand} {a b : Int} (hop : o.op = .binOp .rem ty x y ty') (hw : yf all t o.guard = some true) (hd : yj fn.ntmps o.dst = true) (hx : zo G t x = sI a) (hy : zo G t y = sI b) (hb : b ≠ 0)
  (h : SWr E all rest k (wq t o.dst (sI (a.tmod b))) H) : SWr E all (o :: rest) k t H := by
 refine zbb (r := sI (a.tmod b)) (H' := H) hw hd ?_ (Nat.le_refl _) h
 have hs : yno P .rem ty (.int .i64 a) (.int .i64 b) = some (.int .i64 (a.tmod b)) := by
  show (if b = 0 then none else some (Value.int .i64 (a.tmod b))) = _
  rw [if_neg hb]
 rw [hop]
 simp only [sop, hx, hy, hs, Option.map_some]
end
def yuf (c : Codex) : Bool := zsp c 400 && decide (c.arts.length <= 12) && decide (c.facts.length <= 12)
theorem yie (c : Codex) : zx Tryz.prog G0 10 [c.sv] (sB (yuf c)) := by
 have hal : (c.arts.map Article.cells).length = c.arts.length := by simp
 have hfl : (c.facts.map Decl.cells).length = c.facts.length := by simp
 have hfw := ypp G0 c 400 (by decide) (by decide)
 have hu : yuf c = (zsp c 400 && decide (c.arts.length <= 12) && decide (c.facts.length <= 12)) := rfl
 rw [hu]
 generalize zsp c 400 = b at hfw
 refine zc Tryz.func10 rfl (by rw [Tryz.ntmps10]; simp) rfl rfl ?_; intro E hH hK
 rw [show c.sv = .agg [.imm (zk c.facts), .imm (zk c.lines), .imm (ym c.arts)] from rfl]
 (refine zg ?_; conv => whnf)
 refine ze rfl  hfw ?_
 cases b <;> ((refine za ?_; conv => whnf))
 ·exact hK _
 ·repeat' ((with_reducible refine way ?_ ?_) <;> (intro h; conv => whnf))
  ·have h1 : c.arts.length <= 12 := by omega
   rw [decide_eq_true h1, Bool.true_and, Bool.true_and] at hK
   have : decide (((c.facts.map Decl.cells).length : Int) <= 12) = decide (c.facts.length <= 12) := by rw [hfl]; exact decide_eq_decide.2 (by omega)
   rw [<- this] at hK
   exact hK _
  ·have h1 : ¬ c.arts.length <= 12 := by omega
   rw [decide_eq_false h1, Bool.and_false, Bool.false_and] at hK
   exact hK _
theorem ynf {c : Codex} (h : yuf c = true) : c.arts.length <= 12 /\ c.facts.length <= 12 /\ zsp c 420 = true /\ ∀ a ∈ c.arts, a.when_.length <= 41 /\ a.unless_.length <= 80 := by
 unfold yuf at h
 simp only [Bool.and_eq_true, decide_eq_true_eq] at h
 obtain ⟨⟨h1, h2⟩, h3⟩ := h
 unfold zsp at h1 ⊢
 simp only [Bool.and_eq_true, decide_eq_true_eq, List.all_eq_true] at h1 ⊢
 refine ⟨h2, h3, ⟨h1.1, fun a ha => ?_⟩, fun a ha => ?_⟩
 ·have := h1.2 a ha
  unfold zin at this ⊢
  simp only [Bool.and_eq_true, decide_eq_true_eq, List.all_eq_true] at this ⊢
  exact ⟨⟨this.1.1, by omega⟩, fun e he => by have := this.2 e he; omega⟩
 ·have := h1.2 a ha
  unfold zin at this
  simp only [Bool.and_eq_true, decide_eq_true_eq, List.all_eq_true] at this
  exact ⟨by have := this.1.1.1; omega, this.1.1.2⟩
def zny (c n : Int) : Int := (if c < 0 then -(c + 1) else c) % n
theorem zmo {c n : Int} (h : 0 < n) : 0 <= zny c n /\ zny c n < n := ⟨Int.emod_nonneg _ (by omega), Int.emod_lt_of_pos _ h⟩
theorem zhb (c n : Int) (h0 : -9223372036854775808 <= c) (h1 : c <= 9223372036854775807) (hn : 0 < n) : zx Tryz.prog G 28 [sI c, sI n] (sI (zny c n)) := by
 by_cases hc : c < 0
 ·have hw1 : IntKind.i64.wrap (c + 1) = c + 1 := yv (by omega) (by omega)
  have hw2 : IntKind.i64.wrap (0 - (c + 1)) = 0 - (c + 1) := yv (by omega) (by omega)
  have he : zny c n = (IntKind.i64.wrap (0 - (IntKind.i64.wrap (c + 1)))).tmod n := by
   rw [hw1, hw2, Int.tmod_eq_emod_of_nonneg (by omega)]
   unfold zny
   rw [if_pos hc, Int.zero_sub]
  refine zc Tryz.func28 rfl (by rw [Tryz.ntmps28]; simp) rfl rfl ?_; intro E hH hK
  (refine wx [777, 12] 1000 ?_; conv => whnf)
  repeat' ((with_reducible refine way ?_ ?_) <;> (intro h; conv => whnf))
  all_goals try (exfalso; omega)
  refine yne (a := IntKind.i64.wrap (0 - (IntKind.i64.wrap (c + 1)))) (b := n) rfl rfl rfl rfl rfl (by omega) ?_
  (refine za ?_; conv => whnf)
  exact kI hK he
 ·have he : zny c n = c.tmod n := by
   rw [Int.tmod_eq_emod_of_nonneg (by omega)]
   unfold zny
   rw [if_neg hc]
  refine zc Tryz.func28 rfl (by rw [Tryz.ntmps28]; simp) rfl rfl ?_; intro E hH hK
  (refine wx [777, 12] 1000 ?_; conv => whnf)
  repeat' ((with_reducible refine way ?_ ?_) <;> (intro h; conv => whnf))
  all_goals try (exfalso; omega)
  refine yne (a := c) (b := n) rfl rfl rfl rfl rfl (by omega) ?_
  (refine za ?_; conv => whnf)
  exact kI hK he
def yfc (numbers : List Int) (i : Nat) : Int := if i < numbers.length then zny (numbers.getD i 0) 1000000000001 else 0
def yqm (c : Codex) (numbers : List Int) : List Int := (List.range c.facts.length).map fun (i : Nat) => if zkc c i = true then yfc numbers i % 2 else yfc numbers i
theorem yfd (numbers : List Int) (i : Nat) : 0 <= yfc numbers i := by
 unfold yfc
 split
 ·exact (zmo (by omega)).1
 ·omega
theorem yfe (c : Codex) (numbers : List Int) : (yqm c numbers).length = c.facts.length := by simp [yqm]
theorem zzs (c : Codex) (numbers : List Int) : yhp c (yqm c numbers) := fun i => by
 have h := yfd numbers i
 unfold yqm
 rw [List.getD_eq_getElem?_getD, List.getElem?_map]
 by_cases hi : i < c.facts.length
 ·rw [List.getElem?_range hi]
  simp only [Option.map_some, Option.getD_some]
  cases ht : zkc c (i : Int) with
  | true => rw [if_pos rfl]; omega
  | false => simp; exact h
 ·rw [List.getElem?_eq_none (by simp; omega)]
  simp
theorem zsq (c : Codex) (hF : c.facts.length <= 1000) (numbers : List Int) (hn : ∀ n ∈ numbers, -9223372036854775808 <= n /\ n <= 9223372036854775807) : zx Tryz.prog G 27 [c.sv, .imm (zj numbers)] (.imm (zj (yqm c numbers))) := by
 have hfl : (c.facts.map Decl.cells).length = c.facts.length := by simp
 have hnl : (numbers.map fun n => [dI n]).length = numbers.length := by simp
 rw [show c.sv = .agg [.imm (zk c.facts), .imm (zk c.lines), .imm (ym c.arts)] from rfl]
 refine zc Tryz.func27 rfl (by rw [Tryz.ntmps27]; simp) rfl rfl ?_; intro E hH hK
 (refine zg ?_; conv => whnf)
 refine zqe (n := 5) (kk := 1) rfl ?_
 refine zf [1, 2, 5, 6] ?_
 change SW E _ [(1, .imm (zj numbers)), (2, .ptr 0 0), (5, .asl 1 1 []), (6, sI 0)] [.cells [.imm (zk c.facts), .imm (zk c.lines), .imm (ym c.arts)], .tok 1 0]
 refine zp c.facts (fun i (l : List Int) => [(1, .imm (zj numbers)), (2, .ptr 0 0), (5, .asl 1 1 (l.map fun n => [dI n])), (6, sI i)]) (fun _ l => [.cells [.imm (zk c.facts), .imm (zk c.lines), .imm (ym c.arts)], .tok 1 (l.map fun n => [dI n]).length])
  (fun done _ l => l = (List.range done.length).map fun (i : Nat) => if zkc c i = true then yfc numbers i % 2 else yfc numbers i) [] rfl ?_ ?_
 ·rintro l h2
  have h3 : yqm c numbers = l := h2.symm
  rw [h3] at hK
  refine zci ?_
  change SW E _ [(1, .imm (zj numbers)), (2, .ptr 0 0), (5, .imm (zj l)), (6, sI c.facts.length)] _
  (refine zg ?_; conv => whnf)
  repeat' ((with_reducible refine way ?_ ?_) <;> (intro h; conv => whnf))
  all_goals try (exfalso; omega)
  exact hK _
 ·rintro done x rest l hda hdl h2 ih
  have hw := zm (n := done.length) (by omega)
  have hll : l.length = done.length := by rw [h2]; simp
  have hrow : (c.facts.map Decl.cells)[done.length]? = some [dS x.name, dS x.unit, dI x.role] := by simp [hda, Decl.cells]
  have hT : zkc c (done.length : Int) = decide (x.unit = tT) := by
   unfold zkc
   rw [show ((done.length : Nat) : Int).toNat = done.length by omega, show c.facts[done.length]? = some x by simp [hda]]
  have hsn : ∀ n, n = (if zkc c (done.length : Int) = true then yfc numbers done.length % 2 else yfc numbers done.length) -> l ++ [n] = (List.range (done ++ [x]).length).map fun (i : Nat) => if zkc c i = true then yfc numbers i % 2 else yfc numbers i := fun n h3 => by
   rw [List.length_append, List.length_cons, List.length_nil, List.range_succ, List.map_append, <- h2, h3]
   rfl
  have hp := yfd numbers done.length
  by_cases hi : done.length < numbers.length
  ·obtain ⟨n0, hn0⟩ : ∃ n0, numbers[done.length]? = some n0 := ⟨_, List.getElem?_eq_getElem hi⟩
   have hrn : (numbers.map fun n => [dI n])[done.length]? = some [dI n0] := by simp [hn0]
   have hr := hn n0 (List.mem_of_getElem? hn0)
   have hpk := zhb G n0 1000000000001 hr.1 hr.2 (by omega)
   have hfn : yfc numbers done.length = zny n0 1000000000001 := by unfold yfc; rw [if_pos hi, List.getD_eq_getElem?_getD, hn0]; rfl
   rw [hfn] at hsn hp
   generalize zny n0 1000000000001 = p at hpk hsn hp
   (refine zg ?_; conv => whnf)
   repeat' ((with_reducible refine way ?_ ?_) <;> (intro h; conv => whnf))
   all_goals try (exfalso; omega)
   refine zh (i := done.length) (row := [dI n0]) rfl rfl hrn ?_
   (refine za ?_; conv => whnf)
   refine ze rfl  hpk ?_
   (refine za ?_; conv => whnf)
   refine zh (i := done.length) rfl rfl hrow ?_
   (refine za ?_; conv => whnf)
   repeat' ((with_reducible refine way ?_ ?_) <;> (intro h; conv => whnf))
   ·have ht : zkc c (done.length : Int) = true := hT.trans (decide_eq_true (p := x.unit = tT) h)
    have hend := ih (l ++ [p.tmod 2]) (hsn _ (by rw [if_pos ht, Int.tmod_eq_emod_of_nonneg hp]))
    refine xz (b := 1) (kk := 1) (rows := l.map fun n => [dI n]) (new := [[dI (p.tmod 2)]]) rfl ⟨by decide, rfl⟩ rfl (by rw [List.length_map]; simp only [List.length_cons, List.length_nil]; omega) ?_
    have e5 : (l.map fun n => [dI n]) ++ [[dI (p.tmod 2)]] = (l ++ [p.tmod 2]).map fun n => [dI n] := by simp
    have e6 : (l.map fun n => [dI n]).length + [[dI (p.tmod 2)]].length = ((l ++ [p.tmod 2]).map fun n => [dI n]).length := by simp
    refine Eq.mpr (congrArg (fun v => SWr E _ _ _ (wq _ _ (.asl 1 1 v)) _) e5) ?_
    refine Eq.mpr (congrArg (fun v => SWr E _ _ _ _ (List.set _ 1 (.tok 1 v))) e6) ?_
    (refine za ?_; conv => whnf)
    rw [hw]
    exact zf [1, 2, 5, 6] hend
   ·have ht : zkc c (done.length : Int) = false := hT.trans (decide_eq_false (p := x.unit = tT) h)
    have hend := ih (l ++ [p]) (hsn _ (by rw [if_neg (by rw [ht]; simp)]))
    refine xz (b := 1) (kk := 1) (rows := l.map fun n => [dI n]) (new := [[dI p]]) rfl ⟨by decide, rfl⟩ rfl (by rw [List.length_map]; simp only [List.length_cons, List.length_nil]; omega) ?_
    have e5 : (l.map fun n => [dI n]) ++ [[dI p]] = (l ++ [p]).map fun n => [dI n] := by simp
    have e6 : (l.map fun n => [dI n]).length + [[dI p]].length = ((l ++ [p]).map fun n => [dI n]).length := by simp
    refine Eq.mpr (congrArg (fun v => SWr E _ _ _ (wq _ _ (.asl 1 1 v)) _) e5) ?_
    refine Eq.mpr (congrArg (fun v => SWr E _ _ _ _ (List.set _ 1 (.tok 1 v))) e6) ?_
    (refine za ?_; conv => whnf)
    rw [hw]
    exact zf [1, 2, 5, 6] hend
  ·have hfn : yfc numbers done.length = 0 := by unfold yfc; rw [if_neg hi]
   have hend := ih (l ++ [0]) (hsn _ (by rw [hfn]; split <;> rfl))
   (refine zg ?_; conv => whnf)
   repeat' ((with_reducible refine way ?_ ?_) <;> (intro h; conv => whnf))
   all_goals try (exfalso; omega)
   refine zh (i := done.length) rfl rfl hrow ?_
   (refine za ?_; conv => whnf)
   repeat' ((with_reducible refine way ?_ ?_) <;> (intro h; conv => whnf))
   ·have hend := ih (l ++ [(0 : Int).tmod 2]) (hsn _ (by rw [hfn]; split <;> rfl))
    refine xz (b := 1) (kk := 1) (rows := l.map fun n => [dI n]) (new := [[dI ((0 : Int).tmod 2)]]) rfl ⟨by decide, rfl⟩ rfl (by rw [List.length_map]; simp only [List.length_cons, List.length_nil]; omega) ?_
    have e5 : (l.map fun n => [dI n]) ++ [[dI ((0 : Int).tmod 2)]] = (l ++ [(0 : Int).tmod 2]).map fun n => [dI n] := by simp
    have e6 : (l.map fun n => [dI n]).length + [[dI ((0 : Int).tmod 2)]].length = ((l ++ [(0 : Int).tmod 2]).map fun n => [dI n]).length := by simp
    refine Eq.mpr (congrArg (fun v => SWr E _ _ _ (wq _ _ (.asl 1 1 v)) _) e5) ?_
    refine Eq.mpr (congrArg (fun v => SWr E _ _ _ _ (List.set _ 1 (.tok 1 v))) e6) ?_
    (refine za ?_; conv => whnf)
    rw [hw]
    exact zf [1, 2, 5, 6] hend
   ·refine xz (b := 1) (kk := 1) (rows := l.map fun n => [dI n]) (new := [[dI 0]]) rfl ⟨by decide, rfl⟩ rfl (by rw [List.length_map]; simp only [List.length_cons, List.length_nil]; omega) ?_
    have e5 : (l.map fun n => [dI n]) ++ [[dI 0]] = (l ++ [0]).map fun n => [dI n] := by simp
    have e6 : (l.map fun n => [dI n]).length + [[dI 0]].length = ((l ++ [0]).map fun n => [dI n]).length := by simp
    refine Eq.mpr (congrArg (fun v => SWr E _ _ _ (wq _ _ (.asl 1 1 v)) _) e5) ?_
    refine Eq.mpr (congrArg (fun v => SWr E _ _ _ _ (List.set _ 1 (.tok 1 v))) e6) ?_
    (refine za ?_; conv => whnf)
    rw [hw]
    exact zf [1, 2, 5, 6] hend
theorem zwl (c : Codex) (vs : List Int) (hz : vs.length <= 1000000) (hv : ∀ v ∈ vs, 0 <= v /\ v < c.arts.length) (day : Int) :
  zx Tryz.prog G 24 [c.sv, .imm (zj vs), sI day] (sB (decide ((yi c vs).1 <= day) && decide (day < (yi c vs).2))) := by
 have h1 := zon G c vs hz hv
 generalize yi c vs = fr at h1
 obtain ⟨lo, hi⟩ := fr
 rw [show c.sv = .agg [.imm (zk c.facts), .imm (zk c.lines), .imm (ym c.arts)] from rfl] at h1 ⊢
 by_cases hlo : lo <= day
 ·rw [decide_eq_true (show (lo, hi).1 <= day from hlo), Bool.true_and]
  refine zc Tryz.func24 rfl (by rw [Tryz.ntmps24]; simp) rfl rfl ?_; intro E hH hK
  (refine zg ?_; conv => whnf)
  refine ze rfl  h1 ?_
  (refine za ?_; conv => whnf)
  repeat' ((with_reducible refine way ?_ ?_) <;> (intro h; conv => whnf))
  all_goals try (exfalso; omega)
  exact hK _
 ·rw [decide_eq_false (show ¬ (lo, hi).1 <= day from hlo), Bool.false_and]
  refine zc Tryz.func24 rfl (by rw [Tryz.ntmps24]; simp) rfl rfl ?_; intro E hH hK
  (refine zg ?_; conv => whnf)
  refine ze rfl  h1 ?_
  (refine za ?_; conv => whnf)
  repeat' ((with_reducible refine way ?_ ?_) <;> (intro h; conv => whnf))
  all_goals try (exfalso; omega)
  exact hK _
def zio : List (Int × Int × Bool) -> Bool
 | [] => false
 | (x, y, h) :: r => if h = true /\ x ≠ y then decide (x < y) else zio r
def yng (day vday : Int) (z : List (Int × Int × Bool)) : Bool := if day = vday then zio z else decide (day < vday)
theorem ych (day vday : Int) (z : List (Int × Int × Bool)) (hz : z.length <= 1000000) (l : List Int) : zx Tryz.prog G 29 [sI day, .imm (zj (z.map (·.1))), .agg [sI vday, .imm (ws (z.map (·.2.2))), .imm (zj (z.map (·.2.1))), .imm (zj l)]] (sB (yng day vday z)) := by
 have hz1 : ((z.map (·.1)).map fun n => [dI n]).length = z.length := by simp
 have hz2 : ((z.map (·.2.1)).map fun n => [dI n]).length = z.length := by simp
 have hz3 : ((z.map (·.2.2)).map fun n => [dB n]).length = z.length := by simp
 by_cases hd : day = vday
 ·rw [show yng day vday z = zio z from if_pos hd]
  refine zc Tryz.func29 rfl (by rw [Tryz.ntmps29]; simp) rfl rfl ?_; intro E hH hK
  (refine zg ?_; conv => whnf)
  repeat' ((with_reducible refine way ?_ ?_) <;> (intro h; conv => whnf))
  all_goals try (exfalso; omega)
  refine zf [1, 5, 7] ?_
  change SW E _ [(1, .imm (zj (z.map (·.1)))), (5, .ptr 0 0), (7, sI 0)] [.cells [sI vday, .imm (ws (z.map (·.2.2))), .imm (zj (z.map (·.2.1))), .imm (zj l)]]
  refine zp z (fun i (_ : Unit) => [(1, .imm (zj (z.map (·.1)))), (5, .ptr 0 0), (7, sI i)]) (fun _ _ => [.cells [sI vday, .imm (ws (z.map (·.2.2))), .imm (zj (z.map (·.2.1))), .imm (zj l)]])
   (fun _ rest _ => zio z = zio rest) () rfl ?_ ?_
  ·rintro _ h2
   rw [h2] at hK
   (refine zg ?_; conv => whnf)
   repeat' ((with_reducible refine way ?_ ?_) <;> (intro h; conv => whnf))
   all_goals try (exfalso; omega)
   all_goals exact hK _
  ·rintro done ⟨x, y, b⟩ rest _ hda hdl h2 ih
   have hw := zm (n := done.length) (by omega)
   have hr1 : ((z.map (·.1)).map fun n => [dI n])[done.length]? = some [dI x] := by simp [hda]
   have hr2 : ((z.map (·.2.1)).map fun n => [dI n])[done.length]? = some [dI y] := by simp [hda]
   have hr3 : ((z.map (·.2.2)).map fun n => [dB n])[done.length]? = some [dB b] := by simp [hda]
   (refine zg ?_; conv => whnf)
   repeat' ((with_reducible refine way ?_ ?_) <;> (intro h; conv => whnf))
   all_goals try (exfalso; omega)
   have hgo : zio ((x, y, b) :: rest) = if b = true /\ x ≠ y then decide (x < y) else zio rest := rfl
   (refine zu 0 mixed rfl ?_; refine zb [777] (nx := 1) ?_; conv => whnf)
   refine zq (i := done.length) (row := [dB b]) rfl (show 1 <= 1 by decide) rfl hr3 ?_
   (refine zb [777, 41] (nx := 1) ?_; conv => whnf)
   refine qj ⟨sB b, [], none⟩ rfl rfl (show 1 <= 1 by decide) (fun _ _ _ => rfl) ?_
   cases b with
   | false =>
    (refine zb [777, 52] (nx := 1) ?_; conv => whnf)
    refine qj ⟨sB false, [], none⟩ rfl rfl (show 1 <= 1 by decide) (fun _ _ _ => rfl) ?_
    refine jd (by kernel_rfl) ?_
    (refine zg ?_; conv => whnf)
    rw [hw]
    exact zf [1, 5, 7] (ih () (by rw [h2, hgo, if_neg (by simp)]))
   | true =>
    (refine zb [777] (nx := 1) ?_; conv => whnf)
    refine zq (i := done.length) (row := [dI x]) rfl (show 1 <= 1 by decide) rfl hr1 ?_
    (refine zb [777] (nx := 1) ?_; conv => whnf)
    refine zq (i := done.length) (row := [dI y]) rfl (show 1 <= 1 by decide) rfl hr2 ?_
    (refine zb [777, 52] (nx := 1) ?_; conv => whnf)
    refine qj ⟨sB (!decide (x = y)), [], none⟩ rfl rfl (show 1 <= 1 by decide) (fun _ _ _ => rfl) ?_
    refine jd (by kernel_rfl) ?_
    by_cases hxy : x = y
    ·rw [decide_eq_true hxy, Bool.not_true]
     (refine zg ?_; conv => whnf)
     rw [hw]
     exact zf [1, 5, 7] (ih () (by rw [h2, hgo, if_neg (by simp [hxy])]))
    ·rw [decide_eq_false hxy, Bool.not_false]
     have he : zio z = decide (x < y) := by rw [h2, hgo, if_pos ⟨rfl, hxy⟩]
     rw [he] at hK
     (refine zg ?_; conv => whnf)
     (refine zu 0 mixed rfl ?_; refine zb [777] (nx := 1) ?_; conv => whnf)
     refine zq (i := done.length) (row := [dI x]) rfl (show 1 <= 1 by decide) rfl hr1 ?_
     (refine zb [777] (nx := 1) ?_; conv => whnf)
     refine zq (i := done.length) (row := [dI y]) rfl (show 1 <= 1 by decide) rfl hr2 ?_
     (refine zb [777, 6] (nx := 1) ?_; conv => whnf)
     refine qj ⟨sB (decide (x < y)), [], none⟩ rfl rfl (show 1 <= 1 by decide) (fun _ _ _ => rfl) ?_
     refine jd (by kernel_rfl) ?_
     (refine zg ?_; conv => whnf)
     exact hK _
 ·rw [show yng day vday z = decide (day < vday) from if_neg hd]
  refine zc Tryz.func29 rfl (by rw [Tryz.ntmps29]; simp) rfl rfl ?_; intro E hH hK
  (refine zg ?_; conv => whnf)
  repeat' ((with_reducible refine way ?_ ?_) <;> (intro h; conv => whnf))
  all_goals try (exfalso; omega)
  exact hK _
def zad (c : Codex) (op n : Int) (u : ByteArray) : Bool :=
  if op = 1 then wu u && decide (0 <= n) && decide (n <= 999999999999) && (!decide (u = tT) || decide (n <= 1))
  else if op = 2 then decide (0 <= n) && decide (n < c.facts.length) && zcs c.facts n u
  else if op = 3 then (match c.arts[(jj n c.arts 0).toNat]? with
    | some a => decide (0 <= jj n c.arts 0) && decide (0 <= a.line) && decide (a.line < c.lines.length) && zcs c.lines a.line u
    | none => false)
  else if op = 4 then decide (1 <= n) && decide (n <= 4) && decide (u = tN)
  else false
theorem zzt (c : Codex) (op n : Int) (u : ByteArray) (den : Int) (ps : List Piece) (ks : List Ex) (hsz : c.arts.length <= 9223372036854775807) :
    zx Tryz.prog G 118 [c.sv, (Ex.mk op n u den ps ks).sv] (sB (zad c op n u)) := by
  refine zc Tryz.func118 rfl (by rw [Tryz.ntmps118]; simp) rfl rfl ?_; intro E hH hK
  have hf : (c.facts.map Decl.cells).length = c.facts.length := by simp
  have hl : (c.lines.map Decl.cells).length = c.lines.length := by simp
  by_cases h1 : op = 1
  · subst h1
    have hr : zad c 1 n u = (wu u && decide (0 <= n) && decide (n <= 999999999999) && (!decide (u = tT) || decide (n <= 1))) := rfl
    rw [hr] at hK
    (refine zi ?_; conv => whnf)
    refine ze rfl  (zxs G u) ?_
    (refine zl ?_; conv => whnf)
    repeat' ((with_reducible refine way ?_ ?_) <;> (intro h; conv => whnf))
    all_goals exact kB hK (by first | (rw [‹wu u = true›]; simp [*]; done) | (simp [*]; done))
  by_cases h2 : op = 2
  · subst h2
    have hr : zad c 2 n u = (decide (0 <= n) && decide (n < c.facts.length) && zcs c.facts n u) := rfl
    rw [hr] at hK
    (refine zi ?_; conv => whnf)
    (refine xa mixed rfl ?_; refine zn [] ?_; conv => whnf)
    repeat' ((with_reducible refine way ?_ ?_) <;> (intro h; conv => whnf))
    · have hlt : n.toNat < c.facts.length := by omega
      obtain ⟨d, hd⟩ : ∃ d, c.facts[n.toNat]? = some d := ⟨c.facts[n.toNat], List.getElem?_eq_getElem hlt⟩
      refine xw rfl (i := n.toNat) (by omega) (row := d.cells) (by simp [hd]) ?_
      (refine zn [] ?_; conv => whnf)
      (refine zi ?_; conv => whnf)
      refine kB hK ?_
      have hua : zcs c.facts n u = decide (u = d.unit) := by simp only [zcs, hd]
      rw [hua, decide_eq_true (by omega), decide_eq_true (by omega)]
      rfl
    all_goals (refine zi ?_; conv => whnf)
    · exact kB hK (by rw [decide_eq_false (p := n < c.facts.length) (by omega)]; simp)
    · exact kB hK (by rw [decide_eq_false (p := 0 <= n) (by omega)]; simp)
  by_cases h3 : op = 3
  · subst h3
    have hr : zad c 3 n u = (match c.arts[(jj n c.arts 0).toNat]? with
      | some a => decide (0 <= jj n c.arts 0) && decide (0 <= a.line) && decide (a.line < c.lines.length) && zcs c.lines a.line u
      | none => false) := rfl
    rw [hr] at hK
    (refine zi ?_; conv => whnf)
    refine ze rfl  (zha G c n hsz) ?_
    (refine zl ?_; conv => whnf)
    rcases zlf n c.arts 0 with h | ⟨g1, g2, a, g3, g4⟩
    · rw [h] at hK ⊢
      (refine xa mixed rfl ?_; refine zn [] ?_; conv => whnf)
      (refine zi ?_; conv => whnf)
      refine kB hK ?_
      split <;> rfl
    · rw [Nat.sub_zero] at g3
      rw [g3] at hK
      simp only [decide_eq_true (show (0 : Int) <= jj n c.arts 0 from g1), Bool.true_and] at hK
      generalize jj n c.arts 0 = ix at hK g1 g2 g3 ⊢
      (refine xa mixed rfl ?_; refine zn [] ?_; conv => whnf)
      repeat' ((with_reducible refine way ?_ ?_) <;> (intro h; conv => whnf))
      all_goals try (exfalso; omega)
      refine xw rfl (i := ix.toNat) (by omega) (row := a.cells) (by simp [g3]) ?_
      (refine zn [] ?_; conv => whnf)
      repeat' ((with_reducible refine way ?_ ?_) <;> (intro h; conv => whnf))
      · refine xw rfl (i := ix.toNat) (by omega) (row := a.cells) (by simp [g3]) ?_
        (refine zn [] ?_; conv => whnf)
        repeat' ((with_reducible refine way ?_ ?_) <;> (intro h; conv => whnf))
        · refine xw rfl (i := ix.toNat) (by omega) (row := a.cells) (by simp [g3]) ?_
          (refine zn [] ?_; conv => whnf)
          obtain ⟨d, hd⟩ : ∃ d, c.lines[a.line.toNat]? = some d := ⟨c.lines[a.line.toNat]'(by omega), List.getElem?_eq_getElem _⟩
          refine xw rfl (i := a.line.toNat) (by omega) (row := d.cells) (by simp [hd]) ?_
          (refine zn [] ?_; conv => whnf)
          (refine zi ?_; conv => whnf)
          refine kB hK ?_
          have hua : zcs c.lines a.line u = decide (u = d.unit) := by simp only [zcs, hd]
          rw [hua, decide_eq_true (p := 0 <= a.line) (by omega), decide_eq_true (p := a.line < c.lines.length) (by omega)]
          rfl
        · (refine zi ?_; conv => whnf)
          exact kB hK (by rw [decide_eq_false (p := a.line < c.lines.length) (by omega)]; simp)
      · (refine zi ?_; conv => whnf)
        exact kB hK (by rw [decide_eq_false (p := 0 <= a.line) (by omega)]; simp)
  · (refine zi ?_; conv => whnf)
    repeat' ((with_reducible refine way ?_ ?_) <;> (intro h; conv => whnf))
    all_goals try (exfalso; omega)
    all_goals exact kB hK (by simp only [zad, if_neg h1, if_neg h2, if_neg h3]; simp [*])
theorem yug (u : ByteArray) (f l : Ex) (len : Int) (h : 2 <= len) : zaf 16 u f l len true = (!decide (f.unit = tT) && decide (u = f.unit)) := by simp [zaf, h]
theorem yuh (u : ByteArray) (f l : Ex) (len : Int) (h : 2 <= len) : zaf 17 u f l len true = (!decide (f.unit = tT) && decide (u = f.unit)) := by simp [zaf, h]
theorem yvp (u : ByteArray) (f l : Ex) : zaf 6 u f l 2 (decide (l.unit = f.unit)) = (decide (u = tT) && decide (f.unit = tT) && decide (l.unit = tT)) := by
 by_cases e : f.unit = tT
 ·simp [zaf, e]
 ·simp [zaf, e]
theorem yvq (u : ByteArray) (f l : Ex) : zaf 7 u f l 2 (decide (l.unit = f.unit)) = (decide (u = tT) && decide (f.unit = tT) && decide (l.unit = tT)) := by
 by_cases e : f.unit = tT
 ·simp [zaf, e]
 ·simp [zaf, e]
theorem yvr (u : ByteArray) (f l : Ex) : zaf 8 u f l 2 (decide (l.unit = f.unit)) = (decide (u = tT) && decide (f.unit = l.unit)) := by
 simp [zaf, eq_comm (a := l.unit)]
theorem yvs (u : ByteArray) (f l : Ex) : zaf 9 u f l 2 (decide (l.unit = f.unit)) = (decide (u = tT) && decide (f.unit = l.unit) && !decide (f.unit = tT)) := by
 simp [zaf, Bool.and_assoc, eq_comm (a := l.unit)]
theorem yui (u : ByteArray) (f l : Ex) : zaf 10 u f l 2 (decide (l.unit = f.unit)) = (decide (u = tT) && decide (f.unit = l.unit) && !decide (f.unit = tT)) := by
 simp [zaf, Bool.and_assoc, eq_comm (a := l.unit)]
theorem yuj (u : ByteArray) (f l : Ex) : zaf 11 u f l 2 (decide (l.unit = f.unit)) = (decide (u = f.unit) && decide (f.unit = l.unit) && !decide (f.unit = tT)) := by
 by_cases e1 : u = f.unit <;> by_cases e2 : l.unit = f.unit <;> simp [zaf, e1, e2, eq_comm (a := f.unit)]
theorem yuk (u : ByteArray) (f l : Ex) : zaf 12 u f l 2 (decide (l.unit = f.unit)) = (decide (u = f.unit) && decide (f.unit = l.unit) && !decide (f.unit = tT)) := by
 by_cases e1 : u = f.unit <;> by_cases e2 : l.unit = f.unit <;> simp [zaf, e1, e2, eq_comm (a := f.unit)]
theorem yul (u : ByteArray) (f l : Ex) (s : Bool) : zaf 13 u f l 2 s = (!decide (f.unit = tT) && !decide (l.unit = tT) && ((decide (f.unit = tN) && decide (u = l.unit)) || (decide (l.unit = tN) && decide (u = f.unit)))) := by
 by_cases e1 : f.unit = tN
 ·by_cases e2 : l.unit = tN
  ·simp [zaf, e1, e2]
  ·simp [zaf, e1, e2]
 ·simp [zaf, e1, Bool.and_assoc]
theorem yum (u : ByteArray) (f l : Ex) (s : Bool) : zaf 14 u f l 2 s = (decide (u = f.unit) && !decide (f.unit = tT) && decide (l.op = 1) && decide (l.unit = tN) && decide (1 <= l.n) && decide (l.n <= 1000000)) := by
 have e1 : (!decide (l.n < 1)) = decide (1 <= l.n) := by rw [Bool.eq_iff_iff]; simp
 have e2 : (!decide (1000000 < l.n)) = decide (l.n <= 1000000) := by rw [Bool.eq_iff_iff]; simp
 simp only [zaf]
 rw [e1, e2]
 by_cases f1 : u = f.unit <;> by_cases f2 : f.unit = tT <;> simp [f1, f2, Bool.and_assoc]
theorem yun (u : ByteArray) (f l : Ex) (s : Bool) : zaf 15 u f l 2 s = (decide (f.unit = tM) && zeq l.unit && decide (u = l.unit)) := by simp [zaf]
theorem ypq (op : Int) (u : ByteArray) (f l : Ex) (s : Bool) (h : op < 6 \/ 17 < op) : zaf op u f l 2 s = false := by
 by_cases e5 : op = 5
 ·subst e5; simp [zaf]
 ·simp only [zaf]
  rw [if_neg e5, if_neg (by omega), if_neg (by omega), if_neg (by omega), if_neg (by omega), if_neg (by omega), if_neg (by omega), if_neg (by omega), if_neg (by omega)]
theorem yif (n : Int) (u : ByteArray) (den : Int) (ps : List Piece) (k0 k1 : Ex) : zx Tryz.prog G 120 [(Ex.mk 6 n u den ps [k0, k1]).sv] (sB (zaf 6 u k0 k1 2 (decide (k1.unit = k0.unit)))) := by
 have hrows := zr [k0, k1]
 have hlen : (zd [k0, k1]).length = 2 := by rw [hrows]; rfl
 have h0 : (zd [k0, k1])[0]? = some k0.cells := by rw [hrows]; rfl
 have h1 : (zd [k0, k1])[1]? = some k1.cells := by rw [hrows]; rfl
 have hkl : [k0, k1].length = 2 := rfl
 generalize [k0, k1] = ks at hrows hlen h0 h1 hkl ⊢
 refine zc Tryz.func120 rfl (by rw [Tryz.ntmps120]; simp) rfl rfl ?_; intro E hH hK
 obtain ⟨o0, n0, u0, d0, p0, q0⟩ := k0
 obtain ⟨o1, n1, u1, d1, p1, q1⟩ := k1
 replace hK : ∀ H', E.K (sB (decide (u = tT) && decide (u0 = tT) && decide (u1 = tT))) H' := by
  intro H'
  have := hK H'
  rw [yvp] at this
  exact this
 (refine zi ?_; conv => whnf)
 refine zh rfl rfl  (row := (Ex.mk o0 n0 u0 d0 p0 q0).cells) h0 ?_
 (refine zl ?_; conv => whnf)
 refine zh rfl rfl  (row := (Ex.mk o1 n1 u1 d1 p1 q1).cells) h1 ?_
 (refine zl ?_; conv => whnf)
 refine zf [1, 3, 4, 5] ?_
 refine zp ks (fun i (_ : Unit) => [(1, .ptr 0 0), (3, sS u0), (4, sS u1), (5, sI i)]) (fun _ _ => [.cells [sI 6, sI n, sS u, sI den, .imm (.isl 3 (ps.map Piece.cells)), .imm (.isl 6 (zd ks))]])
  (fun _ _ _ => True) () trivial ?_ ?_
 ·as_aux_lemma =>
   rintro _ _
   (refine zi ?_; conv => whnf)
   repeat' ((with_reducible refine way ?_ ?_) <;> (intro h; conv => whnf))
   all_goals try (exfalso; omega)
   all_goals exact kB hK (by simp [tT, tN, *])
 ·as_aux_lemma =>
   rintro done k rest _ ha hl _ ih
   have hw := zm (n := done.length) (by omega)
   (refine zi ?_; conv => whnf)
   repeat' ((with_reducible refine way ?_ ?_) <;> (intro h; conv => whnf))
   all_goals try (exfalso; omega)
   all_goals (rw [hw]; exact ys [1, 3, 4, 5] 1 (by simp [hH]) (by simp) rfl rfl (ih () trivial))
theorem yig (n : Int) (u : ByteArray) (den : Int) (ps : List Piece) (k0 k1 : Ex) : zx Tryz.prog G 120 [(Ex.mk 7 n u den ps [k0, k1]).sv] (sB (zaf 7 u k0 k1 2 (decide (k1.unit = k0.unit)))) := by
 have hrows := zr [k0, k1]
 have hlen : (zd [k0, k1]).length = 2 := by rw [hrows]; rfl
 have h0 : (zd [k0, k1])[0]? = some k0.cells := by rw [hrows]; rfl
 have h1 : (zd [k0, k1])[1]? = some k1.cells := by rw [hrows]; rfl
 have hkl : [k0, k1].length = 2 := rfl
 generalize [k0, k1] = ks at hrows hlen h0 h1 hkl ⊢
 refine zc Tryz.func120 rfl (by rw [Tryz.ntmps120]; simp) rfl rfl ?_; intro E hH hK
 obtain ⟨o0, n0, u0, d0, p0, q0⟩ := k0
 obtain ⟨o1, n1, u1, d1, p1, q1⟩ := k1
 replace hK : ∀ H', E.K (sB (decide (u = tT) && decide (u0 = tT) && decide (u1 = tT))) H' := by
  intro H'
  have := hK H'
  rw [yvq] at this
  exact this
 (refine zi ?_; conv => whnf)
 refine zh rfl rfl  (row := (Ex.mk o0 n0 u0 d0 p0 q0).cells) h0 ?_
 (refine zl ?_; conv => whnf)
 refine zh rfl rfl  (row := (Ex.mk o1 n1 u1 d1 p1 q1).cells) h1 ?_
 (refine zl ?_; conv => whnf)
 refine zf [1, 3, 4, 5] ?_
 refine zp ks (fun i (_ : Unit) => [(1, .ptr 0 0), (3, sS u0), (4, sS u1), (5, sI i)]) (fun _ _ => [.cells [sI 7, sI n, sS u, sI den, .imm (.isl 3 (ps.map Piece.cells)), .imm (.isl 6 (zd ks))]])
  (fun _ _ _ => True) () trivial ?_ ?_
 ·as_aux_lemma =>
   rintro _ _
   (refine zi ?_; conv => whnf)
   repeat' ((with_reducible refine way ?_ ?_) <;> (intro h; conv => whnf))
   all_goals try (exfalso; omega)
   all_goals exact kB hK (by simp [tT, tN, *])
 ·as_aux_lemma =>
   rintro done k rest _ ha hl _ ih
   have hw := zm (n := done.length) (by omega)
   (refine zi ?_; conv => whnf)
   repeat' ((with_reducible refine way ?_ ?_) <;> (intro h; conv => whnf))
   all_goals try (exfalso; omega)
   all_goals (rw [hw]; exact ys [1, 3, 4, 5] 1 (by simp [hH]) (by simp) rfl rfl (ih () trivial))
theorem yih (n : Int) (u : ByteArray) (den : Int) (ps : List Piece) (k0 k1 : Ex) : zx Tryz.prog G 120 [(Ex.mk 8 n u den ps [k0, k1]).sv] (sB (zaf 8 u k0 k1 2 (decide (k1.unit = k0.unit)))) := by
 have hrows := zr [k0, k1]
 have hlen : (zd [k0, k1]).length = 2 := by rw [hrows]; rfl
 have h0 : (zd [k0, k1])[0]? = some k0.cells := by rw [hrows]; rfl
 have h1 : (zd [k0, k1])[1]? = some k1.cells := by rw [hrows]; rfl
 have hkl : [k0, k1].length = 2 := rfl
 generalize [k0, k1] = ks at hrows hlen h0 h1 hkl ⊢
 refine zc Tryz.func120 rfl (by rw [Tryz.ntmps120]; simp) rfl rfl ?_; intro E hH hK
 obtain ⟨o0, n0, u0, d0, p0, q0⟩ := k0
 obtain ⟨o1, n1, u1, d1, p1, q1⟩ := k1
 replace hK : ∀ H', E.K (sB (decide (u = tT) && decide (u0 = u1))) H' := by
  intro H'
  have := hK H'
  rw [yvr] at this
  exact this
 (refine zi ?_; conv => whnf)
 refine zh rfl rfl  (row := (Ex.mk o0 n0 u0 d0 p0 q0).cells) h0 ?_
 (refine zl ?_; conv => whnf)
 refine zh rfl rfl  (row := (Ex.mk o1 n1 u1 d1 p1 q1).cells) h1 ?_
 (refine zl ?_; conv => whnf)
 refine zf [1, 3, 4, 5] ?_
 refine zp ks (fun i (_ : Unit) => [(1, .ptr 0 0), (3, sS u0), (4, sS u1), (5, sI i)]) (fun _ _ => [.cells [sI 8, sI n, sS u, sI den, .imm (.isl 3 (ps.map Piece.cells)), .imm (.isl 6 (zd ks))]])
  (fun _ _ _ => True) () trivial ?_ ?_
 ·as_aux_lemma =>
   rintro _ _
   (refine zi ?_; conv => whnf)
   repeat' ((with_reducible refine way ?_ ?_) <;> (intro h; conv => whnf))
   all_goals try (exfalso; omega)
   all_goals exact kB hK (by simp [tT, tN, *])
 ·as_aux_lemma =>
   rintro done k rest _ ha hl _ ih
   have hw := zm (n := done.length) (by omega)
   (refine zi ?_; conv => whnf)
   repeat' ((with_reducible refine way ?_ ?_) <;> (intro h; conv => whnf))
   all_goals try (exfalso; omega)
   all_goals (rw [hw]; exact ys [1, 3, 4, 5] 1 (by simp [hH]) (by simp) rfl rfl (ih () trivial))
theorem yii (n : Int) (u : ByteArray) (den : Int) (ps : List Piece) (k0 k1 : Ex) : zx Tryz.prog G 120 [(Ex.mk 9 n u den ps [k0, k1]).sv] (sB (zaf 9 u k0 k1 2 (decide (k1.unit = k0.unit)))) := by
 have hrows := zr [k0, k1]
 have hlen : (zd [k0, k1]).length = 2 := by rw [hrows]; rfl
 have h0 : (zd [k0, k1])[0]? = some k0.cells := by rw [hrows]; rfl
 have h1 : (zd [k0, k1])[1]? = some k1.cells := by rw [hrows]; rfl
 have hkl : [k0, k1].length = 2 := rfl
 generalize [k0, k1] = ks at hrows hlen h0 h1 hkl ⊢
 refine zc Tryz.func120 rfl (by rw [Tryz.ntmps120]; simp) rfl rfl ?_; intro E hH hK
 obtain ⟨o0, n0, u0, d0, p0, q0⟩ := k0
 obtain ⟨o1, n1, u1, d1, p1, q1⟩ := k1
 replace hK : ∀ H', E.K (sB (decide (u = tT) && decide (u0 = u1) && !decide (u0 = tT))) H' := by
  intro H'
  have := hK H'
  rw [yvs] at this
  exact this
 (refine zi ?_; conv => whnf)
 refine zh rfl rfl  (row := (Ex.mk o0 n0 u0 d0 p0 q0).cells) h0 ?_
 (refine zl ?_; conv => whnf)
 refine zh rfl rfl  (row := (Ex.mk o1 n1 u1 d1 p1 q1).cells) h1 ?_
 (refine zl ?_; conv => whnf)
 refine zf [1, 3, 4, 5] ?_
 refine zp ks (fun i (_ : Unit) => [(1, .ptr 0 0), (3, sS u0), (4, sS u1), (5, sI i)]) (fun _ _ => [.cells [sI 9, sI n, sS u, sI den, .imm (.isl 3 (ps.map Piece.cells)), .imm (.isl 6 (zd ks))]])
  (fun _ _ _ => True) () trivial ?_ ?_
 ·as_aux_lemma =>
   rintro _ _
   (refine zi ?_; conv => whnf)
   repeat' ((with_reducible refine way ?_ ?_) <;> (intro h; conv => whnf))
   all_goals try (exfalso; omega)
   all_goals exact kB hK (by simp [tT, tN, *])
 ·as_aux_lemma =>
   rintro done k rest _ ha hl _ ih
   have hw := zm (n := done.length) (by omega)
   (refine zi ?_; conv => whnf)
   repeat' ((with_reducible refine way ?_ ?_) <;> (intro h; conv => whnf))
   all_goals try (exfalso; omega)
   all_goals (rw [hw]; exact ys [1, 3, 4, 5] 1 (by simp [hH]) (by simp) rfl rfl (ih () trivial))
theorem yci (n : Int) (u : ByteArray) (den : Int) (ps : List Piece) (k0 k1 : Ex) : zx Tryz.prog G 120 [(Ex.mk 10 n u den ps [k0, k1]).sv] (sB (zaf 10 u k0 k1 2 (decide (k1.unit = k0.unit)))) := by
 have hrows := zr [k0, k1]
 have hlen : (zd [k0, k1]).length = 2 := by rw [hrows]; rfl
 have h0 : (zd [k0, k1])[0]? = some k0.cells := by rw [hrows]; rfl
 have h1 : (zd [k0, k1])[1]? = some k1.cells := by rw [hrows]; rfl
 have hkl : [k0, k1].length = 2 := rfl
 generalize [k0, k1] = ks at hrows hlen h0 h1 hkl ⊢
 refine zc Tryz.func120 rfl (by rw [Tryz.ntmps120]; simp) rfl rfl ?_; intro E hH hK
 obtain ⟨o0, n0, u0, d0, p0, q0⟩ := k0
 obtain ⟨o1, n1, u1, d1, p1, q1⟩ := k1
 replace hK : ∀ H', E.K (sB (decide (u = tT) && decide (u0 = u1) && !decide (u0 = tT))) H' := by
  intro H'
  have := hK H'
  rw [yui] at this
  exact this
 (refine zi ?_; conv => whnf)
 refine zh rfl rfl  (row := (Ex.mk o0 n0 u0 d0 p0 q0).cells) h0 ?_
 (refine zl ?_; conv => whnf)
 refine zh rfl rfl  (row := (Ex.mk o1 n1 u1 d1 p1 q1).cells) h1 ?_
 (refine zl ?_; conv => whnf)
 refine zf [1, 3, 4, 5] ?_
 refine zp ks (fun i (_ : Unit) => [(1, .ptr 0 0), (3, sS u0), (4, sS u1), (5, sI i)]) (fun _ _ => [.cells [sI 10, sI n, sS u, sI den, .imm (.isl 3 (ps.map Piece.cells)), .imm (.isl 6 (zd ks))]])
  (fun _ _ _ => True) () trivial ?_ ?_
 ·as_aux_lemma =>
   rintro _ _
   (refine zi ?_; conv => whnf)
   repeat' ((with_reducible refine way ?_ ?_) <;> (intro h; conv => whnf))
   all_goals try (exfalso; omega)
   all_goals exact kB hK (by simp [tT, tN, *])
 ·as_aux_lemma =>
   rintro done k rest _ ha hl _ ih
   have hw := zm (n := done.length) (by omega)
   (refine zi ?_; conv => whnf)
   repeat' ((with_reducible refine way ?_ ?_) <;> (intro h; conv => whnf))
   all_goals try (exfalso; omega)
   all_goals (rw [hw]; exact ys [1, 3, 4, 5] 1 (by simp [hH]) (by simp) rfl rfl (ih () trivial))
theorem ycj (n : Int) (u : ByteArray) (den : Int) (ps : List Piece) (k0 k1 : Ex) : zx Tryz.prog G 120 [(Ex.mk 11 n u den ps [k0, k1]).sv] (sB (zaf 11 u k0 k1 2 (decide (k1.unit = k0.unit)))) := by
 have hrows := zr [k0, k1]
 have hlen : (zd [k0, k1]).length = 2 := by rw [hrows]; rfl
 have h0 : (zd [k0, k1])[0]? = some k0.cells := by rw [hrows]; rfl
 have h1 : (zd [k0, k1])[1]? = some k1.cells := by rw [hrows]; rfl
 have hkl : [k0, k1].length = 2 := rfl
 generalize [k0, k1] = ks at hrows hlen h0 h1 hkl ⊢
 refine zc Tryz.func120 rfl (by rw [Tryz.ntmps120]; simp) rfl rfl ?_; intro E hH hK
 obtain ⟨o0, n0, u0, d0, p0, q0⟩ := k0
 obtain ⟨o1, n1, u1, d1, p1, q1⟩ := k1
 replace hK : ∀ H', E.K (sB (decide (u = u0) && decide (u0 = u1) && !decide (u0 = tT))) H' := by
  intro H'
  have := hK H'
  rw [yuj] at this
  exact this
 (refine zi ?_; conv => whnf)
 refine zh rfl rfl  (row := (Ex.mk o0 n0 u0 d0 p0 q0).cells) h0 ?_
 (refine zl ?_; conv => whnf)
 refine zh rfl rfl  (row := (Ex.mk o1 n1 u1 d1 p1 q1).cells) h1 ?_
 (refine zl ?_; conv => whnf)
 refine zf [1, 3, 4, 5] ?_
 refine zp ks (fun i (_ : Unit) => [(1, .ptr 0 0), (3, sS u0), (4, sS u1), (5, sI i)]) (fun _ _ => [.cells [sI 11, sI n, sS u, sI den, .imm (.isl 3 (ps.map Piece.cells)), .imm (.isl 6 (zd ks))]])
  (fun _ _ _ => True) () trivial ?_ ?_
 ·as_aux_lemma =>
   rintro _ _
   (refine zi ?_; conv => whnf)
   repeat' ((with_reducible refine way ?_ ?_) <;> (intro h; conv => whnf))
   all_goals try (exfalso; omega)
   all_goals exact kB hK (by simp [tT, tN, *])
 ·as_aux_lemma =>
   rintro done k rest _ ha hl _ ih
   have hw := zm (n := done.length) (by omega)
   (refine zi ?_; conv => whnf)
   repeat' ((with_reducible refine way ?_ ?_) <;> (intro h; conv => whnf))
   all_goals try (exfalso; omega)
   all_goals (rw [hw]; exact ys [1, 3, 4, 5] 1 (by simp [hH]) (by simp) rfl rfl (ih () trivial))
theorem yck (n : Int) (u : ByteArray) (den : Int) (ps : List Piece) (k0 k1 : Ex) : zx Tryz.prog G 120 [(Ex.mk 12 n u den ps [k0, k1]).sv] (sB (zaf 12 u k0 k1 2 (decide (k1.unit = k0.unit)))) := by
 have hrows := zr [k0, k1]
 have hlen : (zd [k0, k1]).length = 2 := by rw [hrows]; rfl
 have h0 : (zd [k0, k1])[0]? = some k0.cells := by rw [hrows]; rfl
 have h1 : (zd [k0, k1])[1]? = some k1.cells := by rw [hrows]; rfl
 have hkl : [k0, k1].length = 2 := rfl
 generalize [k0, k1] = ks at hrows hlen h0 h1 hkl ⊢
 refine zc Tryz.func120 rfl (by rw [Tryz.ntmps120]; simp) rfl rfl ?_; intro E hH hK
 obtain ⟨o0, n0, u0, d0, p0, q0⟩ := k0
 obtain ⟨o1, n1, u1, d1, p1, q1⟩ := k1
 replace hK : ∀ H', E.K (sB (decide (u = u0) && decide (u0 = u1) && !decide (u0 = tT))) H' := by
  intro H'
  have := hK H'
  rw [yuk] at this
  exact this
 (refine zi ?_; conv => whnf)
 refine zh rfl rfl  (row := (Ex.mk o0 n0 u0 d0 p0 q0).cells) h0 ?_
 (refine zl ?_; conv => whnf)
 refine zh rfl rfl  (row := (Ex.mk o1 n1 u1 d1 p1 q1).cells) h1 ?_
 (refine zl ?_; conv => whnf)
 refine zf [1, 3, 4, 5] ?_
 refine zp ks (fun i (_ : Unit) => [(1, .ptr 0 0), (3, sS u0), (4, sS u1), (5, sI i)]) (fun _ _ => [.cells [sI 12, sI n, sS u, sI den, .imm (.isl 3 (ps.map Piece.cells)), .imm (.isl 6 (zd ks))]])
  (fun _ _ _ => True) () trivial ?_ ?_
 ·as_aux_lemma =>
   rintro _ _
   (refine zi ?_; conv => whnf)
   repeat' ((with_reducible refine way ?_ ?_) <;> (intro h; conv => whnf))
   all_goals try (exfalso; omega)
   all_goals exact kB hK (by simp [tT, tN, *])
 ·as_aux_lemma =>
   rintro done k rest _ ha hl _ ih
   have hw := zm (n := done.length) (by omega)
   (refine zi ?_; conv => whnf)
   repeat' ((with_reducible refine way ?_ ?_) <;> (intro h; conv => whnf))
   all_goals try (exfalso; omega)
   all_goals (rw [hw]; exact ys [1, 3, 4, 5] 1 (by simp [hH]) (by simp) rfl rfl (ih () trivial))
theorem ycl (n : Int) (u : ByteArray) (den : Int) (ps : List Piece) (k0 k1 : Ex) : zx Tryz.prog G 120 [(Ex.mk 13 n u den ps [k0, k1]).sv] (sB (zaf 13 u k0 k1 2 (decide (k1.unit = k0.unit)))) := by
 have hrows := zr [k0, k1]
 have hlen : (zd [k0, k1]).length = 2 := by rw [hrows]; rfl
 have h0 : (zd [k0, k1])[0]? = some k0.cells := by rw [hrows]; rfl
 have h1 : (zd [k0, k1])[1]? = some k1.cells := by rw [hrows]; rfl
 have hkl : [k0, k1].length = 2 := rfl
 generalize [k0, k1] = ks at hrows hlen h0 h1 hkl ⊢
 refine zc Tryz.func120 rfl (by rw [Tryz.ntmps120]; simp) rfl rfl ?_; intro E hH hK
 obtain ⟨o0, n0, u0, d0, p0, q0⟩ := k0
 obtain ⟨o1, n1, u1, d1, p1, q1⟩ := k1
 replace hK : ∀ H', E.K (sB (!decide (u0 = tT) && !decide (u1 = tT) && ((decide (u0 = tN) && decide (u = u1)) || (decide (u1 = tN) && decide (u = u0))))) H' := by
  intro H'
  have := hK H'
  rw [yul] at this
  exact this
 (refine zi ?_; conv => whnf)
 refine zh rfl rfl  (row := (Ex.mk o0 n0 u0 d0 p0 q0).cells) h0 ?_
 (refine zl ?_; conv => whnf)
 refine zh rfl rfl  (row := (Ex.mk o1 n1 u1 d1 p1 q1).cells) h1 ?_
 (refine zl ?_; conv => whnf)
 refine zf [1, 3, 4, 5] ?_
 refine zp ks (fun i (_ : Unit) => [(1, .ptr 0 0), (3, sS u0), (4, sS u1), (5, sI i)]) (fun _ _ => [.cells [sI 13, sI n, sS u, sI den, .imm (.isl 3 (ps.map Piece.cells)), .imm (.isl 6 (zd ks))]])
  (fun _ _ _ => True) () trivial ?_ ?_
 ·as_aux_lemma =>
   rintro _ _
   (refine zi ?_; conv => whnf)
   repeat' ((with_reducible refine way ?_ ?_) <;> (intro h; conv => whnf))
   all_goals try (exfalso; omega)
   all_goals exact kB hK (by simp [tT, tN, *])
 ·as_aux_lemma =>
   rintro done k rest _ ha hl _ ih
   have hw := zm (n := done.length) (by omega)
   (refine zi ?_; conv => whnf)
   repeat' ((with_reducible refine way ?_ ?_) <;> (intro h; conv => whnf))
   all_goals try (exfalso; omega)
   all_goals (rw [hw]; exact ys [1, 3, 4, 5] 1 (by simp [hH]) (by simp) rfl rfl (ih () trivial))
theorem ycm (n : Int) (u : ByteArray) (den : Int) (ps : List Piece) (k0 k1 : Ex) : zx Tryz.prog G 120 [(Ex.mk 14 n u den ps [k0, k1]).sv] (sB (zaf 14 u k0 k1 2 (decide (k1.unit = k0.unit)))) := by
 have hrows := zr [k0, k1]
 have hlen : (zd [k0, k1]).length = 2 := by rw [hrows]; rfl
 have h0 : (zd [k0, k1])[0]? = some k0.cells := by rw [hrows]; rfl
 have h1 : (zd [k0, k1])[1]? = some k1.cells := by rw [hrows]; rfl
 have hkl : [k0, k1].length = 2 := rfl
 generalize [k0, k1] = ks at hrows hlen h0 h1 hkl ⊢
 refine zc Tryz.func120 rfl (by rw [Tryz.ntmps120]; simp) rfl rfl ?_; intro E hH hK
 obtain ⟨o0, n0, u0, d0, p0, q0⟩ := k0
 obtain ⟨o1, n1, u1, d1, p1, q1⟩ := k1
 replace hK : ∀ H', E.K (sB (decide (u = u0) && !decide (u0 = tT) && decide (o1 = 1) && decide (u1 = tN) && decide (1 <= n1) && decide (n1 <= 1000000))) H' := by
  intro H'
  have := hK H'
  rw [yum] at this
  exact this
 (refine zi ?_; conv => whnf)
 refine zh rfl rfl  (row := (Ex.mk o0 n0 u0 d0 p0 q0).cells) h0 ?_
 (refine zl ?_; conv => whnf)
 refine zh rfl rfl  (row := (Ex.mk o1 n1 u1 d1 p1 q1).cells) h1 ?_
 (refine zl ?_; conv => whnf)
 refine zf [1, 3, 4, 5] ?_
 refine zp ks (fun i (_ : Unit) => [(1, .ptr 0 0), (3, sS u0), (4, sS u1), (5, sI i)]) (fun _ _ => [.cells [sI 14, sI n, sS u, sI den, .imm (.isl 3 (ps.map Piece.cells)), .imm (.isl 6 (zd ks))]])
  (fun _ _ _ => True) () trivial ?_ ?_
 ·as_aux_lemma =>
   rintro _ _
   (refine zi ?_; conv => whnf)
   repeat' ((with_reducible refine way ?_ ?_) <;> (intro h; conv => whnf))
   all_goals try (exfalso; omega)
   all_goals try exact kB hK (by simp [tT, *]; done)
   refine zh rfl rfl  (row := (Ex.mk o1 n1 u1 d1 p1 q1).cells) h1 ?_
   (refine zl ?_; conv => whnf)
   repeat' ((with_reducible refine way ?_ ?_) <;> (intro h; conv => whnf))
   all_goals try exact kB hK (by simp [tT, *]; done)
   refine zh rfl rfl  (row := (Ex.mk o1 n1 u1 d1 p1 q1).cells) h1 ?_
   (refine zl ?_; conv => whnf)
   repeat' ((with_reducible refine way ?_ ?_) <;> (intro h; conv => whnf))
   all_goals try exact kB hK (by simp [tT, *]; done)
   refine zh rfl rfl  (row := (Ex.mk o1 n1 u1 d1 p1 q1).cells) h1 ?_
   (refine zl ?_; conv => whnf)
   repeat' ((with_reducible refine way ?_ ?_) <;> (intro h; conv => whnf))
   all_goals exact kB hK (by simp [tT, *])
 ·as_aux_lemma =>
   rintro done k rest _ ha hl _ ih
   have hw := zm (n := done.length) (by omega)
   (refine zi ?_; conv => whnf)
   repeat' ((with_reducible refine way ?_ ?_) <;> (intro h; conv => whnf))
   all_goals try (exfalso; omega)
   all_goals (rw [hw]; exact ys [1, 3, 4, 5] 1 (by simp [hH]) (by simp) rfl rfl (ih () trivial))
theorem ycn (n : Int) (u : ByteArray) (den : Int) (ps : List Piece) (k0 k1 : Ex) : zx Tryz.prog G 120 [(Ex.mk 15 n u den ps [k0, k1]).sv] (sB (zaf 15 u k0 k1 2 (decide (k1.unit = k0.unit)))) := by
 have hrows := zr [k0, k1]
 have hlen : (zd [k0, k1]).length = 2 := by rw [hrows]; rfl
 have h0 : (zd [k0, k1])[0]? = some k0.cells := by rw [hrows]; rfl
 have h1 : (zd [k0, k1])[1]? = some k1.cells := by rw [hrows]; rfl
 have hkl : [k0, k1].length = 2 := rfl
 generalize [k0, k1] = ks at hrows hlen h0 h1 hkl ⊢
 refine zc Tryz.func120 rfl (by rw [Tryz.ntmps120]; simp) rfl rfl ?_; intro E hH hK
 obtain ⟨o0, n0, u0, d0, p0, q0⟩ := k0
 obtain ⟨o1, n1, u1, d1, p1, q1⟩ := k1
 replace hK : ∀ H', E.K (sB (decide (u0 = tM) && zeq u1 && decide (u = u1))) H' := by
  intro H'
  have := hK H'
  rw [yun] at this
  exact this
 (refine zi ?_; conv => whnf)
 refine zh rfl rfl  (row := (Ex.mk o0 n0 u0 d0 p0 q0).cells) h0 ?_
 (refine zl ?_; conv => whnf)
 refine zh rfl rfl  (row := (Ex.mk o1 n1 u1 d1 p1 q1).cells) h1 ?_
 (refine zl ?_; conv => whnf)
 refine zf [1, 3, 4, 5] ?_
 refine zp ks (fun i (_ : Unit) => [(1, .ptr 0 0), (3, sS u0), (4, sS u1), (5, sI i)]) (fun _ _ => [.cells [sI 15, sI n, sS u, sI den, .imm (.isl 3 (ps.map Piece.cells)), .imm (.isl 6 (zd ks))]])
  (fun _ _ _ => True) () trivial ?_ ?_
 ·as_aux_lemma =>
   rintro _ _
   (refine zi ?_; conv => whnf)
   repeat' ((with_reducible refine way ?_ ?_) <;> (intro h; conv => whnf))
   all_goals try (exfalso; omega)
   all_goals try exact kB hK (by simp [tM, *]; done)
   refine ze rfl  (zve G u1) ?_
   (refine zl ?_; conv => whnf)
   repeat' ((with_reducible refine way ?_ ?_) <;> (intro h; conv => whnf))
   all_goals exact kB hK (by simp [tM, *])
 ·as_aux_lemma =>
   rintro done k rest _ ha hl _ ih
   have hw := zm (n := done.length) (by omega)
   (refine zi ?_; conv => whnf)
   repeat' ((with_reducible refine way ?_ ?_) <;> (intro h; conv => whnf))
   all_goals try (exfalso; omega)
   all_goals (rw [hw]; exact ys [1, 3, 4, 5] 1 (by simp [hH]) (by simp) rfl rfl (ih () trivial))
theorem zwm (op n : Int) (u : ByteArray) (den : Int) (ps : List Piece) (k0 k1 : Ex) (hc : op < 6 \/ 17 < op) : zx Tryz.prog G 120 [(Ex.mk op n u den ps [k0, k1]).sv] (sB (zaf op u k0 k1 2 (decide (k1.unit = k0.unit)))) := by
 have hrows := zr [k0, k1]
 have hlen : (zd [k0, k1]).length = 2 := by rw [hrows]; rfl
 have h0 : (zd [k0, k1])[0]? = some k0.cells := by rw [hrows]; rfl
 have h1 : (zd [k0, k1])[1]? = some k1.cells := by rw [hrows]; rfl
 have hkl : [k0, k1].length = 2 := rfl
 generalize [k0, k1] = ks at hrows hlen h0 h1 hkl ⊢
 refine zc Tryz.func120 rfl (by rw [Tryz.ntmps120]; simp) rfl rfl ?_; intro E hH hK
 obtain ⟨o0, n0, u0, d0, p0, q0⟩ := k0
 obtain ⟨o1, n1, u1, d1, p1, q1⟩ := k1
 rw [ypq _ _ _ _ _ hc] at hK
 (refine zi ?_; conv => whnf)
 refine zh rfl rfl  (row := (Ex.mk o0 n0 u0 d0 p0 q0).cells) h0 ?_
 (refine zl ?_; conv => whnf)
 refine zh rfl rfl  (row := (Ex.mk o1 n1 u1 d1 p1 q1).cells) h1 ?_
 (refine zl ?_; conv => whnf)
 refine zf [1, 3, 4, 5] ?_
 refine zp ks (fun i (_ : Unit) => [(1, .ptr 0 0), (3, sS u0), (4, sS u1), (5, sI i)]) (fun _ _ => [.cells [sI op, sI n, sS u, sI den, .imm (.isl 3 (ps.map Piece.cells)), .imm (.isl 6 (zd ks))]])
  (fun _ _ _ => True) () trivial ?_ ?_
 ·as_aux_lemma =>
   rintro _ _
   (refine zi ?_; conv => whnf)
   repeat' ((with_reducible refine way ?_ ?_) <;> (intro h; conv => whnf))
   all_goals try (exfalso; omega)
   all_goals exact hK _
 ·as_aux_lemma =>
   rintro done k rest _ ha hl _ ih
   have hw := zm (n := done.length) (by omega)
   (refine zi ?_; conv => whnf)
   repeat' ((with_reducible refine way ?_ ?_) <;> (intro h; conv => whnf))
   all_goals try (exfalso; omega)
   all_goals (rw [hw]; exact ys [1, 3, 4, 5] 1 (by simp [hH]) (by simp) rfl rfl (ih () trivial))
theorem zwn (op n : Int) (u : ByteArray) (den : Int) (ps : List Piece) (k0 k1 k2 : Ex) (kr : List Ex) (hsz : kr.length <= 100000) (hop : ¬ (op = 16 \/ op = 17)) :
  zx Tryz.prog G 120 [(Ex.mk op n u den ps (k0 :: k1 :: k2 :: kr)).sv] (sB false) := by
 have hrows := zr (k0 :: k1 :: k2 :: kr)
 have hlen : (zd (k0 :: k1 :: k2 :: kr)).length = kr.length + 3 := by rw [hrows]; simp
 have h0 : (zd (k0 :: k1 :: k2 :: kr))[0]? = some k0.cells := by rw [hrows]; rfl
 have h1 : (zd (k0 :: k1 :: k2 :: kr))[1]? = some k1.cells := by rw [hrows]; rfl
 have hkl : (k0 :: k1 :: k2 :: kr).length = kr.length + 3 := by simp
 generalize k0 :: k1 :: k2 :: kr = ks at hrows hlen h0 h1 hkl ⊢
 refine zc Tryz.func120 rfl (by rw [Tryz.ntmps120]; simp) rfl rfl ?_; intro E hH hK
 obtain ⟨o0, n0, u0, d0, p0, q0⟩ := k0
 obtain ⟨o1, n1, u1, d1, p1, q1⟩ := k1
 (refine zi ?_; conv => whnf)
 refine zh rfl rfl  (row := (Ex.mk o0 n0 u0 d0 p0 q0).cells) h0 ?_
 (refine zl ?_; conv => whnf)
 refine zh rfl rfl  (row := (Ex.mk o1 n1 u1 d1 p1 q1).cells) h1 ?_
 (refine zl ?_; conv => whnf)
 refine zf [1, 3, 4, 5] ?_
 refine zp ks (fun i (_ : Unit) => [(1, .ptr 0 0), (3, sS u0), (4, sS u1), (5, sI i)]) (fun _ _ => [.cells [sI op, sI n, sS u, sI den, .imm (.isl 3 (ps.map Piece.cells)), .imm (.isl 6 (zd ks))]])
  (fun _ _ _ => True) () trivial ?_ ?_
 ·as_aux_lemma =>
   rintro _ _
   (refine zi ?_; conv => whnf)
   repeat' ((with_reducible refine way ?_ ?_) <;> (intro h; conv => whnf))
   all_goals try (exfalso; omega)
   all_goals exact hK _
 ·as_aux_lemma =>
   rintro done k rest _ ha hl _ ih
   have hw := zm (n := done.length) (by omega)
   (refine zi ?_; conv => whnf)
   repeat' ((with_reducible refine way ?_ ?_) <;> (intro h; conv => whnf))
   all_goals try (exfalso; omega)
   all_goals (rw [hw]; exact ys [1, 3, 4, 5] 1 (by simp [hH]) (by simp) rfl rfl (ih () trivial))
theorem zwo (op n : Int) (u : ByteArray) (den : Int) (ps : List Piece) (k0 k1 : Ex) (kr : List Ex) (hsz : kr.length <= 100000) (hop : op = 16 \/ op = 17) :
  zx Tryz.prog G 120 [(Ex.mk op n u den ps (k0 :: k1 :: kr)).sv] (sB (zbn (k0 :: k1 :: kr) && (!decide (k0.unit = tT) && decide (u = k0.unit)))) := by
 have hrows := zr (k0 :: k1 :: kr)
 have hlen : (zd (k0 :: k1 :: kr)).length = kr.length + 2 := by rw [hrows]; simp
 have h0 : (zd (k0 :: k1 :: kr))[0]? = some k0.cells := by rw [hrows]; rfl
 have h1 : (zd (k0 :: k1 :: kr))[1]? = some k1.cells := by rw [hrows]; rfl
 have hkl : (k0 :: k1 :: kr).length = kr.length + 2 := by simp
 have hsm : zbn (k0 :: k1 :: kr) = (k0 :: k1 :: kr).all fun x => decide (x.unit = k0.unit) := rfl
 generalize k0 :: k1 :: kr = ks at hrows hlen h0 h1 hkl hsm ⊢
 refine zc Tryz.func120 rfl (by rw [Tryz.ntmps120]; simp) rfl rfl ?_; intro E hH hK
 obtain ⟨o0, n0, u0, d0, p0, q0⟩ := k0
 obtain ⟨o1, n1, u1, d1, p1, q1⟩ := k1
 replace hK : ∀ H', E.K (sB (zbn ks && (!decide (u0 = tT) && decide (u = u0)))) H' := hK
 (refine zi ?_; conv => whnf)
 refine zh rfl rfl  (row := (Ex.mk o0 n0 u0 d0 p0 q0).cells) h0 ?_
 (refine zl ?_; conv => whnf)
 refine zh rfl rfl  (row := (Ex.mk o1 n1 u1 d1 p1 q1).cells) h1 ?_
 (refine zl ?_; conv => whnf)
 refine zf [1, 3, 4, 5] ?_
 refine zp ks (fun i (_ : Unit) => [(1, .ptr 0 0), (3, sS u0), (4, sS u1), (5, sI i)]) (fun _ _ => [.cells [sI op, sI n, sS u, sI den, .imm (.isl 3 (ps.map Piece.cells)), .imm (.isl 6 (zd ks))]])
  (fun done rest _ => zbn ks = rest.all fun x => decide (x.unit = u0)) () hsm ?_ ?_
 ·as_aux_lemma =>
   rintro _ hs
   have hs' : zbn ks = true := by rw [hs]; rfl
   rw [hs', Bool.true_and] at hK
   (refine zi ?_; conv => whnf)
   repeat' ((with_reducible refine way ?_ ?_) <;> (intro h; conv => whnf))
   all_goals try (exfalso; omega)
   all_goals exact kB hK (by simp [tT, *])
 ·as_aux_lemma =>
   rintro done k rest _ ha hl hs ih
   have hw := zm (n := done.length) (by omega)
   have hrow : (zd ks)[((done.length : Nat) : Int).toNat]? = some k.cells := by rw [hrows]; simp [ha]
   obtain ⟨o2, n2, u2, d2, p2, q2⟩ := k
   have hs' : zbn ks = (decide (u2 = u0) && rest.all fun x => decide (x.unit = u0)) := hs
   have hbad : ¬ u2 = u0 -> (zbn ks && (!decide (u0 = tT) && decide (u = u0))) = false := fun h => by rw [hs', decide_eq_false h]; rfl
   (refine zi ?_; conv => whnf)
   repeat' ((with_reducible refine way ?_ ?_) <;> (intro h; conv => whnf))
   all_goals try (exfalso; omega)
   all_goals refine zh rfl rfl  (row := (Ex.mk o2 n2 u2 d2 p2 q2).cells) hrow ?_
   all_goals (refine zl ?_; conv => whnf)
   all_goals repeat' ((with_reducible refine way ?_ ?_) <;> (intro h; conv => whnf))
   all_goals first
    | exact kB hK (hbad (by assumption))
    | (rw [hw]; exact ys [1, 3, 4, 5] 1 (by simp [hH]) (by simp) rfl rfl (ih () (by rw [hs', decide_eq_true (by assumption)]; rfl)))
theorem ynh (op n : Int) (u : ByteArray) (den : Int) (ps : List Piece) (k0 k1 : Ex) (kr : List Ex) (hsz : kr.length <= 100000) :
  zx Tryz.prog G 120 [(Ex.mk op n u den ps (k0 :: k1 :: kr)).sv] (sB (zaf op u k0 (((k0 :: k1 :: kr).getLast?).getD k0) (k0 :: k1 :: kr).length (zbn (k0 :: k1 :: kr)))) := by
 by_cases hop : op = 16 \/ op = 17
 ·have := zwo G op n u den ps k0 k1 kr hsz hop
  cases hs : zbn (k0 :: k1 :: kr) with
  | true =>
   rw [hs, Bool.true_and] at this
   have h2 : (2 : Int) <= ((k0 :: k1 :: kr).length : Nat) := by simp; omega
   rcases hop with rfl | rfl
   ·rw [yug _ _ _ _ h2]; exact this
   ·rw [yuh _ _ _ _ h2]; exact this
  | false =>
   rw [hs, Bool.false_and] at this
   have e : zaf op u k0 (((k0 :: k1 :: kr).getLast?).getD k0) (k0 :: k1 :: kr).length false = false := by
    rcases hop with rfl | rfl <;> simp [zaf]
   rw [e]; exact this
 ·cases kr with
  | cons k2 kr =>
   have e : zaf op u k0 (((k0 :: k1 :: k2 :: kr).getLast?).getD k0) (k0 :: k1 :: k2 :: kr).length (zbn (k0 :: k1 :: k2 :: kr)) = false := by
    simp only [zaf, if_neg hop]
    rw [decide_eq_false (p := (((k0 :: k1 :: k2 :: kr).length : Nat) : Int) = 2) (by simp; omega), decide_eq_false (p := (((k0 :: k1 :: k2 :: kr).length : Nat) : Int) = 1) (by simp; omega)]
    simp
   rw [e]
   exact zwn G op n u den ps k0 k1 k2 kr (by simp at hsz; omega) hop
  | nil =>
   have e1 : ([k0, k1].getLast?).getD k0 = k1 := rfl
   have e2 : (([k0, k1].length : Nat) : Int) = 2 := rfl
   have e3 : zbn [k0, k1] = decide (k1.unit = k0.unit) := by simp [zbn]
   rw [e1, e2, e3]
   have hc : op = 6 \/ op = 7 \/ op = 8 \/ op = 9 \/ op = 10 \/ op = 11 \/ op = 12 \/ op = 13 \/ op = 14 \/ op = 15 \/ (op < 6 \/ 17 < op) := by omega
   rcases hc with rfl | rfl | rfl | rfl | rfl | rfl | rfl | rfl | rfl | rfl | hc
   ·exact yif G n u den ps k0 k1
   ·exact yig G n u den ps k0 k1
   ·exact yih G n u den ps k0 k1
   ·exact yii G n u den ps k0 k1
   ·exact yci G n u den ps k0 k1
   ·exact ycj G n u den ps k0 k1
   ·exact yck G n u den ps k0 k1
   ·exact ycl G n u den ps k0 k1
   ·exact ycm G n u den ps k0 k1
   ·exact ycn G n u den ps k0 k1
   ·exact zwm G op n u den ps k0 k1 hc
def zhj (c : Codex) (op n : Int) (u : ByteArray) (den : Int) (ps : List Piece) (ks : List Ex) : Bool :=
 if op = 18 then decide (n = 0) && decide (ks.length = 1) && zeq u && (match ks with | k :: _ => decide (u = k.unit) | [] => false) && jr den ps
 else if ¬ den = 0 \/ 0 < ps.length then false
 else if 1 <= op /\ op <= 4 then decide (ks.length = 0) && zad c op n u
 else decide (n = 0) && (match ks.head?, ks.getLast? with | some f, some l => zaf op u f l ks.length (zbn ks) | _, _ => false)
mutual
def zfe (c : Codex) : Ex -> Bool
 | .mk op n u den ps ks => znz c ks && zhj c op n u den ps ks
def znz (c : Codex) : List Ex -> Bool
 | [] => true
 | k :: r => zfe c k && znz c r
end
theorem yij (c : Codex) (ks : List Ex) : znz c ks = ks.all (zfe c) := by
 induction ks with
 | nil => rfl
 | cons k r ih => simp [znz, ih]
theorem zos (c : Codex) (op n : Int) (u : ByteArray) (h : ¬ (1 <= op /\ op <= 4)) : zad c op n u = false := by
 simp only [zad]
 rw [if_neg (by omega), if_neg (by omega), if_neg (by omega), if_neg (by omega)]
theorem zzu (c : Codex) (op n : Int) (u : ByteArray) (den : Int) (ps : List Piece) :
  zhj c op n u den ps [] = if (¬ (1 <= op /\ op <= 4) /\ ¬ n = 0) \/ (¬ op = 18 /\ (¬ den = 0 \/ 0 < ps.length)) then false else zad c op n u := by
 simp only [zhj]
 by_cases h18 : op = 18
 ·subst h18
  rw [if_pos rfl, zos c 18 n u (by omega)]
  simp
 ·rw [if_neg h18]
  by_cases hd : ¬ den = 0 \/ 0 < ps.length
  ·rw [if_pos hd, if_pos (.inr ⟨h18, hd⟩)]
  ·rw [if_neg hd]
   by_cases h4 : 1 <= op /\ op <= 4
   ·rw [if_pos h4, if_neg (by simp [h4, hd])]
    simp
   ·rw [if_neg h4, zos c op n u h4]
    simp
theorem zzv (c : Codex) (op n : Int) (u : ByteArray) (den : Int) (ps : List Piece) (k : Ex) :
  zhj c op n u den ps [k] = if (¬ (1 <= op /\ op <= 4) /\ ¬ n = 0) \/ (¬ op = 18 /\ (¬ den = 0 \/ 0 < ps.length)) then false
   else (decide (op = 5) && decide (u = tT) && decide (k.unit = tT)) || (decide (op = 18) && decide (u = k.unit) && zeq u && jr den ps) := by
 simp only [zhj]
 by_cases h18 : op = 18
 ·subst h18
  rw [if_pos rfl]
  by_cases hn : n = 0
  ·rw [if_neg (by simp [hn])]
   simp [hn]
   cases zeq u <;> simp
  ·rw [if_pos (by left; exact ⟨by omega, hn⟩)]
   simp [hn]
 ·rw [if_neg h18]
  by_cases hd : ¬ den = 0 \/ 0 < ps.length
  ·rw [if_pos hd, if_pos (.inr ⟨h18, hd⟩)]
  ·rw [if_neg hd]
   by_cases h4 : 1 <= op /\ op <= 4
   ·rw [if_pos h4, if_neg (by simp [h4, hd])]
    have h5 : ¬ op = 5 := by omega
    simp [h18, h5]
   ·rw [if_neg h4]
    by_cases hn : n = 0
    ·rw [if_neg (by simp [hn, hd])]
     by_cases h5 : op = 5
     ·subst h5; simp [zaf, hn]
     ·simp [zaf, hn, h5, h18]
    ·rw [if_pos (.inl ⟨h4, hn⟩)]
     simp [hn]
theorem zuh (c : Codex) (op n : Int) (u : ByteArray) (den : Int) (ps : List Piece) (k0 k1 : Ex) (kr : List Ex) :
  zhj c op n u den ps (k0 :: k1 :: kr) = if (¬ (1 <= op /\ op <= 4) /\ ¬ n = 0) \/ (¬ op = 18 /\ (¬ den = 0 \/ 0 < ps.length)) then false
   else zaf op u k0 (((k0 :: k1 :: kr).getLast?).getD k0) (k0 :: k1 :: kr).length (zbn (k0 :: k1 :: kr)) := by
 have hno : op = 18 \/ (1 <= op /\ op <= 4) -> zaf op u k0 (((k0 :: k1 :: kr).getLast?).getD k0) (k0 :: k1 :: kr).length (zbn (k0 :: k1 :: kr)) = false := fun h => by
  simp only [zaf]
  rw [if_neg (by omega), if_neg (by omega), if_neg (by omega), if_neg (by omega), if_neg (by omega), if_neg (by omega), if_neg (by omega), if_neg (by omega), if_neg (by omega)]
 have hlast : ∃ l, (k0 :: k1 :: kr).getLast? = some l := ⟨_, List.getLast?_eq_some_getLast (by simp)⟩
 obtain ⟨l, hl⟩ := hlast
 simp only [zhj]
 by_cases h18 : op = 18
 ·rw [if_pos h18, hno (.inl h18)]
  simp
 ·rw [if_neg h18]
  by_cases hd : ¬ den = 0 \/ 0 < ps.length
  ·rw [if_pos hd, if_pos (.inr ⟨h18, hd⟩)]
  ·rw [if_neg hd]
   by_cases h4 : 1 <= op /\ op <= 4
   ·rw [if_pos h4, if_neg (by simp [h4, hd]), hno (.inr h4)]
    simp
   ·rw [if_neg h4]
    by_cases hn : n = 0
    ·rw [if_neg (by simp [hn, hd]), hl]
     simp [hn]
    ·rw [if_pos (.inl ⟨h4, hn⟩)]
     simp [hn]
theorem zzw (c : Codex) (hsz : c.arts.length <= 9223372036854775807) (N : Nat) : ∀ (e : Ex), SizeOf.sizeOf e < N -> xg e <= 1000 -> zx Tryz.prog G 84 [c.sv, e.sv] (sB (zfe c e)) := by
 induction N with
 | zero => intro e h; omega
 | succ N IH =>
 intro e he hs
 obtain ⟨op, n, u, den, ps, ks⟩ := e
 simp only [Ex.mk.sizeOf_spec] at he
 simp only [xg] at hs
 have hrows := zr ks
 have hlen : (zd ks).length = ks.length := by rw [hrows]; simp
 have hkl := zec ks
 have hpl : (ps.map Piece.cells).length = ps.length := by simp
 have hfit : zfe c (.mk op n u den ps ks) = (ks.all (zfe c) && zhj c op n u den ps ks) := by simp only [zfe, yij]
 rw [hfit]
 refine zc Tryz.func84 rfl (by rw [Tryz.ntmps84]; simp) rfl rfl ?_; intro E hH hK
 (refine zi ?_; conv => whnf)
 refine zf [2, 3, 5] ?_
 refine zp ks (fun i (_ : Unit) => [(2, .ptr 0 0), (3, .ptr 1 0), (5, sI i)])
  (fun _ _ => [.cells [.imm (zk c.facts), .imm (zk c.lines), .imm (ym c.arts)], .cells [sI op, sI n, sS u, sI den, .imm (.isl 3 (ps.map Piece.cells)), .imm (.isl 6 (zd ks))]])
  (fun done rest _ => ks.all (zfe c) = rest.all (zfe c)) () rfl ?_ ?_
 ·as_aux_lemma =>
   rintro _ h1
   have hall : ks.all (zfe c) = true := by rw [h1]; rfl
   rw [hall, Bool.true_and] at hK
   clear IH h1 hfit
   by_cases hbad : (¬ (1 <= op /\ op <= 4) /\ ¬ n = 0) \/ (¬ op = 18 /\ (¬ den = 0 \/ 0 < ps.length))
   ·have hr : zhj c op n u den ps ks = false := by
     match ks with
     | [] => rw [zzu, if_pos hbad]
     | [k] => rw [zzv, if_pos hbad]
     | k0 :: k1 :: kr => rw [zuh, if_pos hbad]
    rw [hr] at hK
    as_aux_lemma =>
     (refine zi ?_; conv => whnf)
     repeat' ((with_reducible refine way ?_ ?_) <;> (intro h; first | (exfalso; omega) | (conv => whnf)))
     all_goals try (exfalso; omega)
     all_goals exact hK _
   ·match ks with
    | [] =>
     rw [zzu, if_neg hbad] at hK
     as_aux_lemma =>
      (refine zi ?_; conv => whnf)
      repeat' ((with_reducible refine way ?_ ?_) <;> (intro h; first | (exfalso; omega) | (conv => whnf)))
      all_goals try (exfalso; omega)
      all_goals refine ze rfl  (zzt G c op n u den ps [] hsz) ?_
      all_goals (refine zl ?_; conv => whnf)
      all_goals exact hK _
    | [k] =>
     rw [zzv, if_neg hbad] at hK
     obtain ⟨o0, n0, u0, d0, p0, q0⟩ := k
     replace hK : ∀ H', E.K (sB ((decide (op = 5) && decide (u = tT) && decide (u0 = tT)) || (decide (op = 18) && decide (u = u0) && zeq u && jr den ps))) H' := hK
     have h0 : (zd [Ex.mk o0 n0 u0 d0 p0 q0])[0]? = some (Ex.mk o0 n0 u0 d0 p0 q0).cells := by rw [zr]; rfl
     have hlen1 : (zd [Ex.mk o0 n0 u0 d0 p0 q0]).length = 1 := by rw [zr]; rfl
     generalize zd [Ex.mk o0 n0 u0 d0 p0 q0] = rows at h0 hlen hlen1 ⊢
     by_cases h5 : op = 5
     ·subst h5
      replace hK : ∀ H', E.K (sB (decide (u = tT) && decide (u0 = tT))) H' := by simpa using hK
      as_aux_lemma =>
       (refine zi ?_; conv => whnf)
       repeat' ((with_reducible refine way ?_ ?_) <;> (intro h; first | (exfalso; omega) | (conv => whnf)))
       all_goals try (exfalso; omega)
       all_goals (refine xa mixed rfl ?_; refine zn [] ?_; conv => whnf)
       all_goals repeat' ((with_reducible refine way ?_ ?_) <;> (intro h; first | (exfalso; omega) | (conv => whnf)))
       all_goals try refine xw rfl rfl  (row := (Ex.mk o0 n0 u0 d0 p0 q0).cells) h0 ?_
       all_goals try (refine zn [] ?_; conv => whnf)
       all_goals try repeat' ((with_reducible refine way ?_ ?_) <;> (intro h; first | (exfalso; omega) | (conv => whnf)))
       all_goals try (refine zi ?_; conv => whnf)
       all_goals exact kB hK (by simp [tT, *])
     by_cases h18 : op = 18
     ·subst h18
      replace hK : ∀ H', E.K (sB (decide (u = u0) && zeq u && jr den ps)) H' := by simpa using hK
      as_aux_lemma =>
       (refine zi ?_; conv => whnf)
       repeat' ((with_reducible refine way ?_ ?_) <;> (intro h; first | (exfalso; omega) | (conv => whnf)))
       all_goals try (exfalso; omega)
       (refine xa mixed rfl ?_; refine zn [] ?_; conv => whnf)
       refine xw rfl rfl  (row := (Ex.mk o0 n0 u0 d0 p0 q0).cells) h0 ?_
       (refine zn [] ?_; conv => whnf)
       repeat' ((with_reducible refine way ?_ ?_) <;> (intro h; first | (exfalso; omega) | (conv => whnf)))
       ·refine zae rfl  (zve G u) ?_
        cases hc : zeq u with
        | false =>
         (refine zn [] ?_; conv => whnf)
         (refine zi ?_; conv => whnf)
         exact kB hK (by simp [hc])
        | true =>
         (refine zn [] ?_; conv => whnf)
         refine zae rfl  (zvf G den ps) ?_
         (refine zn [] ?_; conv => whnf)
         (refine zi ?_; conv => whnf)
         exact kB hK (by rw [hc, decide_eq_true h]; rfl)
       ·(refine zi ?_; conv => whnf)
        exact kB hK (by rw [decide_eq_false h]; rfl)
     ·replace hK : ∀ H', E.K (sB false) H' := by simpa [h5, h18] using hK
      as_aux_lemma =>
       (refine zi ?_; conv => whnf)
       repeat' ((with_reducible refine way ?_ ?_) <;> (intro h; first | (exfalso; omega) | (conv => whnf)))
       all_goals try (exfalso; omega)
       all_goals (refine xa mixed rfl ?_; refine zn [] ?_; conv => whnf)
       all_goals repeat' ((with_reducible refine way ?_ ?_) <;> (intro h; first | (exfalso; omega) | (conv => whnf)))
       all_goals try (exfalso; omega)
       all_goals (refine zi ?_; conv => whnf)
       all_goals exact hK _
    | k0 :: k1 :: kr =>
     rw [zuh, if_neg hbad] at hK
     as_aux_lemma =>
      (refine zi ?_; conv => whnf)
      repeat' ((with_reducible refine way ?_ ?_) <;> (intro h; first | (exfalso; omega) | (conv => whnf)))
      all_goals try (exfalso; omega)
      all_goals refine ze rfl  (ynh G op n u den ps k0 k1 kr (by simp at hkl; omega)) ?_
      all_goals (refine zl ?_; conv => whnf)
      all_goals exact hK _
 ·as_aux_lemma =>
   rintro done k rest _ ha hl h1 ih
   have hkm : SizeOf.sizeOf k < SizeOf.sizeOf ks := List.sizeOf_lt_of_mem (by rw [ha]; simp)
   have hks : xg k <= ye ks := zqy (by rw [ha]; simp)
   have hw := zm (n := done.length) (by omega)
   have hrow : (zd ks)[((done.length : Nat) : Int).toNat]? = some k.cells := by rw [hrows]; simp [ha]
   have hcall := IH k (by omega) (by omega)
   simp only [List.all_cons] at h1
   obtain ⟨o1, n1, u1, d1, p1, q1⟩ := k
   (refine zi ?_; conv => whnf)
   repeat' ((with_reducible refine way ?_ ?_) <;> (intro h; first | (exfalso; omega) | (conv => whnf)))
   all_goals try (exfalso; omega)
   (refine xa mixed rfl ?_; refine zn [] ?_; conv => whnf)
   refine xw rfl rfl  (row := (Ex.mk o1 n1 u1 d1 p1 q1).cells) hrow ?_
   (refine zn [] ?_; conv => whnf)
   refine zae rfl  hcall ?_
   cases hb : zfe c (.mk o1 n1 u1 d1 p1 q1) with
   | false =>
    (refine zn [] ?_; conv => whnf)
    (refine zi ?_; conv => whnf)
    exact kB hK (by rw [h1, hb]; rfl)
   | true =>
    (refine zn [] ?_; conv => whnf)
    (refine zi ?_; conv => whnf)
    rw [hw]
    exact ys [2, 3, 5] 2 (by simp [hH]) (by simp) rfl rfl (ih () (by rw [h1, hb]; rfl))
def wn (c : Codex) (e : Ex) : Bool := zck e && zfe c e
theorem zkg (c : Codex) (hsz : c.arts.length <= 9223372036854775807) (e : Ex) : zx Tryz.prog G 53 [c.sv, e.sv] (sB (wn c e)) := by
 have hw := zvj G e
 have hf := fun h => zzw G c hsz (SizeOf.sizeOf e + 1) e (by omega) h
 have he : wn c e = (zck e && zfe c e) := rfl
 rw [he]
 have hsmall : zck e = true -> xg e <= 1000 := fun h => by simp [zck] at h; omega
 obtain ⟨op, n, u, den, ps, ks⟩ := e
 refine zc Tryz.func53 rfl (by rw [Tryz.ntmps53]; simp) rfl rfl ?_; intro E hH hK
 (refine zi ?_; conv => whnf)
 refine ze rfl  hw ?_
 cases hwi : zck (.mk op n u den ps ks) with
 | false =>
  (refine zl ?_; conv => whnf)
  exact kB hK (by rw [hwi]; rfl)
 | true =>
  (refine zl ?_; conv => whnf)
  refine ze rfl  (hf (hsmall hwi)) ?_
  (refine zl ?_; conv => whnf)
  exact kB hK (by rw [hwi]; rfl)
def zdd (c : Codex) (n : Int) : Int := match c.arts[(jj n c.arts 0).toNat]? with | some a => a.line | none => 0
def jh (c : Codex) (a : Article) : Bool :=
 decide (1 <= a.number /\ a.number <= 1000000 /\ 0 <= a.line /\ a.line < c.lines.length /\ a.line = zdd c a.number) && zbx a && a.when_.all (fun e => wn c e && decide (e.unit = tT)) &&
 a.unless_.all (fun n => decide (0 <= jj n c.arts 0)) && (wn c a.amount && decide (a.amount.unit = zdn c a.line))
def ziq (c : Codex) : Bool :=
 (qv 0 0 c.facts && decide (c.facts.length <= 32)) && (qv 1 4 c.lines && decide (c.lines.length <= 32)) && decide (c.arts.length <= 60) && c.arts.all (jh c)
end Go.Proofs.YtblpjknmhajcgaaGreatDoor